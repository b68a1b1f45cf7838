/-
  Rows hold, by the kernel (3).
-/
import Derived.Test.YtcdogmjbnlmgeaaGreatDoorVal
import Derived.Test.YtcdogmjbnlmgeaaGreatDoorVar
import Derived.KernelRfl
set_option linter.unusedSimpArgs false
set_option linter.unusedVariables false
set_option maxRecDepth 1000000
namespace Go.Vam
open Go.Proofs

theorem k53 : rows0.all (okRowG srows12b tab6a 60 53) = true := by kernel_rfl
end Go.Vam
