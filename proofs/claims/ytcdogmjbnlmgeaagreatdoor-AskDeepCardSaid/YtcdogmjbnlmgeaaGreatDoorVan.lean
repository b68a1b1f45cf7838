/-
  Rows hold, by the kernel (2).
-/
import Derived.Test.YtcdogmjbnlmgeaaGreatDoorVal
import Derived.KernelRfl
set_option linter.unusedSimpArgs false
set_option linter.unusedVariables false
set_option maxRecDepth 1000000
namespace Go.Vam
open Go.Proofs

theorem k107 : rows107.all (okRowG [] tab6 60 107) = true := by kernel_rfl
end Go.Vam
