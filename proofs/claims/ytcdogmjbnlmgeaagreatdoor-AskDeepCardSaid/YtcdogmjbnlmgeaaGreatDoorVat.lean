/-
  Rows hold, by the kernel (4).
-/
import Derived.Test.YtcdogmjbnlmgeaaGreatDoorVal
import Derived.KernelRfl
set_option linter.unusedSimpArgs false
set_option linter.unusedVariables false
set_option maxRecDepth 1000000
namespace Go.Vam
open Go.Proofs

theorem k9 : rows0.all (okRowG [] tab7 60 9) = true := by kernel_rfl
theorem k7 : rows0.all (okRowG [] tab8 60 7) = true := by kernel_rfl
end Go.Vam
