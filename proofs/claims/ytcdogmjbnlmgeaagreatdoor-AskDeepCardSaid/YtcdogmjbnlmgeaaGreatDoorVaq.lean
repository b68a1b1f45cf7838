/-
  Rows with stores hold (2).
-/
import Derived.Test.YtcdogmjbnlmgeaaGreatDoorVao
import Derived.Test.YtcdogmjbnlmgeaaGreatDoorVal
import Derived.KernelRfl
set_option linter.unusedSimpArgs false
set_option linter.unusedVariables false
set_option maxRecDepth 1000000
namespace Go.Vam
open Go.Proofs

theorem kg12R5 : okSG [] tab6 60 148 g12R5 = true := by kernel_rfl
theorem kg12R6 : okSG [] tab6 60 148 g12R6 = true := by kernel_rfl
theorem kg12R7 : okSG [] tab6 60 148 g12R7 = true := by kernel_rfl
theorem kg12R8 : okSG [] tab6 60 148 g12R8 = true := by kernel_rfl
end Go.Vam
