/-
  Rows with stores hold (1).
-/
import Derived.Test.YtcdogmjbnlmgeaaGreatDoorVao
import Derived.Test.YtcdogmjbnlmgeaaGreatDoorVal
import Derived.KernelRfl
set_option linter.unusedSimpArgs false
set_option linter.unusedVariables false
set_option maxRecDepth 1000000
namespace Go.Vam
open Go.Proofs

theorem kg12R0 : okSG [] tab6 60 148 g12R0 = true := by kernel_rfl
theorem kg12R1 : okSG [] tab6 60 148 g12R1 = true := by kernel_rfl
theorem kg12R2 : okSG [] tab6 60 148 g12R2 = true := by kernel_rfl
theorem kg12R3 : okSG [] tab6 60 148 g12R3 = true := by kernel_rfl
theorem kg12R4 : okSG [] tab6 60 148 g12R4 = true := by kernel_rfl
end Go.Vam
