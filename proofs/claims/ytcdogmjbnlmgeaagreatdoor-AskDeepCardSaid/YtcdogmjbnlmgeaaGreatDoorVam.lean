/-
  Rows hold, by the kernel (1).
-/
import Derived.Test.YtcdogmjbnlmgeaaGreatDoorVal
import Derived.KernelRfl
set_option linter.unusedSimpArgs false
set_option linter.unusedVariables false
set_option maxRecDepth 1000000
namespace Go.Vam
open Go.Proofs

theorem k129 : rows129.all (okRowG [] [] 40 129) = true := by kernel_rfl
theorem k75 : rows75.all (okRowG [] tab1 40 75) = true := by kernel_rfl
theorem k44 : rows44.all (okRowG [] tab2 40 44) = true := by kernel_rfl
theorem k309 : rows0.all (okRowG [] tab3 60 309) = true := by kernel_rfl
theorem k249 : rows0.all (okRowG [] tab4 60 249) = true := by kernel_rfl
theorem k153 : rows0.all (okRowG [] tab5 60 153) = true := by kernel_rfl
end Go.Vam
