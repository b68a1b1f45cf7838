/-
  AskDeep: what ask.Parse tells of some of its texts, by the kernel (12).
-/
import Derived.Test.YtcdogmjbnlmgeaaGreatDoorVba
set_option maxRecDepth 1000000
namespace Go.Vam
theorem dp_3_26 : okD 3 26 = true := by kernel_rfl
theorem dp_3_27 : okD 3 27 = true := by kernel_rfl
theorem dp_3_28 : okD 3 28 = true := by kernel_rfl
theorem dpr_11 (n : Nat) (ha : 26 ≤ n) (hb : n < 29) : okD 3 n = true := by
  have : n = 26 ∨ n = 27 ∨ n = 28 := by omega
  rcases this with rfl | rfl | rfl
  · exact dp_3_26
  · exact dp_3_27
  · exact dp_3_28
end Go.Vam
