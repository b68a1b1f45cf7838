/-
  AskDeep: what ask.Parse tells of some of its texts, by the kernel (10).
-/
import Derived.Test.YtcdogmjbnlmgeaaGreatDoorVba
set_option maxRecDepth 1000000
namespace Go.Vam
theorem dp_3_17 : okD 3 17 = true := by kernel_rfl
theorem dp_3_18 : okD 3 18 = true := by kernel_rfl
theorem dp_3_19 : okD 3 19 = true := by kernel_rfl
theorem dp_3_20 : okD 3 20 = true := by kernel_rfl
theorem dp_3_21 : okD 3 21 = true := by kernel_rfl
theorem dpr_9 (n : Nat) (ha : 17 ≤ n) (hb : n < 22) : okD 3 n = true := by
  have : n = 17 ∨ n = 18 ∨ n = 19 ∨ n = 20 ∨ n = 21 := by omega
  rcases this with rfl | rfl | rfl | rfl | rfl
  · exact dp_3_17
  · exact dp_3_18
  · exact dp_3_19
  · exact dp_3_20
  · exact dp_3_21
end Go.Vam
