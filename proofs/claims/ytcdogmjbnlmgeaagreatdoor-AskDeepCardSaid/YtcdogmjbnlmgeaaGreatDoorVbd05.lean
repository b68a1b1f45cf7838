/-
  AskDeep: what ask.Parse tells of some of its texts, by the kernel (6).
-/
import Derived.Test.YtcdogmjbnlmgeaaGreatDoorVba
set_option maxRecDepth 1000000
namespace Go.Vam
theorem dp_1_33 : okD 1 33 = true := by kernel_rfl
theorem dp_1_34 : okD 1 34 = true := by kernel_rfl
theorem dp_1_35 : okD 1 35 = true := by kernel_rfl
theorem dp_1_36 : okD 1 36 = true := by kernel_rfl
theorem dp_1_37 : okD 1 37 = true := by kernel_rfl
theorem dp_1_38 : okD 1 38 = true := by kernel_rfl
theorem dp_1_39 : okD 1 39 = true := by kernel_rfl
theorem dpr_5 (n : Nat) (ha : 33 ≤ n) (hb : n < 40) : okD 1 n = true := by
  have : n = 33 ∨ n = 34 ∨ n = 35 ∨ n = 36 ∨ n = 37 ∨ n = 38 ∨ n = 39 := by omega
  rcases this with rfl | rfl | rfl | rfl | rfl | rfl | rfl
  · exact dp_1_33
  · exact dp_1_34
  · exact dp_1_35
  · exact dp_1_36
  · exact dp_1_37
  · exact dp_1_38
  · exact dp_1_39
end Go.Vam
