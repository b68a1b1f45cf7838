/-
  AskDeep: what ask.Parse tells of some of its texts, by the kernel (3).
-/
import Derived.Test.YtcdogmjbnlmgeaaGreatDoorVba
set_option maxRecDepth 1000000
namespace Go.Vam
theorem dp_0_33 : okD 0 33 = true := by kernel_rfl
theorem dp_0_34 : okD 0 34 = true := by kernel_rfl
theorem dp_0_35 : okD 0 35 = true := by kernel_rfl
theorem dp_0_36 : okD 0 36 = true := by kernel_rfl
theorem dp_0_37 : okD 0 37 = true := by kernel_rfl
theorem dp_0_38 : okD 0 38 = true := by kernel_rfl
theorem dp_0_39 : okD 0 39 = true := by kernel_rfl
theorem dpr_2 (n : Nat) (ha : 33 ≤ n) (hb : n < 40) : okD 0 n = true := by
  have : n = 33 ∨ n = 34 ∨ n = 35 ∨ n = 36 ∨ n = 37 ∨ n = 38 ∨ n = 39 := by omega
  rcases this with rfl | rfl | rfl | rfl | rfl | rfl | rfl
  · exact dp_0_33
  · exact dp_0_34
  · exact dp_0_35
  · exact dp_0_36
  · exact dp_0_37
  · exact dp_0_38
  · exact dp_0_39
end Go.Vam
