/-
  AskDeep: what ask.Parse tells of some of its texts, by the kernel (5).
-/
import Derived.Test.YtcdogmjbnlmgeaaGreatDoorVba
set_option maxRecDepth 1000000
namespace Go.Vam
theorem dp_1_24 : okD 1 24 = true := by kernel_rfl
theorem dp_1_25 : okD 1 25 = true := by kernel_rfl
theorem dp_1_26 : okD 1 26 = true := by kernel_rfl
theorem dp_1_27 : okD 1 27 = true := by kernel_rfl
theorem dp_1_28 : okD 1 28 = true := by kernel_rfl
theorem dp_1_29 : okD 1 29 = true := by kernel_rfl
theorem dp_1_30 : okD 1 30 = true := by kernel_rfl
theorem dp_1_31 : okD 1 31 = true := by kernel_rfl
theorem dp_1_32 : okD 1 32 = true := by kernel_rfl
theorem dpr_4 (n : Nat) (ha : 24 ≤ n) (hb : n < 33) : okD 1 n = true := by
  have : n = 24 ∨ n = 25 ∨ n = 26 ∨ n = 27 ∨ n = 28 ∨ n = 29 ∨ n = 30 ∨ n = 31 ∨ n = 32 := by omega
  rcases this with rfl | rfl | rfl | rfl | rfl | rfl | rfl | rfl | rfl
  · exact dp_1_24
  · exact dp_1_25
  · exact dp_1_26
  · exact dp_1_27
  · exact dp_1_28
  · exact dp_1_29
  · exact dp_1_30
  · exact dp_1_31
  · exact dp_1_32
end Go.Vam
