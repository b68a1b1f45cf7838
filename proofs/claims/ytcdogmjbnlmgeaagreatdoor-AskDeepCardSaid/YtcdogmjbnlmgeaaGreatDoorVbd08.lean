/-
  AskDeep: what ask.Parse tells of some of its texts, by the kernel (9).
-/
import Derived.Test.YtcdogmjbnlmgeaaGreatDoorVba
set_option maxRecDepth 1000000
namespace Go.Vam
theorem dp_3_0 : okD 3 0 = true := by kernel_rfl
theorem dp_3_1 : okD 3 1 = true := by kernel_rfl
theorem dp_3_2 : okD 3 2 = true := by kernel_rfl
theorem dp_3_3 : okD 3 3 = true := by kernel_rfl
theorem dp_3_4 : okD 3 4 = true := by kernel_rfl
theorem dp_3_5 : okD 3 5 = true := by kernel_rfl
theorem dp_3_6 : okD 3 6 = true := by kernel_rfl
theorem dp_3_7 : okD 3 7 = true := by kernel_rfl
theorem dp_3_8 : okD 3 8 = true := by kernel_rfl
theorem dp_3_9 : okD 3 9 = true := by kernel_rfl
theorem dp_3_10 : okD 3 10 = true := by kernel_rfl
theorem dp_3_11 : okD 3 11 = true := by kernel_rfl
theorem dp_3_12 : okD 3 12 = true := by kernel_rfl
theorem dp_3_13 : okD 3 13 = true := by kernel_rfl
theorem dp_3_14 : okD 3 14 = true := by kernel_rfl
theorem dp_3_15 : okD 3 15 = true := by kernel_rfl
theorem dp_3_16 : okD 3 16 = true := by kernel_rfl
theorem dpr_8 (n : Nat) (ha : 0 ≤ n) (hb : n < 17) : okD 3 n = true := by
  have : n = 0 ∨ n = 1 ∨ n = 2 ∨ n = 3 ∨ n = 4 ∨ n = 5 ∨ n = 6 ∨ n = 7 ∨ n = 8 ∨ n = 9 ∨ n = 10 ∨ n = 11 ∨ n = 12 ∨ n = 13 ∨ n = 14 ∨ n = 15 ∨ n = 16 := by omega
  rcases this with rfl | rfl | rfl | rfl | rfl | rfl | rfl | rfl | rfl | rfl | rfl | rfl | rfl | rfl | rfl | rfl | rfl
  · exact dp_3_0
  · exact dp_3_1
  · exact dp_3_2
  · exact dp_3_3
  · exact dp_3_4
  · exact dp_3_5
  · exact dp_3_6
  · exact dp_3_7
  · exact dp_3_8
  · exact dp_3_9
  · exact dp_3_10
  · exact dp_3_11
  · exact dp_3_12
  · exact dp_3_13
  · exact dp_3_14
  · exact dp_3_15
  · exact dp_3_16
end Go.Vam
