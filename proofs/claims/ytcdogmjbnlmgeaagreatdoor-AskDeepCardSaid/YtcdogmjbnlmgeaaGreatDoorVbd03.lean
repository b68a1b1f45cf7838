/-
  AskDeep: what ask.Parse tells of some of its texts, by the kernel (4).
-/
import Derived.Test.YtcdogmjbnlmgeaaGreatDoorVba
set_option maxRecDepth 1000000
namespace Go.Vam
theorem dp_1_0 : okD 1 0 = true := by kernel_rfl
theorem dp_1_1 : okD 1 1 = true := by kernel_rfl
theorem dp_1_2 : okD 1 2 = true := by kernel_rfl
theorem dp_1_3 : okD 1 3 = true := by kernel_rfl
theorem dp_1_4 : okD 1 4 = true := by kernel_rfl
theorem dp_1_5 : okD 1 5 = true := by kernel_rfl
theorem dp_1_6 : okD 1 6 = true := by kernel_rfl
theorem dp_1_7 : okD 1 7 = true := by kernel_rfl
theorem dp_1_8 : okD 1 8 = true := by kernel_rfl
theorem dp_1_9 : okD 1 9 = true := by kernel_rfl
theorem dp_1_10 : okD 1 10 = true := by kernel_rfl
theorem dp_1_11 : okD 1 11 = true := by kernel_rfl
theorem dp_1_12 : okD 1 12 = true := by kernel_rfl
theorem dp_1_13 : okD 1 13 = true := by kernel_rfl
theorem dp_1_14 : okD 1 14 = true := by kernel_rfl
theorem dp_1_15 : okD 1 15 = true := by kernel_rfl
theorem dp_1_16 : okD 1 16 = true := by kernel_rfl
theorem dp_1_17 : okD 1 17 = true := by kernel_rfl
theorem dp_1_18 : okD 1 18 = true := by kernel_rfl
theorem dp_1_19 : okD 1 19 = true := by kernel_rfl
theorem dp_1_20 : okD 1 20 = true := by kernel_rfl
theorem dp_1_21 : okD 1 21 = true := by kernel_rfl
theorem dp_1_22 : okD 1 22 = true := by kernel_rfl
theorem dp_1_23 : okD 1 23 = true := by kernel_rfl
theorem dpr_3 (n : Nat) (ha : 0 ≤ n) (hb : n < 24) : okD 1 n = true := by
  have : n = 0 ∨ n = 1 ∨ n = 2 ∨ n = 3 ∨ n = 4 ∨ n = 5 ∨ n = 6 ∨ n = 7 ∨ n = 8 ∨ n = 9 ∨ n = 10 ∨ n = 11 ∨ n = 12 ∨ n = 13 ∨ n = 14 ∨ n = 15 ∨ n = 16 ∨ n = 17 ∨ n = 18 ∨ n = 19 ∨ n = 20 ∨ n = 21 ∨ n = 22 ∨ n = 23 := by omega
  rcases this with rfl | rfl | rfl | rfl | rfl | rfl | rfl | rfl | rfl | rfl | rfl | rfl | rfl | rfl | rfl | rfl | rfl | rfl | rfl | rfl | rfl | rfl | rfl | rfl
  · exact dp_1_0
  · exact dp_1_1
  · exact dp_1_2
  · exact dp_1_3
  · exact dp_1_4
  · exact dp_1_5
  · exact dp_1_6
  · exact dp_1_7
  · exact dp_1_8
  · exact dp_1_9
  · exact dp_1_10
  · exact dp_1_11
  · exact dp_1_12
  · exact dp_1_13
  · exact dp_1_14
  · exact dp_1_15
  · exact dp_1_16
  · exact dp_1_17
  · exact dp_1_18
  · exact dp_1_19
  · exact dp_1_20
  · exact dp_1_21
  · exact dp_1_22
  · exact dp_1_23
end Go.Vam
