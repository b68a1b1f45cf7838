/-
  AskDeep: what ask.Parse tells of some of its texts, by the kernel (7).
-/
import Derived.Test.YtcdogmjbnlmgeaaGreatDoorVba
set_option maxRecDepth 1000000
namespace Go.Vam
theorem dp_2_0 : okD 2 0 = true := by kernel_rfl
theorem dp_2_1 : okD 2 1 = true := by kernel_rfl
theorem dp_2_2 : okD 2 2 = true := by kernel_rfl
theorem dp_2_3 : okD 2 3 = true := by kernel_rfl
theorem dp_2_4 : okD 2 4 = true := by kernel_rfl
theorem dp_2_5 : okD 2 5 = true := by kernel_rfl
theorem dp_2_6 : okD 2 6 = true := by kernel_rfl
theorem dp_2_7 : okD 2 7 = true := by kernel_rfl
theorem dp_2_8 : okD 2 8 = true := by kernel_rfl
theorem dp_2_9 : okD 2 9 = true := by kernel_rfl
theorem dp_2_10 : okD 2 10 = true := by kernel_rfl
theorem dp_2_11 : okD 2 11 = true := by kernel_rfl
theorem dp_2_12 : okD 2 12 = true := by kernel_rfl
theorem dp_2_13 : okD 2 13 = true := by kernel_rfl
theorem dp_2_14 : okD 2 14 = true := by kernel_rfl
theorem dp_2_15 : okD 2 15 = true := by kernel_rfl
theorem dp_2_16 : okD 2 16 = true := by kernel_rfl
theorem dp_2_17 : okD 2 17 = true := by kernel_rfl
theorem dp_2_18 : okD 2 18 = true := by kernel_rfl
theorem dp_2_19 : okD 2 19 = true := by kernel_rfl
theorem dp_2_20 : okD 2 20 = true := by kernel_rfl
theorem dp_2_21 : okD 2 21 = true := by kernel_rfl
theorem dp_2_22 : okD 2 22 = true := by kernel_rfl
theorem dp_2_23 : okD 2 23 = true := by kernel_rfl
theorem dp_2_24 : okD 2 24 = true := by kernel_rfl
theorem dp_2_25 : okD 2 25 = true := by kernel_rfl
theorem dpr_6 (n : Nat) (ha : 0 ≤ n) (hb : n < 26) : okD 2 n = true := by
  have : n = 0 ∨ n = 1 ∨ n = 2 ∨ n = 3 ∨ n = 4 ∨ n = 5 ∨ n = 6 ∨ n = 7 ∨ n = 8 ∨ n = 9 ∨ n = 10 ∨ n = 11 ∨ n = 12 ∨ n = 13 ∨ n = 14 ∨ n = 15 ∨ n = 16 ∨ n = 17 ∨ n = 18 ∨ n = 19 ∨ n = 20 ∨ n = 21 ∨ n = 22 ∨ n = 23 ∨ n = 24 ∨ n = 25 := by omega
  rcases this with rfl | rfl | rfl | rfl | rfl | rfl | rfl | rfl | rfl | rfl | rfl | rfl | rfl | rfl | rfl | rfl | rfl | rfl | rfl | rfl | rfl | rfl | rfl | rfl | rfl | rfl
  · exact dp_2_0
  · exact dp_2_1
  · exact dp_2_2
  · exact dp_2_3
  · exact dp_2_4
  · exact dp_2_5
  · exact dp_2_6
  · exact dp_2_7
  · exact dp_2_8
  · exact dp_2_9
  · exact dp_2_10
  · exact dp_2_11
  · exact dp_2_12
  · exact dp_2_13
  · exact dp_2_14
  · exact dp_2_15
  · exact dp_2_16
  · exact dp_2_17
  · exact dp_2_18
  · exact dp_2_19
  · exact dp_2_20
  · exact dp_2_21
  · exact dp_2_22
  · exact dp_2_23
  · exact dp_2_24
  · exact dp_2_25
end Go.Vam
