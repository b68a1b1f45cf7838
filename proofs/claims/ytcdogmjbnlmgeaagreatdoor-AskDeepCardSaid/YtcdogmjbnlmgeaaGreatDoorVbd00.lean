/-
  AskDeep: what ask.Parse tells of some of its texts, by the kernel (1).
-/
import Derived.Test.YtcdogmjbnlmgeaaGreatDoorVba
set_option maxRecDepth 1000000
namespace Go.Vam
theorem dp_0_0 : okD 0 0 = true := by kernel_rfl
theorem dp_0_1 : okD 0 1 = true := by kernel_rfl
theorem dp_0_2 : okD 0 2 = true := by kernel_rfl
theorem dp_0_3 : okD 0 3 = true := by kernel_rfl
theorem dp_0_4 : okD 0 4 = true := by kernel_rfl
theorem dp_0_5 : okD 0 5 = true := by kernel_rfl
theorem dp_0_6 : okD 0 6 = true := by kernel_rfl
theorem dp_0_7 : okD 0 7 = true := by kernel_rfl
theorem dp_0_8 : okD 0 8 = true := by kernel_rfl
theorem dp_0_9 : okD 0 9 = true := by kernel_rfl
theorem dp_0_10 : okD 0 10 = true := by kernel_rfl
theorem dp_0_11 : okD 0 11 = true := by kernel_rfl
theorem dp_0_12 : okD 0 12 = true := by kernel_rfl
theorem dp_0_13 : okD 0 13 = true := by kernel_rfl
theorem dp_0_14 : okD 0 14 = true := by kernel_rfl
theorem dp_0_15 : okD 0 15 = true := by kernel_rfl
theorem dp_0_16 : okD 0 16 = true := by kernel_rfl
theorem dp_0_17 : okD 0 17 = true := by kernel_rfl
theorem dp_0_18 : okD 0 18 = true := by kernel_rfl
theorem dp_0_19 : okD 0 19 = true := by kernel_rfl
theorem dp_0_20 : okD 0 20 = true := by kernel_rfl
theorem dp_0_21 : okD 0 21 = true := by kernel_rfl
theorem dp_0_22 : okD 0 22 = true := by kernel_rfl
theorem dp_0_23 : okD 0 23 = true := by kernel_rfl
theorem dpr_0 (n : Nat) (ha : 0 ≤ n) (hb : n < 24) : okD 0 n = true := by
  have : n = 0 ∨ n = 1 ∨ n = 2 ∨ n = 3 ∨ n = 4 ∨ n = 5 ∨ n = 6 ∨ n = 7 ∨ n = 8 ∨ n = 9 ∨ n = 10 ∨ n = 11 ∨ n = 12 ∨ n = 13 ∨ n = 14 ∨ n = 15 ∨ n = 16 ∨ n = 17 ∨ n = 18 ∨ n = 19 ∨ n = 20 ∨ n = 21 ∨ n = 22 ∨ n = 23 := by omega
  rcases this with rfl | rfl | rfl | rfl | rfl | rfl | rfl | rfl | rfl | rfl | rfl | rfl | rfl | rfl | rfl | rfl | rfl | rfl | rfl | rfl | rfl | rfl | rfl | rfl
  · exact dp_0_0
  · exact dp_0_1
  · exact dp_0_2
  · exact dp_0_3
  · exact dp_0_4
  · exact dp_0_5
  · exact dp_0_6
  · exact dp_0_7
  · exact dp_0_8
  · exact dp_0_9
  · exact dp_0_10
  · exact dp_0_11
  · exact dp_0_12
  · exact dp_0_13
  · exact dp_0_14
  · exact dp_0_15
  · exact dp_0_16
  · exact dp_0_17
  · exact dp_0_18
  · exact dp_0_19
  · exact dp_0_20
  · exact dp_0_21
  · exact dp_0_22
  · exact dp_0_23
end Go.Vam
