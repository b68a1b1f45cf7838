/-
  AskDeep: what ask.Parse tells of some of its texts, by the kernel (8).
-/
import Derived.Test.YtcdogmjbnlmgeaaGreatDoorVba
set_option maxRecDepth 1000000
namespace Go.Vam
theorem dp_2_26 : okD 2 26 = true := by kernel_rfl
theorem dp_2_27 : okD 2 27 = true := by kernel_rfl
theorem dp_2_28 : okD 2 28 = true := by kernel_rfl
theorem dp_2_29 : okD 2 29 = true := by kernel_rfl
theorem dp_2_30 : okD 2 30 = true := by kernel_rfl
theorem dp_2_31 : okD 2 31 = true := by kernel_rfl
theorem dp_2_32 : okD 2 32 = true := by kernel_rfl
theorem dp_2_33 : okD 2 33 = true := by kernel_rfl
theorem dp_2_34 : okD 2 34 = true := by kernel_rfl
theorem dp_2_35 : okD 2 35 = true := by kernel_rfl
theorem dp_2_36 : okD 2 36 = true := by kernel_rfl
theorem dp_2_37 : okD 2 37 = true := by kernel_rfl
theorem dp_2_38 : okD 2 38 = true := by kernel_rfl
theorem dp_2_39 : okD 2 39 = true := by kernel_rfl
theorem dpr_7 (n : Nat) (ha : 26 ≤ n) (hb : n < 40) : okD 2 n = true := by
  have : n = 26 ∨ n = 27 ∨ n = 28 ∨ n = 29 ∨ n = 30 ∨ n = 31 ∨ n = 32 ∨ n = 33 ∨ n = 34 ∨ n = 35 ∨ n = 36 ∨ n = 37 ∨ n = 38 ∨ n = 39 := by omega
  rcases this with rfl | rfl | rfl | rfl | rfl | rfl | rfl | rfl | rfl | rfl | rfl | rfl | rfl | rfl
  · exact dp_2_26
  · exact dp_2_27
  · exact dp_2_28
  · exact dp_2_29
  · exact dp_2_30
  · exact dp_2_31
  · exact dp_2_32
  · exact dp_2_33
  · exact dp_2_34
  · exact dp_2_35
  · exact dp_2_36
  · exact dp_2_37
  · exact dp_2_38
  · exact dp_2_39
end Go.Vam
