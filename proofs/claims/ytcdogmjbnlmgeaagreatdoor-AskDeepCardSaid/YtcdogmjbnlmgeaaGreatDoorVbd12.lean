/-
  AskDeep: what ask.Parse tells of some of its texts, by the kernel (13).
-/
import Derived.Test.YtcdogmjbnlmgeaaGreatDoorVba
set_option maxRecDepth 1000000
namespace Go.Vam
theorem dp_3_29 : okD 3 29 = true := by kernel_rfl
theorem dp_3_30 : okD 3 30 = true := by kernel_rfl
theorem dp_3_31 : okD 3 31 = true := by kernel_rfl
theorem dp_3_32 : okD 3 32 = true := by kernel_rfl
theorem dp_3_33 : okD 3 33 = true := by kernel_rfl
theorem dp_3_34 : okD 3 34 = true := by kernel_rfl
theorem dp_3_35 : okD 3 35 = true := by kernel_rfl
theorem dp_3_36 : okD 3 36 = true := by kernel_rfl
theorem dp_3_37 : okD 3 37 = true := by kernel_rfl
theorem dp_3_38 : okD 3 38 = true := by kernel_rfl
theorem dp_3_39 : okD 3 39 = true := by kernel_rfl
theorem dpr_12 (n : Nat) (ha : 29 ≤ n) (hb : n < 40) : okD 3 n = true := by
  have : n = 29 ∨ n = 30 ∨ n = 31 ∨ n = 32 ∨ n = 33 ∨ n = 34 ∨ n = 35 ∨ n = 36 ∨ n = 37 ∨ n = 38 ∨ n = 39 := by omega
  rcases this with rfl | rfl | rfl | rfl | rfl | rfl | rfl | rfl | rfl | rfl | rfl
  · exact dp_3_29
  · exact dp_3_30
  · exact dp_3_31
  · exact dp_3_32
  · exact dp_3_33
  · exact dp_3_34
  · exact dp_3_35
  · exact dp_3_36
  · exact dp_3_37
  · exact dp_3_38
  · exact dp_3_39
end Go.Vam
