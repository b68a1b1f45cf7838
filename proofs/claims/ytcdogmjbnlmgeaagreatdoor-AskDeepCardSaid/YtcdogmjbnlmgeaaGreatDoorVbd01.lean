/-
  AskDeep: what ask.Parse tells of some of its texts, by the kernel (2).
-/
import Derived.Test.YtcdogmjbnlmgeaaGreatDoorVba
set_option maxRecDepth 1000000
namespace Go.Vam
theorem dp_0_24 : okD 0 24 = true := by kernel_rfl
theorem dp_0_25 : okD 0 25 = true := by kernel_rfl
theorem dp_0_26 : okD 0 26 = true := by kernel_rfl
theorem dp_0_27 : okD 0 27 = true := by kernel_rfl
theorem dp_0_28 : okD 0 28 = true := by kernel_rfl
theorem dp_0_29 : okD 0 29 = true := by kernel_rfl
theorem dp_0_30 : okD 0 30 = true := by kernel_rfl
theorem dp_0_31 : okD 0 31 = true := by kernel_rfl
theorem dp_0_32 : okD 0 32 = true := by kernel_rfl
theorem dpr_1 (n : Nat) (ha : 24 ≤ n) (hb : n < 33) : okD 0 n = true := by
  have : n = 24 ∨ n = 25 ∨ n = 26 ∨ n = 27 ∨ n = 28 ∨ n = 29 ∨ n = 30 ∨ n = 31 ∨ n = 32 := by omega
  rcases this with rfl | rfl | rfl | rfl | rfl | rfl | rfl | rfl | rfl
  · exact dp_0_24
  · exact dp_0_25
  · exact dp_0_26
  · exact dp_0_27
  · exact dp_0_28
  · exact dp_0_29
  · exact dp_0_30
  · exact dp_0_31
  · exact dp_0_32
end Go.Vam
