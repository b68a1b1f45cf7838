/-
  AskDeep: what ask.Parse tells of some of its texts, by the kernel (11).
-/
import Derived.Test.YtcdogmjbnlmgeaaGreatDoorVba
set_option maxRecDepth 1000000
namespace Go.Vam
theorem dp_3_22 : okD 3 22 = true := by kernel_rfl
theorem dp_3_23 : okD 3 23 = true := by kernel_rfl
theorem dp_3_24 : okD 3 24 = true := by kernel_rfl
theorem dp_3_25 : okD 3 25 = true := by kernel_rfl
theorem dpr_10 (n : Nat) (ha : 22 ≤ n) (hb : n < 26) : okD 3 n = true := by
  have : n = 22 ∨ n = 23 ∨ n = 24 ∨ n = 25 := by omega
  rcases this with rfl | rfl | rfl | rfl
  · exact dp_3_22
  · exact dp_3_23
  · exact dp_3_24
  · exact dp_3_25
end Go.Vam
