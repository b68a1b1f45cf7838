/-
  AskDeep answers true.
-/
import Derived.Test.YtcdogmjbnlmgeaaGreatDoorVbd00
import Derived.Test.YtcdogmjbnlmgeaaGreatDoorVbd01
import Derived.Test.YtcdogmjbnlmgeaaGreatDoorVbd02
import Derived.Test.YtcdogmjbnlmgeaaGreatDoorVbd03
import Derived.Test.YtcdogmjbnlmgeaaGreatDoorVbd04
import Derived.Test.YtcdogmjbnlmgeaaGreatDoorVbd05
import Derived.Test.YtcdogmjbnlmgeaaGreatDoorVbd06
import Derived.Test.YtcdogmjbnlmgeaaGreatDoorVbd07
import Derived.Test.YtcdogmjbnlmgeaaGreatDoorVbd08
import Derived.Test.YtcdogmjbnlmgeaaGreatDoorVbd09
import Derived.Test.YtcdogmjbnlmgeaaGreatDoorVbd10
import Derived.Test.YtcdogmjbnlmgeaaGreatDoorVbd11
import Derived.Test.YtcdogmjbnlmgeaaGreatDoorVbd12
import Derived.Test.YtcdogmjbnlmgeaaGreatDoorVbc
import Derived.Test.YtcdogmjbnlmgeaaGreatDoorVau
set_option linter.unusedSimpArgs false
set_option linter.unusedVariables false
set_option maxRecDepth 1000000
namespace Go.Vam
open Go.Proofs

theorem okD_all (k n : Nat) (hk : k < 4) (hn : n < 40) : okD k n = true := by
  have : k = 0 ∨ k = 1 ∨ k = 2 ∨ k = 3 := by omega
  rcases this with rfl | rfl | rfl | rfl
  · by_cases h0 : n < 24
    · exact dpr_0 n (by omega) h0
    by_cases h1 : n < 33
    · exact dpr_1 n (by omega) h1
    exact dpr_2 n (by omega) hn
  · by_cases h0 : n < 24
    · exact dpr_3 n (by omega) h0
    by_cases h1 : n < 33
    · exact dpr_4 n (by omega) h1
    exact dpr_5 n (by omega) hn
  · by_cases h0 : n < 26
    · exact dpr_6 n (by omega) h0
    exact dpr_7 n (by omega) hn
  · by_cases h0 : n < 17
    · exact dpr_8 n (by omega) h0
    by_cases h1 : n < 22
    · exact dpr_9 n (by omega) h1
    by_cases h2 : n < 26
    · exact dpr_10 n (by omega) h2
    by_cases h3 : n < 29
    · exact dpr_11 n (by omega) h3
    exact dpr_12 n (by omega) hn

theorem parseD {k n : Nat} (hk : k < 4) (hn : n < 40) : ∃ cs, cs.length = 7 ∧ cs.all cellOk = true ∧ callN C1 (natQ [] tabD) 2000 250 12 [.str (textD k n)] [] = some (.tup [.agg cs, errD (mostD k n)], [], []) := by
  have h := okD_all k n hk hn
  unfold okD okP at h
  split at h
  · rename_i v s W hc
    have h4 := callG_callN (fastQ_ok [] tabD) (st := []) hc
    split at h
    · rename_i cs e hs
      simp only [Bool.and_eq_true] at h
      obtain ⟨⟨h1, h2⟩, h3⟩ := h
      rw [hs, eqvD_eq h1] at h4
      exact ⟨cs, Nat.eq_of_beq_eq_true h2, h3, h4⟩
    · cases h
  · cases h

/-- What AskDeep calls. -/
noncomputable def natA : FuncId → Option Native := fun f =>
  if f = 9 then some (natRows rows0) else if f = 12 then some (fun _ args st => callN C1 (natQ [] tabD) 2000 250 12 args st) else none
theorem natA_ok {β : Nat → Nat → Option Value} (hM : MaxOk β) : NatOk C1 β natA := by
  have h9 : ∀ r ∈ rows0, RowOk Tryz.prog β 9 r.1 r.2 := rowsOk9 hM (9, rows0) (by simp [tab9, tab8])
  have hc := ctx1 (natQ_ok hM sRowsOk_nil (rowsOkD hM)) 2000 250
  refine ⟨fun f nt h cf hX => ?_, fun f nt h cf hk => ?_⟩
  · unfold natA at h
    split at h
    · rename_i hf
      cases h
      rw [hf]
      exact natRows_just h9 cf
    · split at h
      · rename_i hf
        cases h
        rw [hf]
        exact hc.just 12
      · cases h
  · unfold natA at h
    split at h
    · cases h
      exact natRows_keeps cf
    · split at h
      · cases h
        exact hc.keeps 12
      · cases h

theorem call6 (x y : Int) : callN C1 natA 2000 2 6 [.int .i64 x, .int .i64 y] [] = some (.bool true, [], []) := by
  rw [callN_succ rfl]
  refine run6 (by omega) (fun k n hk hn => ?_) ?_ x y
  · obtain ⟨cs, h1, h2, h3⟩ := parseD hk hn
    exact ⟨cs, h1, h2, h3⟩
  · rfl

theorem calls6 {W : World} (hm : ∃ m, W.cell? ⟨0, 0, none⟩ = some (.int .i64 m)) (x y : Int) :
    Calls Tryz.prog 6 #[.int .i64 x, .int .i64 y] W fun e W' => e = .returned (.bool true) ∧ W.keptBut W' (fun _ => False) := by
  obtain ⟨m, hm⟩ := hm
  have hM : MaxOk (betaW W) := ⟨m, by unfold betaW; rw [if_pos rfl]; exact hm⟩
  refine (((ctx1 (natA_ok hM) 2000 2).just 6) _ _ _ _ _ (call6 x y) (gW W) W #[.int .i64 x, .int .i64 y] rfl (simW W) ⟨rfl, fun j d v h h' => ?_⟩).mono ?_
  · match j with
    | 0 => cases h; cases h'; constructor
    | 1 => cases h; cases h'; constructor
    | j + 2 => cases h
  rintro e W' ⟨r, g', rfl, hv, _, hst, _⟩
  cases hv
  refine ⟨rfl, hst.os, hst.out, fun i hi => ?_⟩
  rw [hst.fr i hi fun id hid => by cases hid]
  split <;> simp_all
end Go.Vam
