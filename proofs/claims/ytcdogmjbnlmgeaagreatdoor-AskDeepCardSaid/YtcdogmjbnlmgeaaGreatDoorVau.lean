/-
  A call that the rows tell answers so in every world.
-/
import Derived.Test.YtcdogmjbnlmgeaaGreatDoorVam
import Derived.Test.YtcdogmjbnlmgeaaGreatDoorVan
import Derived.Test.YtcdogmjbnlmgeaaGreatDoorVap
import Derived.Test.YtcdogmjbnlmgeaaGreatDoorVaq
import Derived.Test.YtcdogmjbnlmgeaaGreatDoorVar
import Derived.Test.YtcdogmjbnlmgeaaGreatDoorVas
import Derived.Test.YtcdogmjbnlmgeaaGreatDoorVat
import Derived.Test.YtcdogmjbnlmgeaaGreatDoorRows
import Derived.Deep.DeepHandedRow
import Derived.Deep.DeepWitnessRowRef
import Derived.Shelf.Vars
import Derived.ProofKit
import Derived.OpenShut
import Derived.LaidMore
import Derived.Lib.LaidU8
import Derived.JoinedOf
import Derived.Stop.Joined
set_option linter.unusedSimpArgs false
set_option linter.unusedVariables false
set_option maxRecDepth 1000000
namespace Go.Vam
open Go.Proofs

section
variable {β : Nat → Nat → Option Value}
theorem rowsOk6 (hM : MaxOk β) : RowsOk β tab6 := by
  have h1 : RowsOk β tab1 := rowsOk_consG hM sRowsOk_nil rowsOk_nil k129
  have h2 : RowsOk β tab2 := rowsOk_consG hM sRowsOk_nil h1 k75
  have h3 : RowsOk β tab3 := rowsOk_consG hM sRowsOk_nil h2 k44
  have h4 : RowsOk β tab4 := rowsOk_consG hM sRowsOk_nil h3 k309
  have h5 : RowsOk β tab5 := rowsOk_consG hM sRowsOk_nil h4 k249
  exact rowsOk_consG hM sRowsOk_nil h5 k153
theorem rowsOk6a (hM : MaxOk β) : RowsOk β tab6a := rowsOk_consG hM sRowsOk_nil (rowsOk6 hM) k107
theorem srowsOk12 (hM : MaxOk β) : SRowsOk β srows12 := by
  refine sRowsOk_cons sRowsOk_nil fun r hr => ?_
  simp only [List.mem_cons, List.not_mem_nil, or_false] at hr
  rcases hr with rfl | rfl | rfl | rfl | rfl | rfl | rfl | rfl | rfl
  · exact sRow_okG hM sRowsOk_nil (rowsOk6 hM) kg12R0
  · exact sRow_okG hM sRowsOk_nil (rowsOk6 hM) kg12R1
  · exact sRow_okG hM sRowsOk_nil (rowsOk6 hM) kg12R2
  · exact sRow_okG hM sRowsOk_nil (rowsOk6 hM) kg12R3
  · exact sRow_okG hM sRowsOk_nil (rowsOk6 hM) kg12R4
  · exact sRow_okG hM sRowsOk_nil (rowsOk6 hM) kg12R5
  · exact sRow_okG hM sRowsOk_nil (rowsOk6 hM) kg12R6
  · exact sRow_okG hM sRowsOk_nil (rowsOk6 hM) kg12R7
  · exact sRow_okG hM sRowsOk_nil (rowsOk6 hM) kg12R8
theorem one_mem {f : FuncId} {x : SRow} (h : SRowOk β f x) : ∀ r ∈ [x], SRowOk β f r := fun r hr => by
  rw [List.mem_singleton] at hr
  rw [hr]
  exact h
theorem two_mem {f : FuncId} {x y : SRow} (h : SRowOk β f x) (h' : SRowOk β f y) : ∀ r ∈ [x, y], SRowOk β f r := fun r hr => by
  rcases List.mem_cons.1 hr with rfl | hr
  · exact h
  · exact one_mem h' r hr
theorem srowsOk12b (hM : MaxOk β) : SRowsOk β srows12b := by
  have hs := srowsOk12 hM
  have hr := rowsOk6a hM
  refine sRowsOk_cons (sRowsOk_cons (sRowsOk_cons (sRowsOk_cons (sRowsOk_cons (sRowsOk_cons (sRowsOk_cons (sRowsOk_cons sRowsOk_nil ?_) ?_) ?_) ?_) ?_) ?_) ?_) ?_
  · exact one_mem (sRow_okG hM hs hr kg12bR8)
  · exact one_mem (sRow_okG hM hs hr kg12bR6)
  · exact one_mem (sRow_okG hM hs hr kg12bR5)
  · exact one_mem (sRow_okG hM hs hr kg12bR3)
  · exact one_mem (sRow_okG hM hs hr kg12bR2)
  · exact two_mem (sRow_okG hM hs hr kg12bR1) (sRow_okG hM hs hr kg12bR4)
  · exact one_mem (sRow_okG hM hs hr kg12bR7)
  · exact one_mem (sRow_okG hM hs hr kg12bR0)
theorem rowsOk9 (hM : MaxOk β) : RowsOk β tab9 := by
  have h7 : RowsOk β tab7 := rowsOk_consG hM (srowsOk12b hM) (rowsOk6a hM) k53
  have h8 : RowsOk β tab8 := rowsOk_consG hM sRowsOk_nil h7 k9
  exact rowsOk_consG hM sRowsOk_nil h8 k7
end

/-- What lies in a world's first block. -/
def betaW (W : World) : Nat → Nat → Option Value := fun b o => if b = 0 then W.cell? ⟨b, o, none⟩ else none
def gW (W : World) : G := { loc := fun _ => none, bs := fun _ => 0, tk := fun _ => none, I := betaW W, base := betaW W }
theorem simW (W : World) : Sim (gW W) [] W := by
  refine ⟨fun id c h => (by cases h), fun t k h => (by cases h), fun id id2 b h _ => ?_, fun b o v h => ?_, fun id c h => (by cases h), fun b o v h => h⟩
  · rcases h with ⟨h, _⟩ | ⟨k, h, _⟩
    · cases h
    · cases h
  · have h : betaW W b o = some v := h
    unfold betaW at h
    split at h
    · exact h
    · cases h

/-- A call of no arguments that tells true. -/
theorem calls_true {f : FuncId} (hr : ∀ β, MaxOk β → RowOk Tryz.prog β f [] (.bool true)) (W : World) (hm : ∃ m, W.cell? ⟨0, 0, none⟩ = some (.int .i64 m)) :
    Calls Tryz.prog f #[] W fun e W' => e = .returned (.bool true) ∧ W.keptBut W' (fun _ => False) := by
  obtain ⟨m, hm⟩ := hm
  have hM : MaxOk (betaW W) := ⟨m, by unfold betaW; rw [if_pos rfl]; exact hm⟩
  refine (hr (betaW W) hM [] (gW W) W #[] rfl (simW W) ⟨rfl, fun j d v h => by simp at h⟩).mono ?_
  rintro e W' ⟨r, g', rfl, hv, _, hst, _⟩
  cases hv
  refine ⟨rfl, hst.os, hst.out, fun i hi => ?_⟩
  rw [hst.fr i hi fun id hid => by cases hid]
  split <;> simp_all

theorem row7 (β : Nat → Nat → Option Value) (hM : MaxOk β) : RowOk Tryz.prog β 7 [] (.bool true) :=
  rowsOk9 hM (7, rows0) (by simp [tab9]) ([], .bool true) (by simp [rows0])
end Go.Vam
