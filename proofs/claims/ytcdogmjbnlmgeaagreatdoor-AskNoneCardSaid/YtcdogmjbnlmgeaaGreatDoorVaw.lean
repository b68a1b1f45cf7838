/-
  The row of AskNone holds.
-/
import Derived.Test.YtcdogmjbnlmgeaaGreatDoorVau
import Derived.Test.YtcdogmjbnlmgeaaGreatDoorVav
import Derived.Test.YtcdogmjbnlmgeaaGreatDoorTie
import Derived.Test.YtcdogmjbnlmgeaaGreatDoorCards
set_option linter.unusedSimpArgs false
set_option linter.unusedVariables false
set_option maxRecDepth 1000000
namespace Go.Proofs.YtcdogmjbnlmgeaaGreatDoor
open Go Go.ChangeShapes Go.WideShapes Go.ChangeAt Go.RowKit Go.Vam

theorem own : ownKnob Tryz.prog.godebug = none := by kernel_rfl

/-- A world in which the listed variables lie as they are laid. -/
noncomputable def laidW (os : Os) : World :=
  { World.doorLaid Tryz.prog 72 os with heap := (World.doorLaid Tryz.prog 72 os).heap.modify 6 fun
      | .cells _ t frozen => .cells (Lib.firstTab.map fun z => Value.int .u8 z).toArray t frozen
      | o => o }
theorem laidW_met (os : Os) (args : Array Value) : laidMetH Tryz.prog Rows.askNoneRow.laid ((laidW os).forCall (fun _ _ => 0) ⟨#[], args, []⟩).memory :=
  laidMetH_of_parts3 (fuel := 8) (laidMet_of_run' 8 (by kernel_rfl) (by kernel_rfl)) (by kernel_rfl) (by kernel_rfl)

theorem maxCell (W : World) (h : W.ShapedOpen Tryz.prog) : ∃ m, W.cell? ⟨0, 0, none⟩ = some (.int .i64 m) :=
  cell_of_shapedOpen_int (g := 0) (t := 3) (zero := #[.int .i64 0]) h (of_decide_eq_true (by kernel_rfl)) (by kernel_rfl) rfl (by kernel_rfl) (by kernel_rfl) Tryz.underlying3

theorem none_witness (os : Os) {H : Type} (enc : TypeId × Value → H) :
    (OpenSpec.ofChange Rows.askNoneSpec).preRow enc Tryz.prog Tryz.f7 Rows.askNoneRow.domain false Rows.askNoneRow.laid ((laidW os).forCall (fun _ _ => 0) ⟨#[], #[], []⟩).memory #[] := by
  have hw : (DataW.whole enc Tryz.prog ((laidW os).forCall (fun _ _ => 0) ⟨#[], #[], []⟩).memory Tryz.f7.params.toList (OpenSpec.ofChange Rows.askNoneSpec).vars false (#[] : Array Value).toList 8).map (fun x => (x.1, x.2.1)) = some ([], []) := by kernel_rfl
  obtain ⟨⟨x1, x2, x3⟩, hx, hx1⟩ := Option.map_eq_some_iff.1 hw
  simp only [Prod.mk.injEq] at hx1
  obtain ⟨rfl, rfl⟩ := hx1
  exact OpenSpec.preRow_of_cond 8 hx (by kernel_rfl) (fun k hk => by cases hk) (by kernel_rfl) (laidW_met os _)

theorem none_lifted (os : Os) (started : os.Started) (H : Type) (enc : TypeId × Value → H) :
    ReturnsInHanded {} Tryz.checked os 7 .any ((OpenSpec.ofChange Rows.askNoneSpec).preRow enc Tryz.prog Tryz.f7 Rows.askNoneRow.domain false Rows.askNoneRow.laid) (Rows.askNoneSpec.post enc Tryz.prog Tryz.f7 false true false false) := by
  refine returnsInHanded_of_row (C := Tryz.checked) (s := OpenSpec.ofChange Rows.askNoneSpec) (F := default) own started (by kernel_rfl) Tryz.func7
    (witness_row_atRef (enc := enc) (C := Tryz.checked) false (laidW os) #[] rfl (by kernel_rfl) (by kernel_rfl) (by kernel_rfl) (none_witness os enc)) ?_
  intro W base args ds gs before hval0 hW _ _ _ hL hsh _
  have hW' := hW
  obtain ⟨p, q, hA0, hV, rfl, hfz, hnd⟩ := hW
  have hA : DataW.TrodAll enc Tryz.prog W 0 (fun _ => true) true Tryz.f7.params.toList args.toList ds p := hA0
  rw [Tryz.params7] at hA
  obtain ⟨rfl, rfl, rfl⟩ := trodAll_none hA
  obtain ⟨rfl, rfl⟩ := trodVars_none hV
  clear hA0
  refine (calls_true row7 W (maxCell W hsh)).mono fun e W' ⟨he, hk⟩ => ?_
  subst he
  exact ⟨_, rfl, _, _, _, _, _, _, hW', (trodAll_cons_mk (shut_bool Tryz.underlying4 _) trodAll_mk0), trodAll_mk0, rfl, World.keptBut_mono (fun _ h => h.elim) hk, fun h => by cases h⟩

theorem none_holds : Rows.AskNoneSaid :=
  OpenClaim.holds_of_wide 7 Tryz.f7 rfl rfl rfl rfl rfl rfl rfl ⟨rfl, rfl, rfl, rfl, rfl⟩ rfl rfl rfl rfl rfl none_named Tryz.func7 none_closed none_inst none_wrap
    (fun os started H enc _ => by rw [OpenClaim.pre_eq_preRow]; exact none_lifted os started H enc)
end Go.Proofs.YtcdogmjbnlmgeaaGreatDoor
