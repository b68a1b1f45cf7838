/-
  The card of AskDeep holds: the law answers true in every world, for every two numbers, without a condition but those of the card.
-/
import Derived.Test.YtcdogmjbnlmgeaaGreatDoorVbe
import Derived.Test.YtcdogmjbnlmgeaaGreatDoorVbf
import Derived.Test.YtcdogmjbnlmgeaaGreatDoorVbg
import Derived.Test.YtcdogmjbnlmgeaaGreatDoorTie
import Derived.Test.YtcdogmjbnlmgeaaGreatDoorCards
import Derived.SevenTiedAt
set_option linter.unusedSimpArgs false
set_option linter.unusedVariables false
set_option maxRecDepth 1000000
namespace Go.Proofs.YtcdogmjbnlmgeaaGreatDoor
open Go Go.ChangeShapes Go.WideShapes Go.ChangeAt Go.RowKit Go.Vam

theorem deep_own : ownKnob Tryz.prog.godebug = none := by kernel_rfl

/-- A world in which the listed variables lie as they are laid. -/
noncomputable def deepW (os : Os) : World :=
  { World.doorLaid Tryz.prog 72 os with heap := (World.doorLaid Tryz.prog 72 os).heap.modify 6 fun
      | .cells _ t frozen => .cells (Lib.firstTab.map fun z => Value.int .u8 z).toArray t frozen
      | o => o }
theorem deepW_met (os : Os) (args : Array Value) : laidMetH Tryz.prog Rows.askDeepRow.laid ((deepW os).forCall (fun _ _ => 0) ⟨#[], args, []⟩).memory :=
  laidMetH_of_parts3 (fuel := 8) (laidMet_of_run' 8 (by kernel_rfl) (by kernel_rfl)) (by kernel_rfl) (by kernel_rfl)

theorem deep_maxCell (W : World) (h : W.ShapedOpen Tryz.prog) : ∃ m, W.cell? ⟨0, 0, none⟩ = some (.int .i64 m) :=
  cell_of_shapedOpen_int (g := 0) (t := 3) (zero := #[.int .i64 0]) h (of_decide_eq_true (by kernel_rfl)) (by kernel_rfl) rfl (by kernel_rfl) (by kernel_rfl) Tryz.underlying3

theorem deep_witness (os : Os) {H : Type} (enc : TypeId × Value → H) :
    (OpenSpec.ofChange Rows.askDeepSpec).preRow enc Tryz.prog Tryz.f6 Rows.askDeepRow.domain false Rows.askDeepRow.laid ((deepW os).forCall (fun _ _ => 0) ⟨#[], #[.int .i64 0, .int .i64 0], []⟩).memory #[.int .i64 0, .int .i64 0] := by
  have hw : (DataW.whole enc Tryz.prog ((deepW os).forCall (fun _ _ => 0) ⟨#[], #[.int .i64 0, .int .i64 0], []⟩).memory Tryz.f6.params.toList (OpenSpec.ofChange Rows.askDeepSpec).vars false (#[.int .i64 0, .int .i64 0] : Array Value).toList 8).map (fun x => (x.1, x.2.1)) = some ([.lit (.int .i64 0), .lit (.int .i64 0)], []) := by kernel_rfl
  obtain ⟨⟨x1, x2, x3⟩, hx, hx1⟩ := Option.map_eq_some_iff.1 hw
  simp only [Prod.mk.injEq] at hx1
  obtain ⟨rfl, rfl⟩ := hx1
  exact OpenSpec.preRow_of_cond 8 hx (by kernel_rfl) (fun k hk => by cases hk) (by kernel_rfl) (deepW_met os _)

theorem deep_lifted (os : Os) (started : os.Started) (H : Type) (enc : TypeId × Value → H) :
    ReturnsInHanded {} Tryz.checked os 6 .any ((OpenSpec.ofChange Rows.askDeepSpec).preRow enc Tryz.prog Tryz.f6 Rows.askDeepRow.domain false Rows.askDeepRow.laid) (Rows.askDeepSpec.post enc Tryz.prog Tryz.f6 false true false false) := by
  refine returnsInHanded_of_row (C := Tryz.checked) (s := OpenSpec.ofChange Rows.askDeepSpec) (F := default) deep_own started (by kernel_rfl) Tryz.func6
    (witness_row_atRef (enc := enc) (C := Tryz.checked) false (deepW os) #[.int .i64 0, .int .i64 0] rfl (by kernel_rfl) (by kernel_rfl) (by kernel_rfl) (deep_witness os enc)) ?_
  intro W base args ds gs before hval0 hW _ _ _ hL hsh _
  have hval : ∀ (j : Nat) t v, Tryz.f6.params[j]? = some t → args[j]? = some v → Value.okWide Tryz.prog W .any base t v := hval0
  have hW' := hW
  obtain ⟨p, q, hA0, hV, rfl, hfz, hnd⟩ := hW
  have hA : DataW.TrodAll enc Tryz.prog W 0 (fun _ => true) true Tryz.f6.params.toList args.toList ds p := hA0
  rw [Tryz.params6] at hA hval
  obtain ⟨v0, v1, d0, d1, p0, p1, rfl, rfl, rfl, h0, h1⟩ := trodAll_two hA
  obtain ⟨rfl, rfl⟩ := trodVars_none hV
  obtain ⟨x, rfl, rfl, rfl, wx⟩ := open_int Tryz.underlying3 (hval 0 3 v0 rfl rfl) h0
  obtain ⟨y, rfl, rfl, rfl, wy⟩ := open_int Tryz.underlying3 (hval 1 3 v1 rfl rfl) h1
  clear hA0 hval0
  refine (calls6 (deep_maxCell W hsh) x y).mono fun e W' ⟨he, hk⟩ => ?_
  subst he
  exact ⟨_, rfl, _, _, _, _, _, _, hW', (trodAll_cons_mk (shut_bool Tryz.underlying4 _) trodAll_mk0), trodAll_mk2 (shut_int Tryz.underlying3 wx) (shut_int Tryz.underlying3 wy), rfl, World.keptBut_mono (fun _ h => h.elim) hk, fun h => by cases h⟩

theorem deep_holds : Rows.AskDeepSaid :=
  OpenClaim.holds_of_wide 6 Tryz.f6 rfl rfl rfl rfl rfl rfl rfl ⟨rfl, rfl, rfl, rfl, rfl⟩ rfl rfl rfl rfl rfl deep_named Tryz.func6 deep_closed deep_inst deep_wrap
    (fun os started H enc _ => by rw [OpenClaim.pre_eq_preRow]; exact deep_lifted os started H enc)

theorem askDeep_card : Rows.AskDeepCardSaid :=
  Claim7.holds_tied_plain_at .later [] [.data, .data, .data, .data, .sentinel, .sentinel, .pinned] true (true, "8c4716ba10ea79918cd9a8043ae2a65da489b5ae760f33660610436a8d2e9111") true
    deep_holds (fun _ h => by cases h) deep_c2 (fun _ h => by cases h) askDeep_row_tie rfl ⟨rfl, rfl⟩ deep_c3 rfl
    (fun f fn hf hfn => by
      obtain rfl : f = 6 := Option.some.inj (deep_c1.symm.trans hf) |>.symm
      obtain rfl : fn = Tryz.f6 := (Option.some.inj (Tryz.func6.symm.trans hfn)).symm
      exact ⟨deep_c4, fun j t ht => by
        rw [Tryz.params6] at ht
        have h3 : t = 3 := by
          rcases j with _ | _ | j
          · simpa using ht.symm
          · simpa using ht.symm
          · simp at ht
        subst h3
        exact (show Tryz.prog.wantsStandIn 3 = false by kernel_rfl)⟩)
    deep_c5
end Go.Proofs.YtcdogmjbnlmgeaaGreatDoor
