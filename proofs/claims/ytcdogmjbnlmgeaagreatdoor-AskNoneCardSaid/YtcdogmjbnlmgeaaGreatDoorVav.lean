/-
  Closed facts of the row of AskNone.
-/
import Derived.Test.YtcdogmjbnlmgeaaGreatDoorRows
import Derived.JoinedOf
import Derived.KernelRfl
set_option linter.unusedSimpArgs false
set_option linter.unusedVariables false
set_option maxRecDepth 1000000
namespace Go.Proofs.YtcdogmjbnlmgeaaGreatDoor
open Go
theorem none_named : Tryz.pinned.checked.prog.funcNamed Rows.askNoneRow.func = some 7 := by kernel_rfl
theorem none_inst : Tryz.f7.isInstance Tryz.pinned.checked.prog Rows.askNoneRow.origin Rows.askNoneRow.targs := of_decide_eq_true (by kernel_rfl)
theorem none_wrap : Tryz.f7.isWrapper Tryz.pinned.checked.prog Rows.askNoneRow.wrapper Rows.askNoneRow.mainSum := by unfold Func.isWrapper; first | (rw [if_pos (by decide +kernel)]; kernel_rfl) | (rw [if_neg (by decide +kernel)]; exact ⟨rfl, rfl⟩)
theorem none_f0 : (Rows.askNoneRow.wf (OpenSpec.ofChange Rows.askNoneSpec)) = true := by kernel_rfl
theorem none_f1 : (laidOutB Tryz.prog) = true := by kernel_rfl
theorem none_f2 : (mapsRowed Tryz.prog) = true := by kernel_rfl
theorem none_f3 : (Tryz.f7.params.all (Tryz.prog.readableRec ·)) = true := by kernel_rfl
theorem none_f4 : (namedTie Tryz.prog Rows.askNoneRow.named Rows.askNoneSpec.vars) = true := by kernel_rfl
theorem none_f5 : ((Rows.askNoneRow.stops == [])) = true := by kernel_rfl
theorem none_f6 : ((Tryz.prog.stops == [])) = true := by kernel_rfl
theorem none_f7 : ((Rows.askNoneRow.knobs == [])) = true := by kernel_rfl
theorem none_f8 : ((Tryz.prog.stopKnobs == [])) = true := by kernel_rfl
theorem none_f9 : ((Rows.askNoneRow.inPlace == Tryz.prog.inPlace 7)) = true := by kernel_rfl
theorem none_f10 : ((Rows.askNoneRow.unfollowed == Tryz.prog.unfollowed 7)) = true := by kernel_rfl
theorem none_f11 : ((Rows.askNoneRow.recurses == Tryz.prog.recurses 7)) = true := by kernel_rfl
theorem none_f12 : ((Rows.askNoneRow.named == Tryz.prog.varsNamed 7)) = true := by kernel_rfl
theorem none_f13 : ((Rows.askNoneRow.maps == (Tryz.f7.params.toList ++ Rows.askNoneSpec.plain.varTypes Tryz.prog).any (Tryz.prog.mapsRec ·))) = true := by kernel_rfl
theorem none_f14 : ((Rows.askNoneRow.ifaces == (Tryz.f7.params.toList ++ Rows.askNoneSpec.plain.varTypes Tryz.prog).any (Tryz.prog.ifacesRec ·))) = true := by kernel_rfl
theorem none_f15 : ((Rows.askNoneRow.mapsOut == Tryz.prog.mapsAmong Tryz.f7.resultTypes.toList)) = true := by kernel_rfl
theorem none_f16 : ((Rows.askNoneRow.loops == (Tryz.f7.params.toList ++ Rows.askNoneSpec.plain.varTypes Tryz.prog).any (Tryz.prog.loopsFrom ·))) = true := by kernel_rfl
theorem none_f17 : ((Rows.askNoneRow.wideKeys == (Tryz.f7.params.toList ++ Rows.askNoneSpec.plain.varTypes Tryz.prog ++ Tryz.f7.resultTypes.toList).any (Tryz.prog.wideKeysFrom ·))) = true := by kernel_rfl
theorem none_f18 : (Rows.askNoneSpec.vars.all (Tryz.prog.varReadable ·)) = true := by kernel_rfl
theorem none_f19 : (Tryz.f7.resultTypes.all (fun t => Tryz.prog.readableRec t && decide (t < Tryz.prog.types.size))) = true := by kernel_rfl
theorem none_f20 : ((Rows.askNoneRow.ifacesOut == Tryz.f7.resultTypes.toList.any (Tryz.prog.ifacesRec ·))) = true := by kernel_rfl
theorem none_f21 : ((Rows.askNoneRow.loopsOut == Tryz.f7.resultTypes.toList.any (Tryz.prog.loopsFrom ·))) = true := by kernel_rfl
theorem none_f22 : ((Rows.askNoneRow.plainKeys == Tryz.prog.plainKeys)) = true := by kernel_rfl
theorem none_f23 : (Rows.askNoneRow.shortTexts.isNone) = true := by kernel_rfl
theorem none_f24 : (Tryz.prog.stopsHeard) = true := by kernel_rfl
theorem none_f25 : (Tryz.prog.mayEnter) = true := by kernel_rfl
theorem none_f26 : ((Rows.askNoneRow.lifted == Tryz.prog.liftsFinal)) = true := by kernel_rfl
theorem none_f27 : ((Tryz.prog.make == some Rows.askNoneRow.make)) = true := by kernel_rfl
theorem none_f28 : ((Rows.askNoneRow.kinds == (if Rows.askNoneRow.domain.isEmpty then [] else Tryz.f7.params.toList.map fun t => match Tryz.prog.underlying t with | some (.int k) => some k | _ => none))) = true := by kernel_rfl
theorem none_f29 : ((Rows.askNoneRow.pinned == Rows.askNoneRow.pinnedBy)) = true := by kernel_rfl
theorem none_f30 : ((Rows.askNoneRow.veiled == (Tryz.f7.params.toList ++ Rows.askNoneSpec.plain.varTypes Tryz.prog ++ Tryz.f7.resultTypes.toList).any (Tryz.prog.veiledRec ·))) = true := by kernel_rfl
theorem none_f31 : (Rows.askNoneRow.veiledFits Tryz.prog Tryz.f7.params.toList (Tryz.f7.params.toList ++ Rows.askNoneSpec.plain.varTypes Tryz.prog ++ Tryz.f7.resultTypes.toList)) = true := by kernel_rfl
theorem none_closed : joinedFacts Tryz.pinned.checked.prog 7 Tryz.f7 Rows.askNoneSpec Rows.askNoneRow = true := by
  unfold joinedFacts
  simp only [Bool.and_eq_true]
  exact ⟨⟨⟨⟨⟨⟨⟨⟨⟨⟨⟨⟨⟨⟨⟨⟨⟨⟨⟨⟨⟨⟨⟨⟨⟨⟨⟨⟨⟨⟨⟨none_f0, none_f1⟩, none_f2⟩, none_f3⟩, none_f4⟩, none_f5⟩, none_f6⟩, none_f7⟩, none_f8⟩, none_f9⟩, none_f10⟩, none_f11⟩, none_f12⟩, none_f13⟩, none_f14⟩, none_f15⟩, none_f16⟩, none_f17⟩, none_f18⟩, none_f19⟩, none_f20⟩, none_f21⟩, none_f22⟩, none_f23⟩, none_f24⟩, none_f25⟩, none_f26⟩, none_f27⟩, none_f28⟩, none_f29⟩, none_f30⟩, none_f31⟩
end Go.Proofs.YtcdogmjbnlmgeaaGreatDoor
