/-
  Closed facts of the row of AskDeep.
-/
import Derived.Test.YtcdogmjbnlmgeaaGreatDoorRows
import Derived.JoinedOf
import Derived.KernelRfl
set_option linter.unusedSimpArgs false
set_option linter.unusedVariables false
set_option maxRecDepth 1000000
namespace Go.Proofs.YtcdogmjbnlmgeaaGreatDoor
open Go
theorem deep_named : Tryz.pinned.checked.prog.funcNamed Rows.askDeepRow.func = some 6 := by kernel_rfl
theorem deep_inst : Tryz.f6.isInstance Tryz.pinned.checked.prog Rows.askDeepRow.origin Rows.askDeepRow.targs := of_decide_eq_true (by kernel_rfl)
theorem deep_wrap : Tryz.f6.isWrapper Tryz.pinned.checked.prog Rows.askDeepRow.wrapper Rows.askDeepRow.mainSum := by unfold Func.isWrapper; first | (rw [if_pos (by decide +kernel)]; kernel_rfl) | (rw [if_neg (by decide +kernel)]; exact ⟨rfl, rfl⟩)
theorem deep_f0 : (Rows.askDeepRow.wf (OpenSpec.ofChange Rows.askDeepSpec)) = true := by kernel_rfl
theorem deep_f1 : (laidOutB Tryz.prog) = true := by kernel_rfl
theorem deep_f2 : (mapsRowed Tryz.prog) = true := by kernel_rfl
theorem deep_f3 : (Tryz.f6.params.all (Tryz.prog.readableRec ·)) = true := by kernel_rfl
theorem deep_f4 : (namedTie Tryz.prog Rows.askDeepRow.named Rows.askDeepSpec.vars) = true := by kernel_rfl
theorem deep_f5 : ((Rows.askDeepRow.stops == [])) = true := by kernel_rfl
theorem deep_f6 : ((Tryz.prog.stops == [])) = true := by kernel_rfl
theorem deep_f7 : ((Rows.askDeepRow.knobs == [])) = true := by kernel_rfl
theorem deep_f8 : ((Tryz.prog.stopKnobs == [])) = true := by kernel_rfl
theorem deep_f9 : ((Rows.askDeepRow.inPlace == Tryz.prog.inPlace 6)) = true := by kernel_rfl
theorem deep_f10 : ((Rows.askDeepRow.unfollowed == Tryz.prog.unfollowed 6)) = true := by kernel_rfl
theorem deep_f11 : ((Rows.askDeepRow.recurses == Tryz.prog.recurses 6)) = true := by kernel_rfl
theorem deep_f12 : ((Rows.askDeepRow.named == Tryz.prog.varsNamed 6)) = true := by kernel_rfl
theorem deep_f13 : ((Rows.askDeepRow.maps == (Tryz.f6.params.toList ++ Rows.askDeepSpec.plain.varTypes Tryz.prog).any (Tryz.prog.mapsRec ·))) = true := by kernel_rfl
theorem deep_f14 : ((Rows.askDeepRow.ifaces == (Tryz.f6.params.toList ++ Rows.askDeepSpec.plain.varTypes Tryz.prog).any (Tryz.prog.ifacesRec ·))) = true := by kernel_rfl
theorem deep_f15 : ((Rows.askDeepRow.mapsOut == Tryz.prog.mapsAmong Tryz.f6.resultTypes.toList)) = true := by kernel_rfl
theorem deep_f16 : ((Rows.askDeepRow.loops == (Tryz.f6.params.toList ++ Rows.askDeepSpec.plain.varTypes Tryz.prog).any (Tryz.prog.loopsFrom ·))) = true := by kernel_rfl
theorem deep_f17 : ((Rows.askDeepRow.wideKeys == (Tryz.f6.params.toList ++ Rows.askDeepSpec.plain.varTypes Tryz.prog ++ Tryz.f6.resultTypes.toList).any (Tryz.prog.wideKeysFrom ·))) = true := by kernel_rfl
theorem deep_f18 : (Rows.askDeepSpec.vars.all (Tryz.prog.varReadable ·)) = true := by kernel_rfl
theorem deep_f19 : (Tryz.f6.resultTypes.all (fun t => Tryz.prog.readableRec t && decide (t < Tryz.prog.types.size))) = true := by kernel_rfl
theorem deep_f20 : ((Rows.askDeepRow.ifacesOut == Tryz.f6.resultTypes.toList.any (Tryz.prog.ifacesRec ·))) = true := by kernel_rfl
theorem deep_f21 : ((Rows.askDeepRow.loopsOut == Tryz.f6.resultTypes.toList.any (Tryz.prog.loopsFrom ·))) = true := by kernel_rfl
theorem deep_f22 : ((Rows.askDeepRow.plainKeys == Tryz.prog.plainKeys)) = true := by kernel_rfl
theorem deep_f23 : (Rows.askDeepRow.shortTexts.isNone) = true := by kernel_rfl
theorem deep_f24 : (Tryz.prog.stopsHeard) = true := by kernel_rfl
theorem deep_f25 : (Tryz.prog.mayEnter) = true := by kernel_rfl
theorem deep_f26 : ((Rows.askDeepRow.lifted == Tryz.prog.liftsFinal)) = true := by kernel_rfl
theorem deep_f27 : ((Tryz.prog.make == some Rows.askDeepRow.make)) = true := by kernel_rfl
theorem deep_f28 : ((Rows.askDeepRow.kinds == (if Rows.askDeepRow.domain.isEmpty then [] else Tryz.f6.params.toList.map fun t => match Tryz.prog.underlying t with | some (.int k) => some k | _ => none))) = true := by kernel_rfl
theorem deep_f29 : ((Rows.askDeepRow.pinned == Rows.askDeepRow.pinnedBy)) = true := by kernel_rfl
theorem deep_f30 : ((Rows.askDeepRow.veiled == (Tryz.f6.params.toList ++ Rows.askDeepSpec.plain.varTypes Tryz.prog ++ Tryz.f6.resultTypes.toList).any (Tryz.prog.veiledRec ·))) = true := by kernel_rfl
theorem deep_f31 : (Rows.askDeepRow.veiledFits Tryz.prog Tryz.f6.params.toList (Tryz.f6.params.toList ++ Rows.askDeepSpec.plain.varTypes Tryz.prog ++ Tryz.f6.resultTypes.toList)) = true := by kernel_rfl
theorem deep_closed : joinedFacts Tryz.pinned.checked.prog 6 Tryz.f6 Rows.askDeepSpec Rows.askDeepRow = true := by
  unfold joinedFacts
  simp only [Bool.and_eq_true]
  exact ⟨⟨⟨⟨⟨⟨⟨⟨⟨⟨⟨⟨⟨⟨⟨⟨⟨⟨⟨⟨⟨⟨⟨⟨⟨⟨⟨⟨⟨⟨⟨deep_f0, deep_f1⟩, deep_f2⟩, deep_f3⟩, deep_f4⟩, deep_f5⟩, deep_f6⟩, deep_f7⟩, deep_f8⟩, deep_f9⟩, deep_f10⟩, deep_f11⟩, deep_f12⟩, deep_f13⟩, deep_f14⟩, deep_f15⟩, deep_f16⟩, deep_f17⟩, deep_f18⟩, deep_f19⟩, deep_f20⟩, deep_f21⟩, deep_f22⟩, deep_f23⟩, deep_f24⟩, deep_f25⟩, deep_f26⟩, deep_f27⟩, deep_f28⟩, deep_f29⟩, deep_f30⟩, deep_f31⟩
end Go.Proofs.YtcdogmjbnlmgeaaGreatDoor
