/-
  Closed facts (1).
-/
import Derived.Test.YtanifnfklgldpaaGreatDoorRows
import Derived.JoinedOf
import Derived.KernelRfl
set_option linter.unusedSimpArgs false
set_option linter.unusedVariables false
set_option maxRecDepth 1000000
namespace Go.Proofs.YtanifnfklgldpaaGreatDoor
open Go Go.Proofs.Tryz
theorem Cnv:Tryz.pinned.checked.prog.funcNamed Rows.cacheOwnRow.func=some 3:=by kernel_rfl
theorem Cog:f3.isInstance Tryz.pinned.checked.prog Rows.cacheOwnRow.origin Rows.cacheOwnRow.targs:=of_decide_eq_true (by kernel_rfl)
theorem Cpk:f3.isWrapper Tryz.pinned.checked.prog Rows.cacheOwnRow.wrapper Rows.cacheOwnRow.mainSum:=by unfold Func.isWrapper;first|(rw[if_pos (by decide+kernel)];kernel_rfl)|(rw[if_neg (by decide+kernel)];exact⟨rfl,rfl⟩)
theorem Crq:(Rows.cacheOwnRow.wf (OpenSpec.ofChange Rows.cacheOwnSpec))=true:=by kernel_rfl
theorem Cpu:(laidOutB prog)=true:=by kernel_rfl
theorem Crv:(mapsRowed prog)=true:=by kernel_rfl
theorem Crw:(f3.params.all (prog.readableRec ·))=true:=by kernel_rfl
theorem Cry:(namedTie prog Rows.cacheOwnRow.named Rows.cacheOwnSpec.vars)=true:=by kernel_rfl
theorem Crh:((Rows.cacheOwnRow.stops == []))=true:=by kernel_rfl
theorem Cr1:((prog.stops == []))=true:=by kernel_rfl
theorem Cri:((Rows.cacheOwnRow.knobs == []))=true:=by kernel_rfl
theorem Crt:((prog.stopKnobs == []))=true:=by kernel_rfl
theorem Cru:((Rows.cacheOwnRow.inPlace == prog.inPlace 3))=true:=by kernel_rfl
theorem Cp9:((Rows.cacheOwnRow.unfollowed == prog.unfollowed 3))=true:=by kernel_rfl
theorem Cq6:((Rows.cacheOwnRow.recurses == prog.recurses 3))=true:=by kernel_rfl
theorem Cqx:((Rows.cacheOwnRow.named == prog.varsNamed 3))=true:=by kernel_rfl
theorem Cp6:((Rows.cacheOwnRow.maps == (f3.params.toList++Rows.cacheOwnSpec.plain.varTypes prog).any (prog.mapsRec ·)))=true:=by kernel_rfl
theorem Cqw:((Rows.cacheOwnRow.ifaces == (f3.params.toList++Rows.cacheOwnSpec.plain.varTypes prog).any (prog.ifacesRec ·)))=true:=by kernel_rfl
theorem Cqe:((Rows.cacheOwnRow.mapsOut == prog.mapsAmong f3.resultTypes.toList))=true:=by kernel_rfl
theorem Cqy:((Rows.cacheOwnRow.loops == (f3.params.toList++Rows.cacheOwnSpec.plain.varTypes prog).any (prog.loopsFrom ·)))=true:=by kernel_rfl
theorem Cp0:((Rows.cacheOwnRow.wideKeys == (f3.params.toList++Rows.cacheOwnSpec.plain.varTypes prog++f3.resultTypes.toList).any (prog.wideKeysFrom ·)))=true:=by kernel_rfl
theorem Cpz:(Rows.cacheOwnSpec.vars.all (prog.varReadable ·))=true:=by kernel_rfl
theorem Cqi:(f3.resultTypes.all (fun t=>prog.readableRec t && decide (t<prog.types.size)))=true:=by kernel_rfl
theorem Cql:((Rows.cacheOwnRow.ifacesOut == f3.resultTypes.toList.any (prog.ifacesRec ·)))=true:=by kernel_rfl
theorem Cqh:((Rows.cacheOwnRow.loopsOut == f3.resultTypes.toList.any (prog.loopsFrom ·)))=true:=by kernel_rfl
theorem Cp3:((Rows.cacheOwnRow.plainKeys == prog.plainKeys))=true:=by kernel_rfl
theorem Cqs:(Rows.cacheOwnRow.shortTexts.isNone)=true:=by kernel_rfl
theorem Cq1:(prog.stopsHeard)=true:=by kernel_rfl
theorem Cq4:(prog.mayEnter)=true:=by kernel_rfl
theorem Cqz:((Rows.cacheOwnRow.lifted == prog.liftsFinal))=true:=by kernel_rfl
theorem Cq2:((prog.make == some Rows.cacheOwnRow.make))=true:=by kernel_rfl
theorem Cqk:((Rows.cacheOwnRow.kinds == (if Rows.cacheOwnRow.domain.isEmpty then[]else f3.params.toList.map fun t=>match prog.underlying t with|some (.int k)=>some k|_=>none)))=true:=by kernel_rfl
theorem Cq3:((Rows.cacheOwnRow.pinned == Rows.cacheOwnRow.pinnedBy))=true:=by kernel_rfl
theorem Cqr:((Rows.cacheOwnRow.veiled == (f3.params.toList++Rows.cacheOwnSpec.plain.varTypes prog++f3.resultTypes.toList).any (prog.veiledRec ·)))=true:=by kernel_rfl
theorem Cqv:(Rows.cacheOwnRow.veiledFits prog f3.params.toList (f3.params.toList++Rows.cacheOwnSpec.plain.varTypes prog++f3.resultTypes.toList))=true:=by kernel_rfl
theorem Cmc:joinedFacts Tryz.pinned.checked.prog 3 f3 Rows.cacheOwnSpec Rows.cacheOwnRow=true:=by unfold joinedFacts;simp only[Bool.and_eq_true];exact⟨⟨⟨⟨⟨⟨⟨⟨⟨⟨⟨⟨⟨⟨⟨⟨⟨⟨⟨⟨⟨⟨⟨⟨⟨⟨⟨⟨⟨⟨⟨Crq,Cpu⟩,Crv⟩,Crw⟩,Cry⟩,Crh⟩,Cr1⟩,Cri⟩,Crt⟩,Cru⟩,Cp9⟩,Cq6⟩,Cqx⟩,Cp6⟩,Cqw⟩,Cqe⟩,Cqy⟩,Cp0⟩,Cpz⟩,Cqi⟩,Cql⟩,Cqh⟩,Cp3⟩,Cqs⟩,Cq1⟩,Cq4⟩,Cqz⟩,Cq2⟩,Cqk⟩,Cq3⟩,Cqr⟩,Cqv⟩
end Go.Proofs.YtanifnfklgldpaaGreatDoor
