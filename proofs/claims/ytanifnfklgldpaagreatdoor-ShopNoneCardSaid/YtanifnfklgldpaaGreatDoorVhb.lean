/-
  Closed facts (1).
-/
import Derived.Test.YtanifnfklgldpaaGreatDoorRows
import Derived.JoinedOf
import Derived.KernelRfl
set_option linter.unusedSimpArgs false
set_option linter.unusedVariables false
set_option maxRecDepth 1000000
namespace Go.Proofs.YtanifnfklgldpaaGreatDoor
open Go Go.Proofs.Tryz
theorem B7z:Tryz.pinned.checked.prog.funcNamed Rows.shopNoneRow.func=some 8:=by kernel_rfl
theorem Cbm:f8.isInstance Tryz.pinned.checked.prog Rows.shopNoneRow.origin Rows.shopNoneRow.targs:=of_decide_eq_true (by kernel_rfl)
theorem Cbn:f8.isWrapper Tryz.pinned.checked.prog Rows.shopNoneRow.wrapper Rows.shopNoneRow.mainSum:=by unfold Func.isWrapper;first|(rw[if_pos (by decide+kernel)];kernel_rfl)|(rw[if_neg (by decide+kernel)];exact⟨rfl,rfl⟩)
theorem Cfv:(Rows.shopNoneRow.wf (OpenSpec.ofChange Rows.shopNoneSpec))=true:=by kernel_rfl
theorem Cfh:(laidOutB prog)=true:=by kernel_rfl
theorem Cfl:(mapsRowed prog)=true:=by kernel_rfl
theorem Cex:(f8.params.all (prog.readableRec ·))=true:=by kernel_rfl
theorem Cf2:(namedTie prog Rows.shopNoneRow.named Rows.shopNoneSpec.vars)=true:=by kernel_rfl
theorem Ce9:((Rows.shopNoneRow.stops == []))=true:=by kernel_rfl
theorem Cfk:((prog.stops == []))=true:=by kernel_rfl
theorem Cft:((Rows.shopNoneRow.knobs == []))=true:=by kernel_rfl
theorem Cfn:((prog.stopKnobs == []))=true:=by kernel_rfl
theorem Cfx:((Rows.shopNoneRow.inPlace == prog.inPlace 8))=true:=by kernel_rfl
theorem Cdh:((Rows.shopNoneRow.unfollowed == prog.unfollowed 8))=true:=by kernel_rfl
theorem Cdv:((Rows.shopNoneRow.recurses == prog.recurses 8))=true:=by kernel_rfl
theorem Cdc:((Rows.shopNoneRow.named == prog.varsNamed 8))=true:=by kernel_rfl
theorem Cdw:((Rows.shopNoneRow.maps == (f8.params.toList++Rows.shopNoneSpec.plain.varTypes prog).any (prog.mapsRec ·)))=true:=by kernel_rfl
theorem Cc7:((Rows.shopNoneRow.ifaces == (f8.params.toList++Rows.shopNoneSpec.plain.varTypes prog).any (prog.ifacesRec ·)))=true:=by kernel_rfl
theorem Cc9:((Rows.shopNoneRow.mapsOut == prog.mapsAmong f8.resultTypes.toList))=true:=by kernel_rfl
theorem Cd6:((Rows.shopNoneRow.loops == (f8.params.toList++Rows.shopNoneSpec.plain.varTypes prog).any (prog.loopsFrom ·)))=true:=by kernel_rfl
theorem Cds:((Rows.shopNoneRow.wideKeys == (f8.params.toList++Rows.shopNoneSpec.plain.varTypes prog++f8.resultTypes.toList).any (prog.wideKeysFrom ·)))=true:=by kernel_rfl
theorem Cd8:(Rows.shopNoneSpec.vars.all (prog.varReadable ·))=true:=by kernel_rfl
theorem Cei:(f8.resultTypes.all (fun t=>prog.readableRec t && decide (t<prog.types.size)))=true:=by kernel_rfl
theorem Cd7:((Rows.shopNoneRow.ifacesOut == f8.resultTypes.toList.any (prog.ifacesRec ·)))=true:=by kernel_rfl
theorem Cdr:((Rows.shopNoneRow.loopsOut == f8.resultTypes.toList.any (prog.loopsFrom ·)))=true:=by kernel_rfl
theorem Cdb:((Rows.shopNoneRow.plainKeys == prog.plainKeys))=true:=by kernel_rfl
theorem Cdn:(Rows.shopNoneRow.shortTexts.isNone)=true:=by kernel_rfl
theorem Cef:(prog.stopsHeard)=true:=by kernel_rfl
theorem Ccx:(prog.mayEnter)=true:=by kernel_rfl
theorem Ceh:((Rows.shopNoneRow.lifted == prog.liftsFinal))=true:=by kernel_rfl
theorem Ceo:((prog.make == some Rows.shopNoneRow.make))=true:=by kernel_rfl
theorem Cdd:((Rows.shopNoneRow.kinds == (if Rows.shopNoneRow.domain.isEmpty then[]else f8.params.toList.map fun t=>match prog.underlying t with|some (.int k)=>some k|_=>none)))=true:=by kernel_rfl
theorem Ccz:((Rows.shopNoneRow.pinned == Rows.shopNoneRow.pinnedBy))=true:=by kernel_rfl
theorem Cc3:((Rows.shopNoneRow.veiled == (f8.params.toList++Rows.shopNoneSpec.plain.varTypes prog++f8.resultTypes.toList).any (prog.veiledRec ·)))=true:=by kernel_rfl
theorem Cdx:(Rows.shopNoneRow.veiledFits prog f8.params.toList (f8.params.toList++Rows.shopNoneSpec.plain.varTypes prog++f8.resultTypes.toList))=true:=by kernel_rfl
theorem B5i:joinedFacts Tryz.pinned.checked.prog 8 f8 Rows.shopNoneSpec Rows.shopNoneRow=true:=by unfold joinedFacts;simp only[Bool.and_eq_true];exact⟨⟨⟨⟨⟨⟨⟨⟨⟨⟨⟨⟨⟨⟨⟨⟨⟨⟨⟨⟨⟨⟨⟨⟨⟨⟨⟨⟨⟨⟨⟨Cfv,Cfh⟩,Cfl⟩,Cex⟩,Cf2⟩,Ce9⟩,Cfk⟩,Cft⟩,Cfn⟩,Cfx⟩,Cdh⟩,Cdv⟩,Cdc⟩,Cdw⟩,Cc7⟩,Cc9⟩,Cd6⟩,Cds⟩,Cd8⟩,Cei⟩,Cd7⟩,Cdr⟩,Cdb⟩,Cdn⟩,Cef⟩,Ccx⟩,Ceh⟩,Ceo⟩,Cdd⟩,Ccz⟩,Cc3⟩,Cdx⟩
end Go.Proofs.YtanifnfklgldpaaGreatDoor
