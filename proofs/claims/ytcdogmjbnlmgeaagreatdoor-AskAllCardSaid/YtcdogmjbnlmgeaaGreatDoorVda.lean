/-
  Closed facts (1).
-/
import Derived.Test.YtcdogmjbnlmgeaaGreatDoorRows
import Derived.JoinedOf
import Derived.KernelRfl
set_option maxRecDepth 1000000
namespace Go.Proofs.YtcdogmjbnlmgeaaGreatDoor
open Go Go.Proofs.Tryz Rows
theorem Asx:Tryz.pinned.checked.prog.funcNamed askAllRow.func=some 3:=by kernel_rfl
theorem Atf:Tryz.f3.isInstance Tryz.pinned.checked.prog askAllRow.origin askAllRow.targs:=of_decide_eq_true (by kernel_rfl)
theorem Avr:Tryz.f3.isWrapper Tryz.pinned.checked.prog askAllRow.wrapper askAllRow.mainSum:=by unfold Func.isWrapper;first|(rw[if_pos (by decide+kernel)];kernel_rfl)|(rw[if_neg (by decide+kernel)];exact⟨rfl,rfl⟩)
theorem A7t:(askAllRow.wf (OpenSpec.ofChange askAllSpec))=true:=by kernel_rfl
theorem A8o:(laidOutB prog)=true:=by kernel_rfl
theorem A99:(mapsRowed prog)=true:=by kernel_rfl
theorem A78:(Tryz.f3.params.all (prog.readableRec ·))=true:=by kernel_rfl
theorem Bav:(namedTie prog askAllRow.named askAllSpec.vars)=true:=by kernel_rfl
theorem A9w:((askAllRow.stops == []))=true:=by kernel_rfl
theorem A64:((prog.stops == []))=true:=by kernel_rfl
theorem Bap:((askAllRow.knobs == []))=true:=by kernel_rfl
theorem Bb1:((prog.stopKnobs == []))=true:=by kernel_rfl
theorem Bao:((askAllRow.inPlace == prog.inPlace 3))=true:=by kernel_rfl
theorem A3z:((askAllRow.unfollowed == prog.unfollowed 3))=true:=by kernel_rfl
theorem A2h:((askAllRow.recurses == prog.recurses 3))=true:=by kernel_rfl
theorem A22:((askAllRow.named == prog.varsNamed 3))=true:=by kernel_rfl
theorem A1z:((askAllRow.maps == (Tryz.f3.params.toList++askAllSpec.plain.varTypes prog).any (prog.mapsRec ·)))=true:=by kernel_rfl
theorem A3l:((askAllRow.ifaces == (Tryz.f3.params.toList++askAllSpec.plain.varTypes prog).any (prog.ifacesRec ·)))=true:=by kernel_rfl
theorem A1j:((askAllRow.mapsOut == prog.mapsAmong Tryz.f3.resultTypes.toList))=true:=by kernel_rfl
theorem A46:((askAllRow.loops == (Tryz.f3.params.toList++askAllSpec.plain.varTypes prog).any (prog.loopsFrom ·)))=true:=by kernel_rfl
theorem A0e:((askAllRow.wideKeys == (Tryz.f3.params.toList++askAllSpec.plain.varTypes prog++Tryz.f3.resultTypes.toList).any (prog.wideKeysFrom ·)))=true:=by kernel_rfl
theorem A5m:(askAllSpec.vars.all (prog.varReadable ·))=true:=by kernel_rfl
theorem A1l:(Tryz.f3.resultTypes.all (fun t=>prog.readableRec t && decide (t<prog.types.size)))=true:=by kernel_rfl
theorem A15:((askAllRow.ifacesOut == Tryz.f3.resultTypes.toList.any (prog.ifacesRec ·)))=true:=by kernel_rfl
theorem Az2:((askAllRow.loopsOut == Tryz.f3.resultTypes.toList.any (prog.loopsFrom ·)))=true:=by kernel_rfl
theorem A1w:((askAllRow.plainKeys == prog.plainKeys))=true:=by kernel_rfl
theorem Ayp:(askAllRow.shortTexts.isNone)=true:=by kernel_rfl
theorem A49:(prog.stopsHeard)=true:=by kernel_rfl
theorem A3b:(prog.mayEnter)=true:=by kernel_rfl
theorem A27:((askAllRow.lifted == prog.liftsFinal))=true:=by kernel_rfl
theorem A3x:((prog.make == some askAllRow.make))=true:=by kernel_rfl
theorem Ay3:((askAllRow.kinds == (if askAllRow.domain.isEmpty then[]else Tryz.f3.params.toList.map fun t=>match prog.underlying t with|some (.int k)=>some k|_=>none)))=true:=by kernel_rfl
theorem A5e:((askAllRow.pinned == askAllRow.pinnedBy))=true:=by kernel_rfl
theorem Az3:((askAllRow.veiled == (Tryz.f3.params.toList++askAllSpec.plain.varTypes prog++Tryz.f3.resultTypes.toList).any (prog.veiledRec ·)))=true:=by kernel_rfl
theorem A1q:(askAllRow.veiledFits prog Tryz.f3.params.toList (Tryz.f3.params.toList++askAllSpec.plain.varTypes prog++Tryz.f3.resultTypes.toList))=true:=by kernel_rfl
theorem Amc:joinedFacts Tryz.pinned.checked.prog 3 Tryz.f3 askAllSpec askAllRow=true:=by unfold joinedFacts;simp only[Bool.and_eq_true];exact⟨⟨⟨⟨⟨⟨⟨⟨⟨⟨⟨⟨⟨⟨⟨⟨⟨⟨⟨⟨⟨⟨⟨⟨⟨⟨⟨⟨⟨⟨⟨A7t,A8o⟩,A99⟩,A78⟩,Bav⟩,A9w⟩,A64⟩,Bap⟩,Bb1⟩,Bao⟩,A3z⟩,A2h⟩,A22⟩,A1z⟩,A3l⟩,A1j⟩,A46⟩,A0e⟩,A5m⟩,A1l⟩,A15⟩,Az2⟩,A1w⟩,Ayp⟩,A49⟩,A3b⟩,A27⟩,A3x⟩,Ay3⟩,A5e⟩,Az3⟩,A1q⟩
end Go.Proofs.YtcdogmjbnlmgeaaGreatDoor
