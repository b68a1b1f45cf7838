/- P. -/
import Derived.Test.YtiobopjhbneieaaGreatDoorRows
import Derived.JoinedOf
noncomputable section
set_option maxRecDepth 1000000
namespace Go.Proofs.YtiobopjhbneieaaGreatDoor
open Go Go.Proofs.Tryz Rows
theorem B1p:Tryz.pinned.checked.prog.funcNamed askLeftRow.func=some 3:=by kernel_rfl
theorem B2t:Tryz.f3.isInstance Tryz.pinned.checked.prog askLeftRow.origin askLeftRow.targs:=of_decide_eq_true (by kernel_rfl)
theorem B2p:Tryz.f3.isWrapper Tryz.pinned.checked.prog askLeftRow.wrapper askLeftRow.mainSum:=by unfold Func.isWrapper;first|(rw[if_pos (by decide+kernel)];kernel_rfl)|(rw[if_neg (by decide+kernel)];exact⟨rfl,rfl⟩)
theorem B5d:(askLeftRow.wf (OpenSpec.ofChange askLeftSpec))=true:=by kernel_rfl
theorem B4z:(laidOutB prog)=true:=by kernel_rfl
theorem B4t:(mapsRowed prog)=true:=by kernel_rfl
theorem B4y:(Tryz.f3.params.all (prog.readableRec ·))=true:=by kernel_rfl
theorem B4q:(namedTie prog askLeftRow.named askLeftSpec.vars)=true:=by kernel_rfl
theorem B5a:((askLeftRow.stops == []))=true:=by kernel_rfl
theorem B49:((prog.stops == []))=true:=by kernel_rfl
theorem B44:((askLeftRow.knobs == []))=true:=by kernel_rfl
theorem B4u:((prog.stopKnobs == []))=true:=by kernel_rfl
theorem B41:((askLeftRow.inPlace == prog.inPlace 3))=true:=by kernel_rfl
theorem B3h:((askLeftRow.unfollowed == prog.unfollowed 3))=true:=by kernel_rfl
theorem B3x:((askLeftRow.recurses == prog.recurses 3))=true:=by kernel_rfl
theorem B34:((askLeftRow.named == prog.varsNamed 3))=true:=by kernel_rfl
theorem B3i:((askLeftRow.maps == (Tryz.f3.params.toList++askLeftSpec.plain.varTypes prog).any (prog.mapsRec ·)))=true:=by kernel_rfl
theorem B38:((askLeftRow.ifaces == (Tryz.f3.params.toList++askLeftSpec.plain.varTypes prog).any (prog.ifacesRec ·)))=true:=by kernel_rfl
theorem B3j:((askLeftRow.mapsOut == prog.mapsAmong Tryz.f3.resultTypes.toList))=true:=by kernel_rfl
theorem B31:((askLeftRow.loops == (Tryz.f3.params.toList++askLeftSpec.plain.varTypes prog).any (prog.loopsFrom ·)))=true:=by kernel_rfl
theorem B3v:((askLeftRow.wideKeys == (Tryz.f3.params.toList++askLeftSpec.plain.varTypes prog++Tryz.f3.resultTypes.toList).any (prog.wideKeysFrom ·)))=true:=by kernel_rfl
theorem B3y:(askLeftSpec.vars.all (prog.varReadable ·))=true:=by kernel_rfl
theorem B30:(Tryz.f3.resultTypes.all (fun t=>prog.readableRec t && decide (t<prog.types.size)))=true:=by kernel_rfl
theorem B3l:((askLeftRow.ifacesOut == Tryz.f3.resultTypes.toList.any (prog.ifacesRec ·)))=true:=by kernel_rfl
theorem B39:((askLeftRow.loopsOut == Tryz.f3.resultTypes.toList.any (prog.loopsFrom ·)))=true:=by kernel_rfl
theorem B3g:((askLeftRow.plainKeys == prog.plainKeys))=true:=by kernel_rfl
theorem B3u:(askLeftRow.shortTexts.isNone)=true:=by kernel_rfl
theorem B3k:(prog.stopsHeard)=true:=by kernel_rfl
theorem B3r:(prog.mayEnter)=true:=by kernel_rfl
theorem B3n:((askLeftRow.lifted == prog.liftsFinal))=true:=by kernel_rfl
theorem B3s:((prog.make == some askLeftRow.make))=true:=by kernel_rfl
theorem B3c:((askLeftRow.kinds == (if askLeftRow.domain.isEmpty then[]else Tryz.f3.params.toList.map fun t=>match prog.underlying t with|some (.int k)=>some k|_=>none)))=true:=by kernel_rfl
theorem B3t:((askLeftRow.pinned == askLeftRow.pinnedBy))=true:=by kernel_rfl
theorem B3b:((askLeftRow.veiled == (Tryz.f3.params.toList++askLeftSpec.plain.varTypes prog++Tryz.f3.resultTypes.toList).any (prog.veiledRec ·)))=true:=by kernel_rfl
theorem B3e:(askLeftRow.veiledFits prog Tryz.f3.params.toList (Tryz.f3.params.toList++askLeftSpec.plain.varTypes prog++Tryz.f3.resultTypes.toList))=true:=by kernel_rfl
theorem Bxf:joinedFacts Tryz.pinned.checked.prog 3 Tryz.f3 askLeftSpec askLeftRow=true:=by unfold joinedFacts;simp only[Bool.and_eq_true];exact⟨⟨⟨⟨⟨⟨⟨⟨⟨⟨⟨⟨⟨⟨⟨⟨⟨⟨⟨⟨⟨⟨⟨⟨⟨⟨⟨⟨⟨⟨⟨B5d,B4z⟩,B4t⟩,B4y⟩,B4q⟩,B5a⟩,B49⟩,B44⟩,B4u⟩,B41⟩,B3h⟩,B3x⟩,B34⟩,B3i⟩,B38⟩,B3j⟩,B31⟩,B3v⟩,B3y⟩,B30⟩,B3l⟩,B39⟩,B3g⟩,B3u⟩,B3k⟩,B3r⟩,B3n⟩,B3s⟩,B3c⟩,B3t⟩,B3b⟩,B3e⟩
end Go.Proofs.YtiobopjhbneieaaGreatDoor
