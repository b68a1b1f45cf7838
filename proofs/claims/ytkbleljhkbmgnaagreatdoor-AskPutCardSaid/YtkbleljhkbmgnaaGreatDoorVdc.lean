/- P. -/
import Derived.Test.YtkbleljhkbmgnaaGreatDoorRows
import Derived.JoinedOf
noncomputable section
set_option maxRecDepth 1000000
namespace Go.Proofs.YtkbleljhkbmgnaaGreatDoor
open Go Go.Proofs.Tryz Rows
theorem Bw5:Tryz.pinned.checked.prog.funcNamed askPutRow.func=some 4:=by kernel_rfl
theorem Bxy:Tryz.f4.isInstance Tryz.pinned.checked.prog askPutRow.origin askPutRow.targs:=of_decide_eq_true (by kernel_rfl)
theorem Bxz:Tryz.f4.isWrapper Tryz.pinned.checked.prog askPutRow.wrapper askPutRow.mainSum:=by unfold Func.isWrapper;first|(rw[if_pos (by decide+kernel)];kernel_rfl)|(rw[if_neg (by decide+kernel)];exact⟨rfl,rfl⟩)
theorem B0e:(askPutRow.wf (OpenSpec.ofChange askPutSpec))=true:=by kernel_rfl
theorem B05:(laidOutB prog)=true:=by kernel_rfl
theorem B0z:(mapsRowed prog)=true:=by kernel_rfl
theorem B1d:(Tryz.f4.params.all (prog.readableRec ·))=true:=by kernel_rfl
theorem B0q:(namedTie prog askPutRow.named askPutSpec.vars)=true:=by kernel_rfl
theorem B0p:((askPutRow.stops == []))=true:=by kernel_rfl
theorem B02:((prog.stops == []))=true:=by kernel_rfl
theorem B0l:((askPutRow.knobs == []))=true:=by kernel_rfl
theorem B1b:((prog.stopKnobs == []))=true:=by kernel_rfl
theorem B0w:((askPutRow.inPlace == prog.inPlace 4))=true:=by kernel_rfl
theorem By1:((askPutRow.unfollowed == prog.unfollowed 4))=true:=by kernel_rfl
theorem By6:((askPutRow.recurses == prog.recurses 4))=true:=by kernel_rfl
theorem Bzp:((askPutRow.named == prog.varsNamed 4))=true:=by kernel_rfl
theorem Byo:((askPutRow.maps == (Tryz.f4.params.toList++askPutSpec.plain.varTypes prog).any (prog.mapsRec ·)))=true:=by kernel_rfl
theorem Bzm:((askPutRow.ifaces == (Tryz.f4.params.toList++askPutSpec.plain.varTypes prog).any (prog.ifacesRec ·)))=true:=by kernel_rfl
theorem Bzu:((askPutRow.mapsOut == prog.mapsAmong Tryz.f4.resultTypes.toList))=true:=by kernel_rfl
theorem Bzs:((askPutRow.loops == (Tryz.f4.params.toList++askPutSpec.plain.varTypes prog).any (prog.loopsFrom ·)))=true:=by kernel_rfl
theorem Bzz:((askPutRow.wideKeys == (Tryz.f4.params.toList++askPutSpec.plain.varTypes prog++Tryz.f4.resultTypes.toList).any (prog.wideKeysFrom ·)))=true:=by kernel_rfl
theorem Bzg:(askPutSpec.vars.all (prog.varReadable ·))=true:=by kernel_rfl
theorem By8:(Tryz.f4.resultTypes.all (fun t=>prog.readableRec t && decide (t<prog.types.size)))=true:=by kernel_rfl
theorem Byp:((askPutRow.ifacesOut == Tryz.f4.resultTypes.toList.any (prog.ifacesRec ·)))=true:=by kernel_rfl
theorem Byl:((askPutRow.loopsOut == Tryz.f4.resultTypes.toList.any (prog.loopsFrom ·)))=true:=by kernel_rfl
theorem Bye:((askPutRow.plainKeys == prog.plainKeys))=true:=by kernel_rfl
theorem Bzc:(askPutRow.shortTexts.isNone)=true:=by kernel_rfl
theorem Bzy:(prog.stopsHeard)=true:=by kernel_rfl
theorem By2:(prog.mayEnter)=true:=by kernel_rfl
theorem Bzq:((askPutRow.lifted == prog.liftsFinal))=true:=by kernel_rfl
theorem Bza:((prog.make == some askPutRow.make))=true:=by kernel_rfl
theorem Bzo:((askPutRow.kinds == (if askPutRow.domain.isEmpty then[]else Tryz.f4.params.toList.map fun t=>match prog.underlying t with|some (.int k)=>some k|_=>none)))=true:=by kernel_rfl
theorem Byy:((askPutRow.pinned == askPutRow.pinnedBy))=true:=by kernel_rfl
theorem By3:((askPutRow.veiled == (Tryz.f4.params.toList++askPutSpec.plain.varTypes prog++Tryz.f4.resultTypes.toList).any (prog.veiledRec ·)))=true:=by kernel_rfl
theorem Bya:(askPutRow.veiledFits prog Tryz.f4.params.toList (Tryz.f4.params.toList++askPutSpec.plain.varTypes prog++Tryz.f4.resultTypes.toList))=true:=by kernel_rfl
theorem Bt8:joinedFacts Tryz.pinned.checked.prog 4 Tryz.f4 askPutSpec askPutRow=true:=by unfold joinedFacts;simp only[Bool.and_eq_true];exact⟨⟨⟨⟨⟨⟨⟨⟨⟨⟨⟨⟨⟨⟨⟨⟨⟨⟨⟨⟨⟨⟨⟨⟨⟨⟨⟨⟨⟨⟨⟨B0e,B05⟩,B0z⟩,B1d⟩,B0q⟩,B0p⟩,B02⟩,B0l⟩,B1b⟩,B0w⟩,By1⟩,By6⟩,Bzp⟩,Byo⟩,Bzm⟩,Bzu⟩,Bzs⟩,Bzz⟩,Bzg⟩,By8⟩,Byp⟩,Byl⟩,Bye⟩,Bzc⟩,Bzy⟩,By2⟩,Bzq⟩,Bza⟩,Bzo⟩,Byy⟩,By3⟩,Bya⟩
end Go.Proofs.YtkbleljhkbmgnaaGreatDoor
