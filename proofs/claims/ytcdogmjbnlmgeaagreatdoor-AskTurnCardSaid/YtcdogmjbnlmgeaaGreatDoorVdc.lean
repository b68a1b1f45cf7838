/- P. -/
import Derived.Test.YtcdogmjbnlmgeaaGreatDoorRows
import Derived.JoinedOf
set_option linter.unusedVariables false
noncomputable section
set_option maxRecDepth 1000000
namespace Go.Proofs.YtcdogmjbnlmgeaaGreatDoor
open Go Go.Proofs.Tryz Rows
theorem Bf2:Tryz.pinned.checked.prog.funcNamed askTurnRow.func=some 5:=by kernel_rfl
theorem Bhb:Tryz.f5.isInstance Tryz.pinned.checked.prog askTurnRow.origin askTurnRow.targs:=of_decide_eq_true (by kernel_rfl)
theorem Bip:Tryz.f5.isWrapper Tryz.pinned.checked.prog askTurnRow.wrapper askTurnRow.mainSum:=by unfold Func.isWrapper;first|(rw[if_pos (by decide+kernel)];kernel_rfl)|(rw[if_neg (by decide+kernel)];exact⟨rfl,rfl⟩)
theorem Blg:(askTurnRow.wf (OpenSpec.ofChange askTurnSpec))=true:=by kernel_rfl
theorem Ble:(laidOutB prog)=true:=by kernel_rfl
theorem Bk8:(mapsRowed prog)=true:=by kernel_rfl
theorem Bk4:(Tryz.f5.params.all (prog.readableRec ·))=true:=by kernel_rfl
theorem Blc:(namedTie prog askTurnRow.named askTurnSpec.vars)=true:=by kernel_rfl
theorem Bk9:((askTurnRow.stops == []))=true:=by kernel_rfl
theorem Bkv:((prog.stops == []))=true:=by kernel_rfl
theorem Bkn:((askTurnRow.knobs == []))=true:=by kernel_rfl
theorem Bkm:((prog.stopKnobs == []))=true:=by kernel_rfl
theorem Bkk:((askTurnRow.inPlace == prog.inPlace 5))=true:=by kernel_rfl
theorem Bjl:((askTurnRow.unfollowed == prog.unfollowed 5))=true:=by kernel_rfl
theorem Bj0:((askTurnRow.recurses == prog.recurses 5))=true:=by kernel_rfl
theorem Bjj:((askTurnRow.named == prog.varsNamed 5))=true:=by kernel_rfl
theorem Bi9:((askTurnRow.maps == (Tryz.f5.params.toList++askTurnSpec.plain.varTypes prog).any (prog.mapsRec ·)))=true:=by kernel_rfl
theorem Bi8:((askTurnRow.ifaces == (Tryz.f5.params.toList++askTurnSpec.plain.varTypes prog).any (prog.ifacesRec ·)))=true:=by kernel_rfl
theorem Bjy:((askTurnRow.mapsOut == prog.mapsAmong Tryz.f5.resultTypes.toList))=true:=by kernel_rfl
theorem Bj2:((askTurnRow.loops == (Tryz.f5.params.toList++askTurnSpec.plain.varTypes prog).any (prog.loopsFrom ·)))=true:=by kernel_rfl
theorem Bjd:((askTurnRow.wideKeys == (Tryz.f5.params.toList++askTurnSpec.plain.varTypes prog++Tryz.f5.resultTypes.toList).any (prog.wideKeysFrom ·)))=true:=by kernel_rfl
theorem Bja:(askTurnSpec.vars.all (prog.varReadable ·))=true:=by kernel_rfl
theorem Bjn:(Tryz.f5.resultTypes.all (fun t=>prog.readableRec t && decide (t<prog.types.size)))=true:=by kernel_rfl
theorem Bjw:((askTurnRow.ifacesOut == Tryz.f5.resultTypes.toList.any (prog.ifacesRec ·)))=true:=by kernel_rfl
theorem Bjp:((askTurnRow.loopsOut == Tryz.f5.resultTypes.toList.any (prog.loopsFrom ·)))=true:=by kernel_rfl
theorem Bjt:((askTurnRow.plainKeys == prog.plainKeys))=true:=by kernel_rfl
theorem Bjv:(askTurnRow.shortTexts.isNone)=true:=by kernel_rfl
theorem Bjf:(prog.stopsHeard)=true:=by kernel_rfl
theorem Bjx:(prog.mayEnter)=true:=by kernel_rfl
theorem Bje:((askTurnRow.lifted == prog.liftsFinal))=true:=by kernel_rfl
theorem Bjb:((prog.make == some askTurnRow.make))=true:=by kernel_rfl
theorem Bjm:((askTurnRow.kinds == (if askTurnRow.domain.isEmpty then[]else Tryz.f5.params.toList.map fun t=>match prog.underlying t with|some (.int k)=>some k|_=>none)))=true:=by kernel_rfl
theorem Bjg:((askTurnRow.pinned == askTurnRow.pinnedBy))=true:=by kernel_rfl
theorem Bi6:((askTurnRow.veiled == (Tryz.f5.params.toList++askTurnSpec.plain.varTypes prog++Tryz.f5.resultTypes.toList).any (prog.veiledRec ·)))=true:=by kernel_rfl
theorem Bjz:(askTurnRow.veiledFits prog Tryz.f5.params.toList (Tryz.f5.params.toList++askTurnSpec.plain.varTypes prog++Tryz.f5.resultTypes.toList))=true:=by kernel_rfl
theorem Bcz:joinedFacts Tryz.pinned.checked.prog 5 Tryz.f5 askTurnSpec askTurnRow=true:=by unfold joinedFacts;simp only[Bool.and_eq_true];exact⟨⟨⟨⟨⟨⟨⟨⟨⟨⟨⟨⟨⟨⟨⟨⟨⟨⟨⟨⟨⟨⟨⟨⟨⟨⟨⟨⟨⟨⟨⟨Blg,Ble⟩,Bk8⟩,Bk4⟩,Blc⟩,Bk9⟩,Bkv⟩,Bkn⟩,Bkm⟩,Bkk⟩,Bjl⟩,Bj0⟩,Bjj⟩,Bi9⟩,Bi8⟩,Bjy⟩,Bj2⟩,Bjd⟩,Bja⟩,Bjn⟩,Bjw⟩,Bjp⟩,Bjt⟩,Bjv⟩,Bjf⟩,Bjx⟩,Bje⟩,Bjb⟩,Bjm⟩,Bjg⟩,Bi6⟩,Bjz⟩
end Go.Proofs.YtcdogmjbnlmgeaaGreatDoor
