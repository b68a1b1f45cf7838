/- P. -/
import Derived.Test.YtcdogmjbnlmgeaaGreatDoorRows
import Derived.JoinedOf
noncomputable section
set_option maxRecDepth 1000000
namespace Go.Proofs.YtcdogmjbnlmgeaaGreatDoor
open Go Go.Proofs.Tryz Rows
theorem Bkt:Tryz.pinned.checked.prog.funcNamed askPlacesRow.func=some 8:=by kernel_rfl
theorem Bly:f8.isInstance Tryz.pinned.checked.prog askPlacesRow.origin askPlacesRow.targs:=of_decide_eq_true (by kernel_rfl)
theorem Blz:f8.isWrapper Tryz.pinned.checked.prog askPlacesRow.wrapper askPlacesRow.mainSum:=by unfold Func.isWrapper;first|(rw[if_pos (by decide+kernel)];kernel_rfl)|(rw[if_neg (by decide+kernel)];exact⟨rfl,rfl⟩)
theorem Bp1:(askPlacesRow.wf (OpenSpec.ofChange askPlacesSpec))=true:=by kernel_rfl
theorem Bpw:(laidOutB prog)=true:=by kernel_rfl
theorem Bpt:(mapsRowed prog)=true:=by kernel_rfl
theorem Bpk:(f8.params.all (prog.readableRec ·))=true:=by kernel_rfl
theorem Bpm:(namedTie prog askPlacesRow.named askPlacesSpec.vars)=true:=by kernel_rfl
theorem Bpr:((askPlacesRow.stops == []))=true:=by kernel_rfl
theorem Bpc:((prog.stops == []))=true:=by kernel_rfl
theorem Bpv:((askPlacesRow.knobs == []))=true:=by kernel_rfl
theorem Bpo:((prog.stopKnobs == []))=true:=by kernel_rfl
theorem Bpz:((askPlacesRow.inPlace == prog.inPlace 8))=true:=by kernel_rfl
theorem Bm1:((askPlacesRow.unfollowed == prog.unfollowed 8))=true:=by kernel_rfl
theorem Bn9:((askPlacesRow.recurses == prog.recurses 8))=true:=by kernel_rfl
theorem Bmo:((askPlacesRow.named == prog.varsNamed 8))=true:=by kernel_rfl
theorem Bob:((askPlacesRow.maps == (f8.params.toList++askPlacesSpec.plain.varTypes prog).any (prog.mapsRec ·)))=true:=by kernel_rfl
theorem Bnw:((askPlacesRow.ifaces == (f8.params.toList++askPlacesSpec.plain.varTypes prog).any (prog.ifacesRec ·)))=true:=by kernel_rfl
theorem Boe:((askPlacesRow.mapsOut == prog.mapsAmong f8.resultTypes.toList))=true:=by kernel_rfl
theorem Bnp:((askPlacesRow.loops == (f8.params.toList++askPlacesSpec.plain.varTypes prog).any (prog.loopsFrom ·)))=true:=by kernel_rfl
theorem Bn0:((askPlacesRow.wideKeys == (f8.params.toList++askPlacesSpec.plain.varTypes prog++f8.resultTypes.toList).any (prog.wideKeysFrom ·)))=true:=by kernel_rfl
theorem Bn4:(askPlacesSpec.vars.all (prog.varReadable ·))=true:=by kernel_rfl
theorem Bn5:(f8.resultTypes.all (fun t=>prog.readableRec t && decide (t<prog.types.size)))=true:=by kernel_rfl
theorem Bnb:((askPlacesRow.ifacesOut == f8.resultTypes.toList.any (prog.ifacesRec ·)))=true:=by kernel_rfl
theorem Bna:((askPlacesRow.loopsOut == f8.resultTypes.toList.any (prog.loopsFrom ·)))=true:=by kernel_rfl
theorem Bn7:((askPlacesRow.plainKeys == prog.plainKeys))=true:=by kernel_rfl
theorem Bnf:(askPlacesRow.shortTexts.isNone)=true:=by kernel_rfl
theorem Bne:(prog.stopsHeard)=true:=by kernel_rfl
theorem Bmx:(prog.mayEnter)=true:=by kernel_rfl
theorem Bm2:((askPlacesRow.lifted == prog.liftsFinal))=true:=by kernel_rfl
theorem Bno:((prog.make == some askPlacesRow.make))=true:=by kernel_rfl
theorem Bnu:((askPlacesRow.kinds == (if askPlacesRow.domain.isEmpty then[]else f8.params.toList.map fun t=>match prog.underlying t with|some (.int k)=>some k|_=>none)))=true:=by kernel_rfl
theorem Bmp:((askPlacesRow.pinned == askPlacesRow.pinnedBy))=true:=by kernel_rfl
theorem Bms:((askPlacesRow.veiled == (f8.params.toList++askPlacesSpec.plain.varTypes prog++f8.resultTypes.toList).any (prog.veiledRec ·)))=true:=by kernel_rfl
theorem Bmt:(askPlacesRow.veiledFits prog f8.params.toList (f8.params.toList++askPlacesSpec.plain.varTypes prog++f8.resultTypes.toList))=true:=by kernel_rfl
theorem Bi5:joinedFacts Tryz.pinned.checked.prog 8 f8 askPlacesSpec askPlacesRow=true:=by unfold joinedFacts;simp only[Bool.and_eq_true];exact⟨⟨⟨⟨⟨⟨⟨⟨⟨⟨⟨⟨⟨⟨⟨⟨⟨⟨⟨⟨⟨⟨⟨⟨⟨⟨⟨⟨⟨⟨⟨Bp1,Bpw⟩,Bpt⟩,Bpk⟩,Bpm⟩,Bpr⟩,Bpc⟩,Bpv⟩,Bpo⟩,Bpz⟩,Bm1⟩,Bn9⟩,Bmo⟩,Bob⟩,Bnw⟩,Boe⟩,Bnp⟩,Bn0⟩,Bn4⟩,Bn5⟩,Bnb⟩,Bna⟩,Bn7⟩,Bnf⟩,Bne⟩,Bmx⟩,Bm2⟩,Bno⟩,Bnu⟩,Bmp⟩,Bms⟩,Bmt⟩
end Go.Proofs.YtcdogmjbnlmgeaaGreatDoor
