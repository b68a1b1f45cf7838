/- P. -/
import Derived.Test.YtkbleljhkbmgnaaGreatDoorRows
import Derived.JoinedOf
noncomputable section
set_option maxRecDepth 1000000
namespace Go.Proofs.YtkbleljhkbmgnaaGreatDoor
open Go Go.Proofs.Tryz Rows
theorem Bto:Tryz.pinned.checked.prog.funcNamed askGapRow.func=some 6:=by kernel_rfl
theorem Bt9:Tryz.f6.isInstance Tryz.pinned.checked.prog askGapRow.origin askGapRow.targs:=of_decide_eq_true (by kernel_rfl)
theorem Btz:Tryz.f6.isWrapper Tryz.pinned.checked.prog askGapRow.wrapper askGapRow.mainSum:=by unfold Func.isWrapper;first|(rw[if_pos (by decide+kernel)];kernel_rfl)|(rw[if_neg (by decide+kernel)];exact⟨rfl,rfl⟩)
theorem Bwu:(askGapRow.wf (OpenSpec.ofChange askGapSpec))=true:=by kernel_rfl
theorem Bxb:(laidOutB prog)=true:=by kernel_rfl
theorem Bw1:(mapsRowed prog)=true:=by kernel_rfl
theorem Bw8:(Tryz.f6.params.all (prog.readableRec ·))=true:=by kernel_rfl
theorem Bws:(namedTie prog askGapRow.named askGapSpec.vars)=true:=by kernel_rfl
theorem Bxh:((askGapRow.stops == []))=true:=by kernel_rfl
theorem Bwy:((prog.stops == []))=true:=by kernel_rfl
theorem Bww:((askGapRow.knobs == []))=true:=by kernel_rfl
theorem Bxd:((prog.stopKnobs == []))=true:=by kernel_rfl
theorem Bxe:((askGapRow.inPlace == prog.inPlace 6))=true:=by kernel_rfl
theorem Bvc:((askGapRow.unfollowed == prog.unfollowed 6))=true:=by kernel_rfl
theorem Bvf:((askGapRow.recurses == prog.recurses 6))=true:=by kernel_rfl
theorem Bvt:((askGapRow.named == prog.varsNamed 6))=true:=by kernel_rfl
theorem Bv6:((askGapRow.maps == (Tryz.f6.params.toList++askGapSpec.plain.varTypes prog).any (prog.mapsRec ·)))=true:=by kernel_rfl
theorem Bv2:((askGapRow.ifaces == (Tryz.f6.params.toList++askGapSpec.plain.varTypes prog).any (prog.ifacesRec ·)))=true:=by kernel_rfl
theorem Bu4:((askGapRow.mapsOut == prog.mapsAmong Tryz.f6.resultTypes.toList))=true:=by kernel_rfl
theorem Bvu:((askGapRow.loops == (Tryz.f6.params.toList++askGapSpec.plain.varTypes prog).any (prog.loopsFrom ·)))=true:=by kernel_rfl
theorem Bwf:((askGapRow.wideKeys == (Tryz.f6.params.toList++askGapSpec.plain.varTypes prog++Tryz.f6.resultTypes.toList).any (prog.wideKeysFrom ·)))=true:=by kernel_rfl
theorem Bve:(askGapSpec.vars.all (prog.varReadable ·))=true:=by kernel_rfl
theorem Bv0:(Tryz.f6.resultTypes.all (fun t=>prog.readableRec t && decide (t<prog.types.size)))=true:=by kernel_rfl
theorem Bu9:((askGapRow.ifacesOut == Tryz.f6.resultTypes.toList.any (prog.ifacesRec ·)))=true:=by kernel_rfl
theorem Bur:((askGapRow.loopsOut == Tryz.f6.resultTypes.toList.any (prog.loopsFrom ·)))=true:=by kernel_rfl
theorem Bvq:((askGapRow.plainKeys == prog.plainKeys))=true:=by kernel_rfl
theorem Bvw:(askGapRow.shortTexts.isNone)=true:=by kernel_rfl
theorem Bvl:(prog.stopsHeard)=true:=by kernel_rfl
theorem Bv3:(prog.mayEnter)=true:=by kernel_rfl
theorem Bv5:((askGapRow.lifted == prog.liftsFinal))=true:=by kernel_rfl
theorem Bvn:((prog.make == some askGapRow.make))=true:=by kernel_rfl
theorem Bvx:((askGapRow.kinds == (if askGapRow.domain.isEmpty then[]else Tryz.f6.params.toList.map fun t=>match prog.underlying t with|some (.int k)=>some k|_=>none)))=true:=by kernel_rfl
theorem Bvz:((askGapRow.pinned == askGapRow.pinnedBy))=true:=by kernel_rfl
theorem Bvr:((askGapRow.veiled == (Tryz.f6.params.toList++askGapSpec.plain.varTypes prog++Tryz.f6.resultTypes.toList).any (prog.veiledRec ·)))=true:=by kernel_rfl
theorem Buz:(askGapRow.veiledFits prog Tryz.f6.params.toList (Tryz.f6.params.toList++askGapSpec.plain.varTypes prog++Tryz.f6.resultTypes.toList))=true:=by kernel_rfl
theorem Bsq:joinedFacts Tryz.pinned.checked.prog 6 Tryz.f6 askGapSpec askGapRow=true:=by unfold joinedFacts;simp only[Bool.and_eq_true];exact⟨⟨⟨⟨⟨⟨⟨⟨⟨⟨⟨⟨⟨⟨⟨⟨⟨⟨⟨⟨⟨⟨⟨⟨⟨⟨⟨⟨⟨⟨⟨Bwu,Bxb⟩,Bw1⟩,Bw8⟩,Bws⟩,Bxh⟩,Bwy⟩,Bww⟩,Bxd⟩,Bxe⟩,Bvc⟩,Bvf⟩,Bvt⟩,Bv6⟩,Bv2⟩,Bu4⟩,Bvu⟩,Bwf⟩,Bve⟩,Bv0⟩,Bu9⟩,Bur⟩,Bvq⟩,Bvw⟩,Bvl⟩,Bv3⟩,Bv5⟩,Bvn⟩,Bvx⟩,Bvz⟩,Bvr⟩,Buz⟩
end Go.Proofs.YtkbleljhkbmgnaaGreatDoor
