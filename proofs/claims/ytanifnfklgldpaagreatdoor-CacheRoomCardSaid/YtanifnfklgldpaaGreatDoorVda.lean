/-
  Closed facts (1).
-/
import Derived.Test.YtanifnfklgldpaaGreatDoorRows
import Derived.JoinedOf
import Derived.KernelRfl
set_option linter.unusedSimpArgs false
set_option linter.unusedVariables false
set_option maxRecDepth 1000000
namespace Go.Proofs.YtanifnfklgldpaaGreatDoor
open Go Go.Proofs.Tryz
theorem Ch5:Tryz.pinned.checked.prog.funcNamed Rows.cacheRoomRow.func=some 6:=by kernel_rfl
theorem Cio:Tryz.f6.isInstance Tryz.pinned.checked.prog Rows.cacheRoomRow.origin Rows.cacheRoomRow.targs:=of_decide_eq_true (by kernel_rfl)
theorem Ciq:Tryz.f6.isWrapper Tryz.pinned.checked.prog Rows.cacheRoomRow.wrapper Rows.cacheRoomRow.mainSum:=by unfold Func.isWrapper;first|(rw[if_pos (by decide+kernel)];kernel_rfl)|(rw[if_neg (by decide+kernel)];exact⟨rfl,rfl⟩)
theorem Clg:(Rows.cacheRoomRow.wf (OpenSpec.ofChange Rows.cacheRoomSpec))=true:=by kernel_rfl
theorem Clj:(laidOutB prog)=true:=by kernel_rfl
theorem Ckh:(mapsRowed prog)=true:=by kernel_rfl
theorem Ckn:(Tryz.f6.params.all (prog.readableRec ·))=true:=by kernel_rfl
theorem Ckx:(namedTie prog Rows.cacheRoomRow.named Rows.cacheRoomSpec.vars)=true:=by kernel_rfl
theorem Cku:((Rows.cacheRoomRow.stops == []))=true:=by kernel_rfl
theorem Ck6:((prog.stops == []))=true:=by kernel_rfl
theorem Cky:((Rows.cacheRoomRow.knobs == []))=true:=by kernel_rfl
theorem Cka:((prog.stopKnobs == []))=true:=by kernel_rfl
theorem Ckg:((Rows.cacheRoomRow.inPlace == prog.inPlace 6))=true:=by kernel_rfl
theorem Ci0:((Rows.cacheRoomRow.unfollowed == prog.unfollowed 6))=true:=by kernel_rfl
theorem Cjh:((Rows.cacheRoomRow.recurses == prog.recurses 6))=true:=by kernel_rfl
theorem Cjl:((Rows.cacheRoomRow.named == prog.varsNamed 6))=true:=by kernel_rfl
theorem Ci9:((Rows.cacheRoomRow.maps == (Tryz.f6.params.toList++Rows.cacheRoomSpec.plain.varTypes prog).any (prog.mapsRec ·)))=true:=by kernel_rfl
theorem Cje:((Rows.cacheRoomRow.ifaces == (Tryz.f6.params.toList++Rows.cacheRoomSpec.plain.varTypes prog).any (prog.ifacesRec ·)))=true:=by kernel_rfl
theorem Cjo:((Rows.cacheRoomRow.mapsOut == prog.mapsAmong Tryz.f6.resultTypes.toList))=true:=by kernel_rfl
theorem Cjt:((Rows.cacheRoomRow.loops == (Tryz.f6.params.toList++Rows.cacheRoomSpec.plain.varTypes prog).any (prog.loopsFrom ·)))=true:=by kernel_rfl
theorem Cjs:((Rows.cacheRoomRow.wideKeys == (Tryz.f6.params.toList++Rows.cacheRoomSpec.plain.varTypes prog++Tryz.f6.resultTypes.toList).any (prog.wideKeysFrom ·)))=true:=by kernel_rfl
theorem Cjk:(Rows.cacheRoomSpec.vars.all (prog.varReadable ·))=true:=by kernel_rfl
theorem Cjd:(Tryz.f6.resultTypes.all (fun t=>prog.readableRec t && decide (t<prog.types.size)))=true:=by kernel_rfl
theorem Cjg:((Rows.cacheRoomRow.ifacesOut == Tryz.f6.resultTypes.toList.any (prog.ifacesRec ·)))=true:=by kernel_rfl
theorem Cjc:((Rows.cacheRoomRow.loopsOut == Tryz.f6.resultTypes.toList.any (prog.loopsFrom ·)))=true:=by kernel_rfl
theorem Cjw:((Rows.cacheRoomRow.plainKeys == prog.plainKeys))=true:=by kernel_rfl
theorem Cjn:(Rows.cacheRoomRow.shortTexts.isNone)=true:=by kernel_rfl
theorem Ciy:(prog.stopsHeard)=true:=by kernel_rfl
theorem Ci5:(prog.mayEnter)=true:=by kernel_rfl
theorem Cji:((Rows.cacheRoomRow.lifted == prog.liftsFinal))=true:=by kernel_rfl
theorem Cjb:((prog.make == some Rows.cacheRoomRow.make))=true:=by kernel_rfl
theorem Ci8:((Rows.cacheRoomRow.kinds == (if Rows.cacheRoomRow.domain.isEmpty then[]else Tryz.f6.params.toList.map fun t=>match prog.underlying t with|some (.int k)=>some k|_=>none)))=true:=by kernel_rfl
theorem Cjm:((Rows.cacheRoomRow.pinned == Rows.cacheRoomRow.pinnedBy))=true:=by kernel_rfl
theorem Cjp:((Rows.cacheRoomRow.veiled == (Tryz.f6.params.toList++Rows.cacheRoomSpec.plain.varTypes prog++Tryz.f6.resultTypes.toList).any (prog.veiledRec ·)))=true:=by kernel_rfl
theorem Ci6:(Rows.cacheRoomRow.veiledFits prog Tryz.f6.params.toList (Tryz.f6.params.toList++Rows.cacheRoomSpec.plain.varTypes prog++Tryz.f6.resultTypes.toList))=true:=by kernel_rfl
theorem Chf:joinedFacts Tryz.pinned.checked.prog 6 Tryz.f6 Rows.cacheRoomSpec Rows.cacheRoomRow=true:=by unfold joinedFacts;simp only[Bool.and_eq_true];exact⟨⟨⟨⟨⟨⟨⟨⟨⟨⟨⟨⟨⟨⟨⟨⟨⟨⟨⟨⟨⟨⟨⟨⟨⟨⟨⟨⟨⟨⟨⟨Clg,Clj⟩,Ckh⟩,Ckn⟩,Ckx⟩,Cku⟩,Ck6⟩,Cky⟩,Cka⟩,Ckg⟩,Ci0⟩,Cjh⟩,Cjl⟩,Ci9⟩,Cje⟩,Cjo⟩,Cjt⟩,Cjs⟩,Cjk⟩,Cjd⟩,Cjg⟩,Cjc⟩,Cjw⟩,Cjn⟩,Ciy⟩,Ci5⟩,Cji⟩,Cjb⟩,Ci8⟩,Cjm⟩,Cjp⟩,Ci6⟩
end Go.Proofs.YtanifnfklgldpaaGreatDoor
