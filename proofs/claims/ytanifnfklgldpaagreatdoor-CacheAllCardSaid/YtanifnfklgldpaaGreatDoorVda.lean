/-
  Closed facts (1).
-/
import Derived.Test.YtanifnfklgldpaaGreatDoorRows
import Derived.JoinedOf
import Derived.KernelRfl
set_option linter.unusedSimpArgs false
set_option linter.unusedVariables false
set_option maxRecDepth 1000000
namespace Go.Proofs.YtanifnfklgldpaaGreatDoor
open Go Go.Proofs.Tryz
theorem Clq:Tryz.pinned.checked.prog.funcNamed Rows.cacheAllRow.func=some 7:=by kernel_rfl
theorem Cmx:f7.isInstance Tryz.pinned.checked.prog Rows.cacheAllRow.origin Rows.cacheAllRow.targs:=of_decide_eq_true (by kernel_rfl)
theorem Cmj:f7.isWrapper Tryz.pinned.checked.prog Rows.cacheAllRow.wrapper Rows.cacheAllRow.mainSum:=by unfold Func.isWrapper;first|(rw[if_pos (by decide+kernel)];kernel_rfl)|(rw[if_neg (by decide+kernel)];exact⟨rfl,rfl⟩)
theorem Cpm:(Rows.cacheAllRow.wf (OpenSpec.ofChange Rows.cacheAllSpec))=true:=by kernel_rfl
theorem Cm1:(laidOutB prog)=true:=by kernel_rfl
theorem Co3:(mapsRowed prog)=true:=by kernel_rfl
theorem Cpe:(f7.params.all (prog.readableRec ·))=true:=by kernel_rfl
theorem Cox:(namedTie prog Rows.cacheAllRow.named Rows.cacheAllSpec.vars)=true:=by kernel_rfl
theorem Cok:((Rows.cacheAllRow.stops == []))=true:=by kernel_rfl
theorem Cos:((prog.stops == []))=true:=by kernel_rfl
theorem Coy:((Rows.cacheAllRow.knobs == []))=true:=by kernel_rfl
theorem Co1:((prog.stopKnobs == []))=true:=by kernel_rfl
theorem Cpb:((Rows.cacheAllRow.inPlace == prog.inPlace 7))=true:=by kernel_rfl
theorem Cn7:((Rows.cacheAllRow.unfollowed == prog.unfollowed 7))=true:=by kernel_rfl
theorem Cng:((Rows.cacheAllRow.recurses == prog.recurses 7))=true:=by kernel_rfl
theorem Cm8:((Rows.cacheAllRow.named == prog.varsNamed 7))=true:=by kernel_rfl
theorem Cnw:((Rows.cacheAllRow.maps == (f7.params.toList++Rows.cacheAllSpec.plain.varTypes prog).any (prog.mapsRec ·)))=true:=by kernel_rfl
theorem Cnr:((Rows.cacheAllRow.ifaces == (f7.params.toList++Rows.cacheAllSpec.plain.varTypes prog).any (prog.ifacesRec ·)))=true:=by kernel_rfl
theorem Cnc:((Rows.cacheAllRow.mapsOut == prog.mapsAmong f7.resultTypes.toList))=true:=by kernel_rfl
theorem Cnk:((Rows.cacheAllRow.loops == (f7.params.toList++Rows.cacheAllSpec.plain.varTypes prog).any (prog.loopsFrom ·)))=true:=by kernel_rfl
theorem Cnd:((Rows.cacheAllRow.wideKeys == (f7.params.toList++Rows.cacheAllSpec.plain.varTypes prog++f7.resultTypes.toList).any (prog.wideKeysFrom ·)))=true:=by kernel_rfl
theorem Cni:(Rows.cacheAllSpec.vars.all (prog.varReadable ·))=true:=by kernel_rfl
theorem Cn5:(f7.resultTypes.all (fun t=>prog.readableRec t && decide (t<prog.types.size)))=true:=by kernel_rfl
theorem Cnx:((Rows.cacheAllRow.ifacesOut == f7.resultTypes.toList.any (prog.ifacesRec ·)))=true:=by kernel_rfl
theorem Cn2:((Rows.cacheAllRow.loopsOut == f7.resultTypes.toList.any (prog.loopsFrom ·)))=true:=by kernel_rfl
theorem Cnf:((Rows.cacheAllRow.plainKeys == prog.plainKeys))=true:=by kernel_rfl
theorem Cm9:(Rows.cacheAllRow.shortTexts.isNone)=true:=by kernel_rfl
theorem Cnh:(prog.stopsHeard)=true:=by kernel_rfl
theorem Cny:(prog.mayEnter)=true:=by kernel_rfl
theorem Cnq:((Rows.cacheAllRow.lifted == prog.liftsFinal))=true:=by kernel_rfl
theorem Cn3:((prog.make == some Rows.cacheAllRow.make))=true:=by kernel_rfl
theorem Cnt:((Rows.cacheAllRow.kinds == (if Rows.cacheAllRow.domain.isEmpty then[]else f7.params.toList.map fun t=>match prog.underlying t with|some (.int k)=>some k|_=>none)))=true:=by kernel_rfl
theorem Cnz:((Rows.cacheAllRow.pinned == Rows.cacheAllRow.pinnedBy))=true:=by kernel_rfl
theorem Cnn:((Rows.cacheAllRow.veiled == (f7.params.toList++Rows.cacheAllSpec.plain.varTypes prog++f7.resultTypes.toList).any (prog.veiledRec ·)))=true:=by kernel_rfl
theorem Cn4:(Rows.cacheAllRow.veiledFits prog f7.params.toList (f7.params.toList++Rows.cacheAllSpec.plain.varTypes prog++f7.resultTypes.toList))=true:=by kernel_rfl
theorem Ck1:joinedFacts Tryz.pinned.checked.prog 7 f7 Rows.cacheAllSpec Rows.cacheAllRow=true:=by unfold joinedFacts;simp only[Bool.and_eq_true];exact⟨⟨⟨⟨⟨⟨⟨⟨⟨⟨⟨⟨⟨⟨⟨⟨⟨⟨⟨⟨⟨⟨⟨⟨⟨⟨⟨⟨⟨⟨⟨Cpm,Cm1⟩,Co3⟩,Cpe⟩,Cox⟩,Cok⟩,Cos⟩,Coy⟩,Co1⟩,Cpb⟩,Cn7⟩,Cng⟩,Cm8⟩,Cnw⟩,Cnr⟩,Cnc⟩,Cnk⟩,Cnd⟩,Cni⟩,Cn5⟩,Cnx⟩,Cn2⟩,Cnf⟩,Cm9⟩,Cnh⟩,Cny⟩,Cnq⟩,Cn3⟩,Cnt⟩,Cnz⟩,Cnn⟩,Cn4⟩
end Go.Proofs.YtanifnfklgldpaaGreatDoor
