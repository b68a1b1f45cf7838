/- P. -/
import Derived.Test.YtiobopjhbneieaaGreatDoorRows
import Derived.JoinedOf
noncomputable section
set_option maxRecDepth 1000000
namespace Go.Proofs.YtiobopjhbneieaaGreatDoor
open Go Go.Proofs.Tryz
theorem B5j:Tryz.pinned.checked.prog.funcNamed Rows.scopeLetRow.func=some 4:=by kernel_rfl
theorem B6a:f4.isInstance Tryz.pinned.checked.prog Rows.scopeLetRow.origin Rows.scopeLetRow.targs:=of_decide_eq_true (by kernel_rfl)
theorem B6g:f4.isWrapper Tryz.pinned.checked.prog Rows.scopeLetRow.wrapper Rows.scopeLetRow.mainSum:=by unfold Func.isWrapper;first|(rw[if_pos (by decide+kernel)];kernel_rfl)|(rw[if_neg (by decide+kernel)];exact⟨rfl,rfl⟩)
theorem B9m:(Rows.scopeLetRow.wf (OpenSpec.ofChange Rows.scopeLetSpec))=true:=by kernel_rfl
theorem Cab:(laidOutB prog)=true:=by kernel_rfl
theorem B9l:(mapsRowed prog)=true:=by kernel_rfl
theorem B9y:(f4.params.all (prog.readableRec ·))=true:=by kernel_rfl
theorem B9x:(namedTie prog Rows.scopeLetRow.named Rows.scopeLetSpec.vars)=true:=by kernel_rfl
theorem B9r:((Rows.scopeLetRow.stops == []))=true:=by kernel_rfl
theorem B81:((prog.stops == []))=true:=by kernel_rfl
theorem B89:((Rows.scopeLetRow.knobs == []))=true:=by kernel_rfl
theorem B9q:((prog.stopKnobs == []))=true:=by kernel_rfl
theorem B87:((Rows.scopeLetRow.inPlace == prog.inPlace 4))=true:=by kernel_rfl
theorem B67:((Rows.scopeLetRow.unfollowed == prog.unfollowed 4))=true:=by kernel_rfl
theorem B7k:((Rows.scopeLetRow.recurses == prog.recurses 4))=true:=by kernel_rfl
theorem B8i:((Rows.scopeLetRow.named == prog.varsNamed 4))=true:=by kernel_rfl
theorem B7r:((Rows.scopeLetRow.maps == (f4.params.toList++Rows.scopeLetSpec.plain.varTypes prog).any (prog.mapsRec ·)))=true:=by kernel_rfl
theorem B68:((Rows.scopeLetRow.ifaces == (f4.params.toList++Rows.scopeLetSpec.plain.varTypes prog).any (prog.ifacesRec ·)))=true:=by kernel_rfl
theorem B78:((Rows.scopeLetRow.mapsOut == prog.mapsAmong f4.resultTypes.toList))=true:=by kernel_rfl
theorem B8c:((Rows.scopeLetRow.loops == (f4.params.toList++Rows.scopeLetSpec.plain.varTypes prog).any (prog.loopsFrom ·)))=true:=by kernel_rfl
theorem B7y:((Rows.scopeLetRow.wideKeys == (f4.params.toList++Rows.scopeLetSpec.plain.varTypes prog++f4.resultTypes.toList).any (prog.wideKeysFrom ·)))=true:=by kernel_rfl
theorem B7x:(Rows.scopeLetSpec.vars.all (prog.varReadable ·))=true:=by kernel_rfl
theorem B70:(f4.resultTypes.all (fun t=>prog.readableRec t && decide (t<prog.types.size)))=true:=by kernel_rfl
theorem B7m:((Rows.scopeLetRow.ifacesOut == f4.resultTypes.toList.any (prog.ifacesRec ·)))=true:=by kernel_rfl
theorem B7t:((Rows.scopeLetRow.loopsOut == f4.resultTypes.toList.any (prog.loopsFrom ·)))=true:=by kernel_rfl
theorem B7i:((Rows.scopeLetRow.plainKeys == prog.plainKeys))=true:=by kernel_rfl
theorem B8d:(Rows.scopeLetRow.shortTexts.isNone)=true:=by kernel_rfl
theorem B7e:(prog.stopsHeard)=true:=by kernel_rfl
theorem B7n:(prog.mayEnter)=true:=by kernel_rfl
theorem B79:((Rows.scopeLetRow.lifted == prog.liftsFinal))=true:=by kernel_rfl
theorem B76:((prog.make == some Rows.scopeLetRow.make))=true:=by kernel_rfl
theorem B7j:((Rows.scopeLetRow.kinds == (if Rows.scopeLetRow.domain.isEmpty then[]else f4.params.toList.map fun t=>match prog.underlying t with|some (.int k)=>some k|_=>none)))=true:=by kernel_rfl
theorem B8e:((Rows.scopeLetRow.pinned == Rows.scopeLetRow.pinnedBy))=true:=by kernel_rfl
theorem B65:((Rows.scopeLetRow.veiled == (f4.params.toList++Rows.scopeLetSpec.plain.varTypes prog++f4.resultTypes.toList).any (prog.veiledRec ·)))=true:=by kernel_rfl
theorem B74:(Rows.scopeLetRow.veiledFits prog f4.params.toList (f4.params.toList++Rows.scopeLetSpec.plain.varTypes prog++f4.resultTypes.toList))=true:=by kernel_rfl
theorem B40:joinedFacts Tryz.pinned.checked.prog 4 f4 Rows.scopeLetSpec Rows.scopeLetRow=true:=by unfold joinedFacts;simp only[Bool.and_eq_true];exact⟨⟨⟨⟨⟨⟨⟨⟨⟨⟨⟨⟨⟨⟨⟨⟨⟨⟨⟨⟨⟨⟨⟨⟨⟨⟨⟨⟨⟨⟨⟨B9m,Cab⟩,B9l⟩,B9y⟩,B9x⟩,B9r⟩,B81⟩,B89⟩,B9q⟩,B87⟩,B67⟩,B7k⟩,B8i⟩,B7r⟩,B68⟩,B78⟩,B8c⟩,B7y⟩,B7x⟩,B70⟩,B7m⟩,B7t⟩,B7i⟩,B8d⟩,B7e⟩,B7n⟩,B79⟩,B76⟩,B7j⟩,B8e⟩,B65⟩,B74⟩
end Go.Proofs.YtiobopjhbneieaaGreatDoor
