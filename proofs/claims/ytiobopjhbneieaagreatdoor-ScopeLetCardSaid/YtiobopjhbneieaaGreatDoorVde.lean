/- The card of ScopeLet holds: the law answers true in every world, for all arguments, with no condition but the card's own. -/
import Derived.Test.YtiobopjhbneieaaGreatDoorVdb
import Derived.Test.YtiobopjhbneieaaGreatDoorVdc
import Derived.Test.YtiobopjhbneieaaGreatDoorVdd
import Derived.Stop.LaidErr
import Derived.Test.YtiobopjhbneieaaGreatDoorTie
import Derived.Test.YtiobopjhbneieaaGreatDoorCards
set_option linter.unusedVariables false
noncomputable section
set_option maxRecDepth 1000000
namespace Go.Proofs.YtiobopjhbneieaaGreatDoor
open Go Go.ChangeAt Go.ChangeMaps Go.ChangeShapes Go.Proofs.Tryz Go.RowKit Go.Vam Go.WideShapes
theorem B77:ownKnob prog.godebug= .none:=by kernel_rfl
def scW(os:Os):World:=
 {World.doorLaid prog 72 os with heap:=(World.doorLaid prog 72 os).heap.modify 6 fun
   | .cells _ t frozen=> .cells (Lib.firstTab.map fun z=>Value.int .u8 z).toArray t frozen
   |o=>o}
theorem B6o(os:Os)(args:Array Value):laidMetH prog Rows.scopeLetRow.laid ((scW os).forCall (fun _ _=>0) ⟨#[],args,[]⟩).memory:=
 laidMetH_of_parts3 (fuel:=8) (laidMet_of_run' 8 (by kernel_rfl) (by kernel_rfl)) (by kernel_rfl) (by kernel_rfl)
theorem B4b(W:World)(h:W.ShapedOpen prog):∃m,W.cell? ⟨0,0,.none⟩=some (.int .i64 m):=
 cell_of_shapedOpen_int (g:=0) (t:=3) (zero:= #[.int .i64 0]) h (of_decide_eq_true (by kernel_rfl)) (by kernel_rfl) rfl (by kernel_rfl) (by kernel_rfl) underlying3
theorem B9s:prog.globalNamed "internal/strconv.uint64pow10" =some 1:=by kernel_rfl
theorem B6v:prog.globalNamed "strconv.ErrSyntax" =some 4:=by kernel_rfl
theorem B61:prog.globalNamed "strconv.ErrRange" =some 5:=by kernel_rfl
theorem B9f:(prog.globals[1]?).map (·.type)=some 277:=by kernel_rfl
theorem B9v:(prog.globals[4]?).map (·.type)=some 281:=by kernel_rfl
theorem B92:(prog.globals[5]?).map (·.type)=some 281:=by kernel_rfl
theorem B4m: "*" ++ "errors.errorString" = "*errors.errorString" :=by decide
theorem B50(u:TypeId)(h:prog.typeName? 3 u=some "*errors.errorString"):u=349:=
 typeName_ptr_named (nm:= "errors.errorString") (by rw[B4m];kernel_rfl) (by kernel_rfl) (by decide) u (by rw[B4m];exact h)
theorem B6h{W:World}(h:laidMetH prog Rows.scopeLetRow.laid W):Lib.TabIs prog W "internal/strconv.uint64pow10" .u64 Lib.pow10Tab∧(∃tp p,W.cell? ⟨4,0,.none⟩=some (.iface tp p))∧(∃tp p,W.cell? ⟨5,0,.none⟩=some (.iface tp p)):=by
 rw[Go.MakeChecks.laidMetH_plain _ _ _ (by kernel_rfl)]at h
 have h2:=h.tail.tail;refine⟨Lib.tabIs_of_head B9s B9f underlying277 underlying167 (by kernel_rfl) (by kernel_rfl) h2,?_,?_⟩
 ·obtain⟨a,s,hv,_⟩:=laid_sentinel h2.tail.tail.tail B6v B9v underlying281 B50 underlying349 underlying351 rfl rfl underlying9 (by kernel_rfl) (by kernel_rfl)
  exact⟨_,_,by have h0:=World.var?_cell B6v hv 0;simpa using h0⟩
 ·obtain⟨a,s,hv,_⟩:=laid_sentinel h2.tail.tail B61 B92 underlying281 B50 underlying349 underlying351 rfl rfl underlying9 (by kernel_rfl) (by kernel_rfl)
  exact⟨_,_,by have h0:=World.var?_cell B61 hv 0;simpa using h0⟩
theorem B4d(os:Os){H:Type}(enc:TypeId × Value→H):
  (OpenSpec.ofChange Rows.scopeLetSpec).preRow enc prog f4 Rows.scopeLetRow.domain false Rows.scopeLetRow.laid ((scW os).forCall (fun _ _=>0) ⟨#[],#[.string ⟨#[]⟩,.string ⟨#[]⟩],[]⟩).memory #[.string ⟨#[]⟩,.string ⟨#[]⟩]:=by
 have hw:(DataW.whole enc prog ((scW os).forCall (fun _ _=>0) ⟨#[],#[.string ⟨#[]⟩,.string ⟨#[]⟩],[]⟩).memory f4.params.toList (OpenSpec.ofChange Rows.scopeLetSpec).vars false (#[.string ⟨#[]⟩,.string ⟨#[]⟩]:Array Value).toList 8).map (fun x=>(x.1,x.2.1))=some ([.lit (.string []),.lit (.string [])],[]):=by kernel_rfl
 obtain⟨⟨x1,x2,x3⟩,hx,hx1⟩:=Option.map_eq_some_iff.1 hw;simp only[Prod.mk.injEq]at hx1;obtain⟨rfl,rfl⟩:=hx1;exact OpenSpec.preRow_of_cond 8 hx (by kernel_rfl) (fun k hk=>by cases hk) (by kernel_rfl) (B6o os _)
theorem B43(os:Os)(started:os.Started)(H:Type)(enc:TypeId × Value→H):
  ReturnsInHanded {} Tryz.checked os 4 .any ((OpenSpec.ofChange Rows.scopeLetSpec).preRow enc prog f4 Rows.scopeLetRow.domain false Rows.scopeLetRow.laid) (Rows.scopeLetSpec.post enc prog f4 false true false false):=by
 refine returnsInHanded_of_row (C:=Tryz.checked) (s:=OpenSpec.ofChange Rows.scopeLetSpec) (F:=default) B77 started (by kernel_rfl) func4
  (witness_row_atRef (enc:=enc) (C:=Tryz.checked) false (scW os) #[.string ⟨#[]⟩,.string ⟨#[]⟩] rfl (by kernel_rfl) (by kernel_rfl) (by kernel_rfl) (B4d os enc)) ?_
 intro W base args ds gs before hval0 hW _ _ _ hL hsh _;have hval:∀(j:Nat) t v,f4.params[j]?=some t→args[j]?=some v→Value.okWide prog W .any base t v:=hval0;have hW':=hW;obtain⟨p,q,hA0,hV,rfl,hfz,hnd⟩:=hW;have hA:DataW.TrodAll enc prog W 0 (fun _=>true) true f4.params.toList args.toList ds p:=hA0;rw[params4]at hA hval;obtain⟨v0,v1,d0,d1,p0,p1,rfl,rfl,rfl,h0,h1⟩:=trodAll_two hA;obtain⟨rfl,rfl⟩:=trodVars_none hV;obtain⟨s,rfl,rfl,rfl,ws⟩:=open_string underlying9 (hval 0 9 v0 rfl rfl) h0;obtain⟨m,rfl,rfl,rfl,wm⟩:=open_string underlying9 (hval 1 9 v1 rfl rfl) h1;clear hA0 hval0;obtain⟨ht,he1,he2⟩:=B6h hL;refine(B7f ⟨B4b W hsh,ht,he1,he2⟩ s m).mono fun e W' ⟨he,hk⟩=>?_;subst he;exact⟨_,rfl,_,_,_,_,_,_,hW',(trodAll_cons_mk (shut_bool underlying4 _) trodAll_mk0),trodAll_mk2 (shut_string underlying9 ws) (shut_string underlying9 wm),rfl,World.keptBut_mono (fun _ h=>h.elim) hk.but,fun h=>by cases h⟩
theorem B53:Rows.ScopeLetSaid:=
 OpenClaim.holds_of_wide 4 f4 rfl rfl rfl rfl rfl rfl rfl ⟨rfl,rfl,rfl,rfl,rfl⟩ rfl rfl rfl rfl rfl B5j func4 B40 B6a B6g
  (fun os started H enc _=>by rw[OpenClaim.pre_eq_preRow];exact B43 os started H enc)
theorem scopeLet_card:Rows.ScopeLetCardSaid:=
 Claim7.holds_tied_plain_at .later [] [.data,.data,.data,.data,.sentinel,.sentinel,.pinned] true (true,"cc4c7372acb64faaed9cbf25c360f0823d3bab2a82384ad9cdc4b089d346c02f") true
  B53 (fun _ h=>by cases h) B86 (fun _ h=>by cases h) scopeLet_row_tie rfl ⟨rfl,rfl⟩ B8z rfl
  (fun f fn hf hfn=>by
   obtain rfl:f=4:=Option.some.inj (B93.symm.trans hf) |>.symm;obtain rfl:fn=f4:=(Option.some.inj (func4.symm.trans hfn)).symm;exact⟨B9p,fun j t ht=>by
    rw[params4]at ht;have h3:t=9:=by
     rcases j with _|_|j<;>simp at ht
     ·exact ht.symm
     ·exact ht.symm
    subst h3;exact(show prog.wantsStandIn 9=false by kernel_rfl)⟩)
  B94
end Go.Proofs.YtiobopjhbneieaaGreatDoor
