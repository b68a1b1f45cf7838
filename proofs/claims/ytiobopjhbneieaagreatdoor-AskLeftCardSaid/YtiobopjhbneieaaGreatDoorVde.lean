/- The card of AskLeft holds: the law answers true in every world, for all arguments, with no condition but the card's. -/
import Derived.Test.YtiobopjhbneieaaGreatDoorVdb
import Derived.Test.YtiobopjhbneieaaGreatDoorVdc
import Derived.Test.YtiobopjhbneieaaGreatDoorVdd
import Derived.Stop.LaidErr
import Derived.Test.YtiobopjhbneieaaGreatDoorTie
import Derived.Test.YtiobopjhbneieaaGreatDoorCards
set_option linter.unusedVariables false
noncomputable section
set_option maxRecDepth 1000000
namespace Go.Proofs.YtiobopjhbneieaaGreatDoor
open Go Go.ChangeAt Go.ChangeMaps Go.ChangeShapes Go.Proofs.Tryz Go.RowKit Go.Vam Go.WideShapes Rows
theorem B37:ownKnob prog.godebug= .none:=by kernel_rfl
section
variable{H:Type}{enc:TypeId × Value→H}{P:Program}{w:World}{base:Nat}{spare:Nat→Bool}{held:Bool}
theorem Bsl{t0 t1 t2 t3 t4:TypeId}{args:Array Value}{ds:List (DataW H)}{ps:List MemPlace}(h:DataW.TrodAll enc P w base spare held [t0,t1,t2,t3,t4] args.toList ds ps):
  ∃v0 v1 v2 v3 v4 d0 d1 d2 d3 d4 p0 p1 p2 p3 p4,args= #[v0,v1,v2,v3,v4]∧ds= [d0,d1,d2,d3,d4]∧ps=p0++p1++p2++p3++p4∧DataW.Trod enc P w base spare held t0 v0 d0 p0∧DataW.Trod enc P w base spare held t1 v1 d1 p1∧DataW.Trod enc P w base spare held t2 v2 d2 p2∧DataW.Trod enc P w base spare held t3 v3 d3 p3∧DataW.Trod enc P w base spare held t4 v4 d4 p4:=by
 obtain⟨v0,vs,d0,ds0,p0,q0,hargs,rfl,rfl,h0,hr⟩:=trodAll_cons h;obtain⟨v1,vs1,d1,ds1,p1,q1,rfl,rfl,rfl,h1,hr1⟩:=trodAll_cons hr;obtain⟨v2,vs2,d2,ds2,p2,q2,rfl,rfl,rfl,h2,hr2⟩:=trodAll_cons hr1;obtain⟨v3,vs3,d3,ds3,p3,q3,rfl,rfl,rfl,h3,hr3⟩:=trodAll_cons hr2;obtain⟨v4,vs4,d4,ds4,p4,q4,rfl,rfl,rfl,h4,hr4⟩:=trodAll_cons hr3;obtain⟨rfl,rfl,rfl⟩:=trodAll_nil hr4;exact⟨v0,v1,v2,v3,v4,d0,d1,d2,d3,d4,p0,p1,p2,p3,p4,by cases args;simp_all,rfl,by simp,h0,h1,h2,h3,h4⟩
theorem Bth{t0 t1 t2 t3 t4:TypeId}{v0 v1 v2 v3 v4:Value}{d0 d1 d2 d3 d4:DataW H}{p0 p1 p2 p3 p4:List MemPlace}(h0:DataW.Trod enc P w base spare held t0 v0 d0 p0)(h1:DataW.Trod enc P w base spare held t1 v1 d1 p1)(h2:DataW.Trod enc P w base spare held t2 v2 d2 p2)(h3:DataW.Trod enc P w base spare held t3 v3 d3 p3)(h4:DataW.Trod enc P w base spare held t4 v4 d4 p4):
  DataW.TrodAll enc P w base spare held [t0,t1,t2,t3,t4] [v0,v1,v2,v3,v4] [d0,d1,d2,d3,d4] (p0++(p1++(p2++(p3++(p4++ []))))):=trodAll_cons_mk h0 (trodAll_cons_mk h1 (trodAll_cons_mk h2 (trodAll_cons_mk h3 (trodAll_cons_mk h4 trodAll_mk0))))
end
def leW(os:Os):World:=
 {World.doorLaid prog 72 os with heap:=(World.doorLaid prog 72 os).heap.modify 6 fun
   | .cells _ t frozen=> .cells (Lib.firstTab.map fun z=>Value.int .u8 z).toArray t frozen
   |o=>o}
theorem B2u(os:Os)(args:Array Value):laidMetH prog askLeftRow.laid ((leW os).forCall (fun _ _=>0) ⟨#[],args,[]⟩).memory:=
 laidMetH_of_parts3 (fuel:=8) (laidMet_of_run' 8 (by kernel_rfl) (by kernel_rfl)) (by kernel_rfl) (by kernel_rfl)
theorem Bwi(W:World)(h:W.ShapedOpen prog):∃m,W.cell? ⟨0,0,.none⟩=some (.int .i64 m):=
 cell_of_shapedOpen_int (g:=0) (t:=3) (zero:= #[.int .i64 0]) h (of_decide_eq_true (by kernel_rfl)) (by kernel_rfl) rfl (by kernel_rfl) (by kernel_rfl) underlying3
theorem B47:prog.globalNamed "internal/strconv.uint64pow10" =some 1:=by kernel_rfl
theorem B29:prog.globalNamed "strconv.ErrSyntax" =some 4:=by kernel_rfl
theorem B24:prog.globalNamed "strconv.ErrRange" =some 5:=by kernel_rfl
theorem B4o:(prog.globals[1]?).map (·.type)=some 277:=by kernel_rfl
theorem B5c:(prog.globals[4]?).map (·.type)=some 281:=by kernel_rfl
theorem B46:(prog.globals[5]?).map (·.type)=some 281:=by kernel_rfl
theorem Bw3: "*" ++ "errors.errorString" = "*errors.errorString" :=by decide
theorem B2j(u:TypeId)(h:prog.typeName? 3 u=some "*errors.errorString"):u=349:=
 typeName_ptr_named (nm:= "errors.errorString") (by rw[Bw3];kernel_rfl) (by kernel_rfl) (by decide) u (by rw[Bw3];exact h)
theorem B2o{W:World}(h:laidMetH prog askLeftRow.laid W):Lib.TabIs prog W "internal/strconv.uint64pow10" .u64 Lib.pow10Tab∧(∃tp p,W.cell? ⟨4,0,.none⟩=some (.iface tp p))∧(∃tp p,W.cell? ⟨5,0,.none⟩=some (.iface tp p)):=by
 rw[Go.MakeChecks.laidMetH_plain _ _ _ (by kernel_rfl)]at h
 have h2:=h.tail.tail;refine⟨Lib.tabIs_of_head B47 B4o underlying277 underlying167 (by kernel_rfl) (by kernel_rfl) h2,?_,?_⟩
 ·obtain⟨a,s,hv,_⟩:=laid_sentinel h2.tail.tail.tail B29 B5c underlying281 B2j underlying349 underlying351 rfl rfl underlying9 (by kernel_rfl) (by kernel_rfl)
  exact⟨_,_,by have h0:=World.var?_cell B29 hv 0;simpa using h0⟩
 ·obtain⟨a,s,hv,_⟩:=laid_sentinel h2.tail.tail B24 B46 underlying281 B2j underlying349 underlying351 rfl rfl underlying9 (by kernel_rfl) (by kernel_rfl)
  exact⟨_,_,by have h0:=World.var?_cell B24 hv 0;simpa using h0⟩
theorem Bwk(os:Os){H:Type}(enc:TypeId × Value→H):
  (OpenSpec.ofChange askLeftSpec).preRow enc prog Tryz.f3 askLeftRow.domain false askLeftRow.laid ((leW os).forCall (fun _ _=>0) ⟨#[],#[.string ⟨#[]⟩,.string ⟨#[]⟩,.string ⟨#[]⟩,.int .i64 0,.int .i64 0],[]⟩).memory #[.string ⟨#[]⟩,.string ⟨#[]⟩,.string ⟨#[]⟩,.int .i64 0,.int .i64 0]:=by
 have hw:(DataW.whole enc prog ((leW os).forCall (fun _ _=>0) ⟨#[],#[.string ⟨#[]⟩,.string ⟨#[]⟩,.string ⟨#[]⟩,.int .i64 0,.int .i64 0],[]⟩).memory Tryz.f3.params.toList (OpenSpec.ofChange askLeftSpec).vars false (#[.string ⟨#[]⟩,.string ⟨#[]⟩,.string ⟨#[]⟩,.int .i64 0,.int .i64 0]:Array Value).toList 8).map (fun x=>(x.1,x.2.1))=some ([.lit (.string []),.lit (.string []),.lit (.string []),.lit (.int .i64 0),.lit (.int .i64 0)],[]):=by kernel_rfl
 obtain⟨⟨x1,x2,x3⟩,hx,hx1⟩:=Option.map_eq_some_iff.1 hw;simp only[Prod.mk.injEq]at hx1;obtain⟨rfl,rfl⟩:=hx1;exact OpenSpec.preRow_of_cond 8 hx (by kernel_rfl) (fun k hk=>by cases hk) (by kernel_rfl) (B2u os _)
theorem Bxn(os:Os)(started:os.Started)(H:Type)(enc:TypeId × Value→H):
  ReturnsInHanded {} Tryz.checked os 3 .any ((OpenSpec.ofChange askLeftSpec).preRow enc prog Tryz.f3 askLeftRow.domain false askLeftRow.laid) (askLeftSpec.post enc prog Tryz.f3 false true false false):=by
 refine returnsInHanded_of_row (C:=Tryz.checked) (s:=OpenSpec.ofChange askLeftSpec) (F:=default) B37 started (by kernel_rfl) func3
  (witness_row_atRef (enc:=enc) (C:=Tryz.checked) false (leW os) #[.string ⟨#[]⟩,.string ⟨#[]⟩,.string ⟨#[]⟩,.int .i64 0,.int .i64 0] rfl (by kernel_rfl) (by kernel_rfl) (by kernel_rfl) (Bwk os enc)) ?_
 intro W base args ds gs before hval0 hW _ _ _ hL hsh _;have hval:∀(j:Nat) t v,Tryz.f3.params[j]?=some t→args[j]?=some v→Value.okWide prog W .any base t v:=hval0;have hW':=hW;obtain⟨p,q,hA0,hV,rfl,hfz,hnd⟩:=hW;have hA:DataW.TrodAll enc prog W 0 (fun _=>true) true Tryz.f3.params.toList args.toList ds p:=hA0;rw[params3]at hA hval;obtain⟨v0,v1,v2,v3,v4,d0,d1,d2,d3,d4,p0,p1,p2,p3,p4,rfl,rfl,rfl,h0,h1,h2,h3,h4⟩:=Bsl hA;obtain⟨rfl,rfl⟩:=trodVars_none hV;obtain⟨s,rfl,rfl,rfl,ws⟩:=open_string underlying9 (hval 0 9 v0 rfl rfl) h0;obtain⟨m,rfl,rfl,rfl,wm⟩:=open_string underlying9 (hval 1 9 v1 rfl rfl) h1;obtain⟨o,rfl,rfl,rfl,wo⟩:=open_string underlying9 (hval 2 9 v2 rfl rfl) h2;obtain⟨x,rfl,rfl,rfl,wx⟩:=open_int underlying3 (hval 3 3 v3 rfl rfl) h3;obtain⟨y,rfl,rfl,rfl,wy⟩:=open_int underlying3 (hval 4 3 v4 rfl rfl) h4;clear hA0 hval0;obtain⟨ht,he1,he2⟩:=B2o hL;refine(B3p ⟨Bwi W hsh,ht,he1,he2⟩ s m o x y).mono fun e W' ⟨he,hk⟩=>?_;subst he;exact⟨_,rfl,_,_,_,_,_,_,hW',(trodAll_cons_mk (shut_bool underlying4 _) trodAll_mk0),Bth (shut_string underlying9 ws) (shut_string underlying9 wm) (shut_string underlying9 wo) (shut_int underlying3 wx) (shut_int underlying3 wy),rfl,World.keptBut_mono (fun _ h=>h.elim) hk.but,fun h=>by cases h⟩
theorem B18:Rows.AskLeftSaid:=
 OpenClaim.holds_of_wide 3 Tryz.f3 rfl rfl rfl rfl rfl rfl rfl ⟨rfl,rfl,rfl,rfl,rfl⟩ rfl rfl rfl rfl rfl B1p func3 Bxf B2t B2p
  (fun os started H enc _=>by rw[OpenClaim.pre_eq_preRow];exact Bxn os started H enc)
theorem askLeft_card:Rows.AskLeftCardSaid:=
 Claim7.holds_tied_plain_at .later [] [.data,.data,.data,.data,.sentinel,.sentinel,.pinned] true (true,"cc4c7372acb64faaed9cbf25c360f0823d3bab2a82384ad9cdc4b089d346c02f") true
  B18 (fun _ h=>by cases h) B45 (fun _ h=>by cases h) askLeft_row_tie rfl ⟨rfl,rfl⟩ B42 rfl
  (fun f fn hf hfn=>by
   obtain rfl:f=3:=Option.some.inj (B48.symm.trans hf) |>.symm;obtain rfl:fn=Tryz.f3:=(Option.some.inj (func3.symm.trans hfn)).symm;exact⟨B4v,fun j t ht=>by
    rw[params3]at ht;have h3:t=9∨t=3:=by
     rcases j with _|_|_|_|_|j<;>simp at ht
     ·exact .inl ht.symm
     ·exact .inl ht.symm
     ·exact .inl ht.symm
     ·exact .inr ht.symm
     ·exact .inr ht.symm
    rcases h3 with rfl|rfl
    ·exact(show prog.wantsStandIn 9=false by kernel_rfl)
    ·exact(show prog.wantsStandIn 3=false by kernel_rfl)⟩)
  B4w
end Go.Proofs.YtiobopjhbneieaaGreatDoor
