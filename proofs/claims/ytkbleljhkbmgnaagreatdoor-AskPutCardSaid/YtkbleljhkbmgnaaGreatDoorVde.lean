/- The card of AskPut holds: the law answers true in every world, for all texts, with no condition but the card's. -/
import Derived.Test.YtkbleljhkbmgnaaGreatDoorVdb
import Derived.Test.YtkbleljhkbmgnaaGreatDoorVdc
import Derived.Test.YtkbleljhkbmgnaaGreatDoorVdd
import Derived.Stop.LaidErr
import Derived.Test.YtkbleljhkbmgnaaGreatDoorTie
import Derived.Test.YtkbleljhkbmgnaaGreatDoorCards
set_option linter.unusedVariables false
noncomputable section
set_option maxRecDepth 1000000
namespace Go.Proofs.YtkbleljhkbmgnaaGreatDoor
open Go Go.ChangeAt Go.ChangeMaps Go.ChangeShapes Go.Proofs.Tryz Go.RowKit Go.Vam Go.WideShapes Rows
theorem Bzl:ownKnob prog.godebug= .none:=by kernel_rfl
def puW(os:Os):World:=
 {World.doorLaid prog 72 os with heap:=(World.doorLaid prog 72 os).heap.modify 6 fun
   | .cells _ t frozen=> .cells (Lib.firstTab.map fun z=>Value.int .u8 z).toArray t frozen
   |o=>o}
theorem Bxr(os:Os)(args:Array Value):laidMetH prog askPutRow.laid ((puW os).forCall (fun _ _=>0) ⟨#[],args,[]⟩).memory:=
 laidMetH_of_parts3 (fuel:=8) (laidMet_of_run' 8 (by kernel_rfl) (by kernel_rfl)) (by kernel_rfl) (by kernel_rfl)
theorem Bs7(W:World)(h:W.ShapedOpen prog):∃m,W.cell? ⟨0,0,.none⟩=some (.int .i64 m):=
 cell_of_shapedOpen_int (g:=0) (t:=3) (zero:= #[.int .i64 0]) h (of_decide_eq_true (by kernel_rfl)) (by kernel_rfl) rfl (by kernel_rfl) (by kernel_rfl) underlying3
theorem B1h:prog.globalNamed "internal/strconv.uint64pow10" =some 1:=by kernel_rfl
theorem Bx5:prog.globalNamed "strconv.ErrSyntax" =some 4:=by kernel_rfl
theorem Bx6:prog.globalNamed "strconv.ErrRange" =some 5:=by kernel_rfl
theorem B03:(prog.globals[1]?).map (·.type)=some 272:=by kernel_rfl
theorem B06:(prog.globals[4]?).map (·.type)=some 292:=by kernel_rfl
theorem B0k:(prog.globals[5]?).map (·.type)=some 292:=by kernel_rfl
theorem Btt: "*" ++ "errors.errorString" = "*errors.errorString" :=by decide
theorem Bw2(u:TypeId)(h:prog.typeName? 3 u=some "*errors.errorString"):u=360:=
 typeName_ptr_named (nm:= "errors.errorString") (by rw[Btt];kernel_rfl) (by kernel_rfl) (by decide) u (by rw[Btt];exact h)
theorem Bxx{W:World}(h:laidMetH prog askPutRow.laid W):Lib.TabIs prog W "internal/strconv.uint64pow10" .u64 Lib.pow10Tab∧(∃tp p,W.cell? ⟨4,0,.none⟩=some (.iface tp p))∧(∃tp p,W.cell? ⟨5,0,.none⟩=some (.iface tp p)):=by
 rw[Go.MakeChecks.laidMetH_plain _ _ _ (by kernel_rfl)]at h
 have h2:=h.tail.tail;refine⟨Lib.tabIs_of_head B1h B03 underlying272 underlying198 (by kernel_rfl) (by kernel_rfl) h2,?_,?_⟩
 ·obtain⟨a,s,hv,_⟩:=laid_sentinel h2.tail.tail.tail Bx5 B06 underlying292 Bw2 underlying360 underlying362 rfl rfl underlying9 (by kernel_rfl) (by kernel_rfl)
  exact⟨_,_,by have h0:=World.var?_cell Bx5 hv 0;simpa using h0⟩
 ·obtain⟨a,s,hv,_⟩:=laid_sentinel h2.tail.tail Bx6 B0k underlying292 Bw2 underlying360 underlying362 rfl rfl underlying9 (by kernel_rfl) (by kernel_rfl)
  exact⟨_,_,by have h0:=World.var?_cell Bx6 hv 0;simpa using h0⟩
theorem Bs9(os:Os){H:Type}(enc:TypeId × Value→H):
  (OpenSpec.ofChange askPutSpec).preRow enc prog Tryz.f4 askPutRow.domain false askPutRow.laid ((puW os).forCall (fun _ _=>0) ⟨#[],#[.string ⟨#[]⟩,.string ⟨#[]⟩],[]⟩).memory #[.string ⟨#[]⟩,.string ⟨#[]⟩]:=by
 have hw:(DataW.whole enc prog ((puW os).forCall (fun _ _=>0) ⟨#[],#[.string ⟨#[]⟩,.string ⟨#[]⟩],[]⟩).memory Tryz.f4.params.toList (OpenSpec.ofChange askPutSpec).vars false (#[.string ⟨#[]⟩,.string ⟨#[]⟩]:Array Value).toList 8).map (fun x=>(x.1,x.2.1))=some ([.lit (.string []),.lit (.string [])],[]):=by kernel_rfl
 obtain⟨⟨x1,x2,x3⟩,hx,hx1⟩:=Option.map_eq_some_iff.1 hw;simp only[Prod.mk.injEq]at hx1;obtain⟨rfl,rfl⟩:=hx1;exact OpenSpec.preRow_of_cond 8 hx (by kernel_rfl) (fun k hk=>by cases hk) (by kernel_rfl) (Bxr os _)
theorem Bui(os:Os)(started:os.Started)(H:Type)(enc:TypeId × Value→H):
  ReturnsInHanded {} Tryz.checked os 4 .any ((OpenSpec.ofChange askPutSpec).preRow enc prog Tryz.f4 askPutRow.domain false askPutRow.laid) (askPutSpec.post enc prog Tryz.f4 false true false false):=by
 refine returnsInHanded_of_row (C:=Tryz.checked) (s:=OpenSpec.ofChange askPutSpec) (F:=default) Bzl started (by kernel_rfl) func4
  (witness_row_atRef (enc:=enc) (C:=Tryz.checked) false (puW os) #[.string ⟨#[]⟩,.string ⟨#[]⟩] rfl (by kernel_rfl) (by kernel_rfl) (by kernel_rfl) (Bs9 os enc)) ?_
 intro W base args ds gs before hval0 hW _ _ _ hL hsh _;have hval:∀(j:Nat) t v,Tryz.f4.params[j]?=some t→args[j]?=some v→Value.okWide prog W .any base t v:=hval0;have hW':=hW;obtain⟨p,q,hA0,hV,rfl,hfz,hnd⟩:=hW;have hA:DataW.TrodAll enc prog W 0 (fun _=>true) true Tryz.f4.params.toList args.toList ds p:=hA0;rw[params4]at hA hval;obtain⟨v0,v1,d0,d1,p0,p1,rfl,rfl,rfl,h0,h1⟩:=trodAll_two hA;obtain⟨rfl,rfl⟩:=trodVars_none hV;obtain⟨s,rfl,rfl,rfl,ws⟩:=open_string underlying9 (hval 0 9 v0 rfl rfl) h0;obtain⟨m,rfl,rfl,rfl,wm⟩:=open_string underlying9 (hval 1 9 v1 rfl rfl) h1;clear hA0 hval0;obtain⟨ht,he1,he2⟩:=Bxx hL;refine(B0t ⟨Bs7 W hsh,ht,he1,he2⟩ s m).mono fun e W' ⟨he,hk⟩=>?_;subst he;exact⟨_,rfl,_,_,_,_,_,_,hW',(trodAll_cons_mk (shut_bool underlying4 _) trodAll_mk0),trodAll_mk2 (shut_string underlying9 ws) (shut_string underlying9 wm),rfl,World.keptBut_mono (fun _ h=>h.elim) hk.but,fun h=>by cases h⟩
theorem Bxg:Rows.AskPutSaid:=
 OpenClaim.holds_of_wide 4 Tryz.f4 rfl rfl rfl rfl rfl rfl rfl ⟨rfl,rfl,rfl,rfl,rfl⟩ rfl rfl rfl rfl rfl Bw5 func4 Bt8 Bxy Bxz
  (fun os started H enc _=>by rw[OpenClaim.pre_eq_preRow];exact Bui os started H enc)
theorem askPut_card:Rows.AskPutCardSaid:=
 Claim7.holds_tied_plain_at .later [] [.data,.data,.data,.data,.sentinel,.sentinel,.pinned] true (true,"0c76ecc08a02bccff1ee2cd2a2a4ac8302ce04d2fdac47ff1f6ccb0a959fff94") true
  Bxg (fun _ h=>by cases h) B0g (fun _ h=>by cases h) askPut_row_tie rfl ⟨rfl,rfl⟩ B07 rfl
  (fun f fn hf hfn=>by
   obtain rfl:f=4:=Option.some.inj (B0n.symm.trans hf) |>.symm;obtain rfl:fn=Tryz.f4:=(Option.some.inj (func4.symm.trans hfn)).symm;exact⟨B1f,fun j t ht=>by
    rw[params4]at ht;have h3:t=9:=by
     rcases j with _|_|j<;>simp at ht
     ·exact ht.symm
     ·exact ht.symm
    subst h3;exact(show prog.wantsStandIn 9=false by kernel_rfl)⟩)
  B0d
end Go.Proofs.YtkbleljhkbmgnaaGreatDoor
