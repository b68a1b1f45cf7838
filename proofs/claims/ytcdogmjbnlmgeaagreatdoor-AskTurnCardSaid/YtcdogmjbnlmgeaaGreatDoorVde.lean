/- The card of AskTurn holds: the law answers true in every world, for all arguments, with no condition but the card's. -/
import Derived.Test.YtcdogmjbnlmgeaaGreatDoorVda
import Derived.Test.YtcdogmjbnlmgeaaGreatDoorVdc
import Derived.Test.YtcdogmjbnlmgeaaGreatDoorVdd
import Derived.Stop.LaidErr
import Derived.Test.YtcdogmjbnlmgeaaGreatDoorTie
import Derived.Test.YtcdogmjbnlmgeaaGreatDoorCards
set_option linter.unusedVariables false
noncomputable section
set_option maxRecDepth 1000000
namespace Go.Proofs.YtcdogmjbnlmgeaaGreatDoor
open Go Go.ChangeAt Go.ChangeMaps Go.ChangeShapes Go.Proofs.Tryz Go.RowKit Go.Vam Go.WideShapes Rows
theorem Bj1:ownKnob prog.godebug= .none:=by kernel_rfl
def tnW(os:Os):World:=
 {World.doorLaid prog 72 os with heap:=(World.doorLaid prog 72 os).heap.modify 6 fun
   | .cells _ t frozen=> .cells (Lib.firstTab.map fun z=>Value.int .u8 z).toArray t frozen
   |o=>o}
theorem Bhc(os:Os)(args:Array Value):laidMetH prog askTurnRow.laid ((tnW os).forCall (fun _ _=>0) ⟨#[],args,[]⟩).memory:=
 laidMetH_of_parts3 (fuel:=8) (laidMet_of_run' 8 (by kernel_rfl) (by kernel_rfl)) (by kernel_rfl) (by kernel_rfl)
theorem A55(W:World)(h:W.ShapedOpen prog):∃m,W.cell? ⟨0,0,.none⟩=some (.int .i64 m):=
 cell_of_shapedOpen_int (g:=0) (t:=3) (zero:= #[.int .i64 0]) h (of_decide_eq_true (by kernel_rfl)) (by kernel_rfl) rfl (by kernel_rfl) (by kernel_rfl) underlying3
theorem Blf:prog.globalNamed "internal/strconv.uint64pow10" =some 1:=by kernel_rfl
theorem Bi1:prog.globalNamed "strconv.ErrSyntax" =some 4:=by kernel_rfl
theorem Biq:prog.globalNamed "strconv.ErrRange" =some 5:=by kernel_rfl
theorem Bkz:(prog.globals[1]?).map (·.type)=some 273:=by kernel_rfl
theorem Bk3:(prog.globals[4]?).map (·.type)=some 293:=by kernel_rfl
theorem Bko:(prog.globals[5]?).map (·.type)=some 293:=by kernel_rfl
theorem Bcy: "*" ++ "errors.errorString" = "*errors.errorString" :=by decide
theorem Bfm(u:TypeId)(h:prog.typeName? 3 u=some "*errors.errorString"):u=361:=
 typeName_ptr_named (nm:= "errors.errorString") (by rw[Bcy];kernel_rfl) (by kernel_rfl) (by decide) u (by rw[Bcy];exact h)
theorem Bg0{W:World}(h:laidMetH prog askTurnRow.laid W):Lib.TabIs prog W "internal/strconv.uint64pow10" .u64 Lib.pow10Tab∧(∃tp p,W.cell? ⟨4,0,.none⟩=some (.iface tp p))∧(∃tp p,W.cell? ⟨5,0,.none⟩=some (.iface tp p)):=by
 rw[Go.MakeChecks.laidMetH_plain _ _ _ (by kernel_rfl)]at h
 have h2:=h.tail.tail;refine⟨Lib.tabIs_of_head Blf Bkz underlying273 underlying199 (by kernel_rfl) (by kernel_rfl) h2,?_,?_⟩
 ·obtain⟨a,s,hv,_⟩:=laid_sentinel h2.tail.tail.tail Bi1 Bk3 underlying293 Bfm underlying361 underlying363 rfl rfl underlying9 (by kernel_rfl) (by kernel_rfl)
  exact⟨_,_,by have h0:=World.var?_cell Bi1 hv 0;simpa using h0⟩
 ·obtain⟨a,s,hv,_⟩:=laid_sentinel h2.tail.tail Biq Bko underlying293 Bfm underlying361 underlying363 rfl rfl underlying9 (by kernel_rfl) (by kernel_rfl)
  exact⟨_,_,by have h0:=World.var?_cell Biq hv 0;simpa using h0⟩
theorem A21(os:Os){H:Type}(enc:TypeId × Value→H):
  (OpenSpec.ofChange askTurnSpec).preRow enc prog Tryz.f5 askTurnRow.domain false askTurnRow.laid ((tnW os).forCall (fun _ _=>0) ⟨#[],#[.string ⟨#[]⟩,.int .i64 0,.int .u8 0,.string ⟨#[]⟩],[]⟩).memory #[.string ⟨#[]⟩,.int .i64 0,.int .u8 0,.string ⟨#[]⟩]:=by
 have hw:(DataW.whole enc prog ((tnW os).forCall (fun _ _=>0) ⟨#[],#[.string ⟨#[]⟩,.int .i64 0,.int .u8 0,.string ⟨#[]⟩],[]⟩).memory Tryz.f5.params.toList (OpenSpec.ofChange askTurnSpec).vars false (#[.string ⟨#[]⟩,.int .i64 0,.int .u8 0,.string ⟨#[]⟩]:Array Value).toList 8).map (fun x=>(x.1,x.2.1))=some ([.lit (.string []),.lit (.int .i64 0),.lit (.int .u8 0),.lit (.string [])],[]):=by kernel_rfl
 obtain⟨⟨x1,x2,x3⟩,hx,hx1⟩:=Option.map_eq_some_iff.1 hw;simp only[Prod.mk.injEq]at hx1;obtain⟨rfl,rfl⟩:=hx1;exact OpenSpec.preRow_of_cond 8 hx (by kernel_rfl) (fun k hk=>by cases hk) (by kernel_rfl) (Bhc os _)
theorem Bc1(os:Os)(started:os.Started)(H:Type)(enc:TypeId × Value→H):
  ReturnsInHanded {} Tryz.checked os 5 .any ((OpenSpec.ofChange askTurnSpec).preRow enc prog Tryz.f5 askTurnRow.domain false askTurnRow.laid) (askTurnSpec.post enc prog Tryz.f5 false true false false):=by
 refine returnsInHanded_of_row (C:=Tryz.checked) (s:=OpenSpec.ofChange askTurnSpec) (F:=default) Bj1 started (by kernel_rfl) func5
  (witness_row_atRef (enc:=enc) (C:=Tryz.checked) false (tnW os) #[.string ⟨#[]⟩,.int .i64 0,.int .u8 0,.string ⟨#[]⟩] rfl (by kernel_rfl) (by kernel_rfl) (by kernel_rfl) (A21 os enc)) ?_
 intro W base args ds gs before hval0 hW _ _ _ hL hsh _;have hval:∀(j:Nat) t v,Tryz.f5.params[j]?=some t→args[j]?=some v→Value.okWide prog W .any base t v:=hval0;have hW':=hW;obtain⟨p,q,hA0,hV,rfl,hfz,hnd⟩:=hW;have hA:DataW.TrodAll enc prog W 0 (fun _=>true) true Tryz.f5.params.toList args.toList ds p:=hA0;rw[params5]at hA hval;obtain⟨v0,v1,v2,v3,d0,d1,d2,d3,p0,p1,p2,p3,rfl,rfl,rfl,h0,h1,h2,h3⟩:=trodAll_four hA;obtain⟨rfl,rfl⟩:=trodVars_none hV;obtain⟨s,rfl,rfl,rfl,ws⟩:=open_string underlying9 (hval 0 9 v0 rfl rfl) h0;obtain⟨n,rfl,rfl,rfl,wn⟩:=open_int underlying3 (hval 1 3 v1 rfl rfl) h1;obtain⟨x,rfl,rfl,rfl,wx⟩:=open_int underlying5 (hval 2 5 v2 rfl rfl) h2;obtain⟨m,rfl,rfl,rfl,wm⟩:=open_string underlying9 (hval 3 9 v3 rfl rfl) h3;clear hA0 hval0;obtain⟨ht,he1,he2⟩:=Bg0 hL;have hx:0≤x∧x<256:=by
  have h:=wx;unfold Lit.wf at h;simp only[Bool.and_eq_true,decide_eq_true_eq]at h;have h1:IntKind.u8.min=0:=by decide
  have h2:IntKind.u8.max=255:=by decide
  omega
 obtain⟨xn,rfl⟩:∃k:Nat,x=k:=⟨x.toNat,by omega⟩
 refine(Bkg ⟨A55 W hsh,ht,he1,he2⟩ s m n xn (by omega)).mono fun e W' ⟨he,hk⟩=>?_
 subst he;exact⟨_,rfl,_,_,_,_,_,_,hW',(trodAll_cons_mk (shut_bool underlying4 _) trodAll_mk0),trodAll_mk4 (shut_string underlying9 ws) (shut_int underlying3 wn) (shut_int underlying5 wx) (shut_string underlying9 wm),rfl,World.keptBut_mono (fun _ h=>h.elim) hk.but,fun h=>by cases h⟩
theorem Bga:Rows.AskTurnSaid:=
 OpenClaim.holds_of_wide 5 Tryz.f5 rfl rfl rfl rfl rfl rfl rfl ⟨rfl,rfl,rfl,rfl,rfl⟩ rfl rfl rfl rfl rfl Bf2 func5 Bcz Bhb Bip
  (fun os started H enc _=>by rw[OpenClaim.pre_eq_preRow];exact Bc1 os started H enc)
theorem askTurn_card:Rows.AskTurnCardSaid:=
 Claim7.holds_tied_plain_at .later [] [.data,.data,.data,.data,.sentinel,.sentinel,.pinned] true (true,"8c4716ba10ea79918cd9a8043ae2a65da489b5ae760f33660610436a8d2e9111") true
  Bga (fun _ h=>by cases h) Bk0 (fun _ h=>by cases h) askTurn_row_tie rfl ⟨rfl,rfl⟩ Bku rfl
  (fun f fn hf hfn=>by
   obtain rfl:f=5:=Option.some.inj (Bky.symm.trans hf) |>.symm;obtain rfl:fn=Tryz.f5:=(Option.some.inj (func5.symm.trans hfn)).symm;exact⟨Bk6,fun j t ht=>by
    rw[params5]at ht;have h3:t=9∨t=3∨t=5:=by
     rcases j with _|_|_|_|j<;>simp at ht
     ·exact .inl ht.symm
     ·exact .inr (.inl ht.symm)
     ·exact .inr (.inr ht.symm)
     ·exact .inl ht.symm
    rcases h3 with rfl|rfl|rfl
    ·exact(show prog.wantsStandIn 9=false by kernel_rfl)
    ·exact(show prog.wantsStandIn 3=false by kernel_rfl)
    ·exact(show prog.wantsStandIn 5=false by kernel_rfl)⟩)
  Bkl
end Go.Proofs.YtcdogmjbnlmgeaaGreatDoor
