/- The card of AskGap holds: the law answers true in every world, for every text, with no condition but the card's. -/
import Derived.Test.YtkbleljhkbmgnaaGreatDoorVda
import Derived.Test.YtkbleljhkbmgnaaGreatDoorVdc
import Derived.Test.YtkbleljhkbmgnaaGreatDoorVdd
import Derived.Stop.LaidErr
import Derived.Test.YtkbleljhkbmgnaaGreatDoorTie
import Derived.Test.YtkbleljhkbmgnaaGreatDoorCards
set_option linter.unusedVariables false
noncomputable section
set_option maxRecDepth 1000000
namespace Go.Proofs.YtkbleljhkbmgnaaGreatDoor
open Go Go.ChangeAt Go.ChangeMaps Go.ChangeShapes Go.Proofs.Tryz Go.RowKit Go.Vam Go.WideShapes Rows
theorem Bwa:ownKnob prog.godebug= .none:=by kernel_rfl
def gpW(os:Os):World:=
 {World.doorLaid prog 72 os with heap:=(World.doorLaid prog 72 os).heap.modify 6 fun
   | .cells _ t frozen=> .cells (Lib.firstTab.map fun z=>Value.int .u8 z).toArray t frozen
   |o=>o}
theorem Bt0(os:Os)(args:Array Value):laidMetH prog askGapRow.laid ((gpW os).forCall (fun _ _=>0) ⟨#[],args,[]⟩).memory:=
 laidMetH_of_parts3 (fuel:=8) (laidMet_of_run' 8 (by kernel_rfl) (by kernel_rfl)) (by kernel_rfl) (by kernel_rfl)
theorem Br5(W:World)(h:W.ShapedOpen prog):∃m,W.cell? ⟨0,0,.none⟩=some (.int .i64 m):=
 cell_of_shapedOpen_int (g:=0) (t:=3) (zero:= #[.int .i64 0]) h (of_decide_eq_true (by kernel_rfl)) (by kernel_rfl) rfl (by kernel_rfl) (by kernel_rfl) underlying3
theorem Bxa:prog.globalNamed "internal/strconv.uint64pow10" =some 1:=by kernel_rfl
theorem Bud:prog.globalNamed "strconv.ErrSyntax" =some 4:=by kernel_rfl
theorem Bue:prog.globalNamed "strconv.ErrRange" =some 5:=by kernel_rfl
theorem Bw9:(prog.globals[1]?).map (·.type)=some 272:=by kernel_rfl
theorem Bwt:(prog.globals[4]?).map (·.type)=some 292:=by kernel_rfl
theorem Bw6:(prog.globals[5]?).map (·.type)=some 292:=by kernel_rfl
theorem Bsi: "*" ++ "errors.errorString" = "*errors.errorString" :=by decide
theorem Bti(u:TypeId)(h:prog.typeName? 3 u=some "*errors.errorString"):u=360:=
 typeName_ptr_named (nm:= "errors.errorString") (by rw[Bsi];kernel_rfl) (by kernel_rfl) (by decide) u (by rw[Bsi];exact h)
theorem Bt3{W:World}(h:laidMetH prog askGapRow.laid W):Lib.TabIs prog W "internal/strconv.uint64pow10" .u64 Lib.pow10Tab∧(∃tp p,W.cell? ⟨4,0,.none⟩=some (.iface tp p))∧(∃tp p,W.cell? ⟨5,0,.none⟩=some (.iface tp p)):=by
 rw[Go.MakeChecks.laidMetH_plain _ _ _ (by kernel_rfl)]at h
 have h2:=h.tail.tail;refine⟨Lib.tabIs_of_head Bxa Bw9 underlying272 underlying198 (by kernel_rfl) (by kernel_rfl) h2,?_,?_⟩
 ·obtain⟨a,s,hv,_⟩:=laid_sentinel h2.tail.tail.tail Bud Bwt underlying292 Bti underlying360 underlying362 rfl rfl underlying9 (by kernel_rfl) (by kernel_rfl)
  exact⟨_,_,by have h0:=World.var?_cell Bud hv 0;simpa using h0⟩
 ·obtain⟨a,s,hv,_⟩:=laid_sentinel h2.tail.tail Bue Bw6 underlying292 Bti underlying360 underlying362 rfl rfl underlying9 (by kernel_rfl) (by kernel_rfl)
  exact⟨_,_,by have h0:=World.var?_cell Bue hv 0;simpa using h0⟩
theorem Bsb(os:Os){H:Type}(enc:TypeId × Value→H):
  (OpenSpec.ofChange askGapSpec).preRow enc prog Tryz.f6 askGapRow.domain false askGapRow.laid ((gpW os).forCall (fun _ _=>0) ⟨#[],#[.string ⟨#[]⟩],[]⟩).memory #[.string ⟨#[]⟩]:=by
 have hw:(DataW.whole enc prog ((gpW os).forCall (fun _ _=>0) ⟨#[],#[.string ⟨#[]⟩],[]⟩).memory Tryz.f6.params.toList (OpenSpec.ofChange askGapSpec).vars false (#[.string ⟨#[]⟩]:Array Value).toList 8).map (fun x=>(x.1,x.2.1))=some ([.lit (.string [])],[]):=by kernel_rfl
 obtain⟨⟨x1,x2,x3⟩,hx,hx1⟩:=Option.map_eq_some_iff.1 hw;simp only[Prod.mk.injEq]at hx1;obtain⟨rfl,rfl⟩:=hx1;exact OpenSpec.preRow_of_cond 8 hx (by kernel_rfl) (fun k hk=>by cases hk) (by kernel_rfl) (Bt0 os _)
theorem Bsw(os:Os)(started:os.Started)(H:Type)(enc:TypeId × Value→H):
  ReturnsInHanded {} Tryz.checked os 6 .any ((OpenSpec.ofChange askGapSpec).preRow enc prog Tryz.f6 askGapRow.domain false askGapRow.laid) (askGapSpec.post enc prog Tryz.f6 false true false false):=by
 refine returnsInHanded_of_row (C:=Tryz.checked) (s:=OpenSpec.ofChange askGapSpec) (F:=default) Bwa started (by kernel_rfl) func6
  (witness_row_atRef (enc:=enc) (C:=Tryz.checked) false (gpW os) #[.string ⟨#[]⟩] rfl (by kernel_rfl) (by kernel_rfl) (by kernel_rfl) (Bsb os enc)) ?_
 intro W base args ds gs before hval0 hW _ _ _ hL hsh _;have hval:∀(j:Nat) t v,Tryz.f6.params[j]?=some t→args[j]?=some v→Value.okWide prog W .any base t v:=hval0;have hW':=hW;obtain⟨p,q,hA0,hV,rfl,hfz,hnd⟩:=hW;have hA:DataW.TrodAll enc prog W 0 (fun _=>true) true Tryz.f6.params.toList args.toList ds p:=hA0;rw[params6]at hA hval;obtain⟨v0,d0,rfl,rfl,h0⟩:=trodAll_one hA;obtain⟨rfl,rfl⟩:=trodVars_none hV;have h0k:=h0;obtain⟨s,rfl,rfl,rfl,ws⟩:=open_string underlying9 (hval 0 9 v0 rfl rfl) h0;clear hA0 hval0;obtain⟨ht,he1,he2⟩:=Bt3 hL;refine(Bwe ⟨Br5 W hsh,ht,he1,he2⟩ s).mono fun e W' ⟨he,hk⟩=>?_;subst he;exact⟨_,rfl,_,_,_,_,_,_,hW',(trodAll_cons_mk (shut_bool underlying4 _) trodAll_mk0),trodAll_mk1 (shut_string underlying9 ws),rfl,World.keptBut_mono (fun _ h=>h.elim) hk.but,fun h=>by cases h⟩
theorem Btd:Rows.AskGapSaid:=
 OpenClaim.holds_of_wide 6 Tryz.f6 rfl rfl rfl rfl rfl rfl rfl ⟨rfl,rfl,rfl,rfl,rfl⟩ rfl rfl rfl rfl rfl Bto func6 Bsq Bt9 Btz
  (fun os started H enc _=>by rw[OpenClaim.pre_eq_preRow];exact Bsw os started H enc)
theorem askGap_card:Rows.AskGapCardSaid:=
 Claim7.holds_tied_plain_at .later [] [.data,.data,.data,.data,.sentinel,.sentinel,.pinned] true (true,"0c76ecc08a02bccff1ee2cd2a2a4ac8302ce04d2fdac47ff1f6ccb0a959fff94") true
  Btd (fun _ h=>by cases h) Bwx (fun _ h=>by cases h) askGap_row_tie rfl ⟨rfl,rfl⟩ Bw0 rfl
  (fun f fn hf hfn=>by
   obtain rfl:f=6:=Option.some.inj (Bxi.symm.trans hf) |>.symm;obtain rfl:fn=Tryz.f6:=(Option.some.inj (func6.symm.trans hfn)).symm;exact⟨Bw4,fun j t ht=>by
    rw[params6]at ht;have h3:t=9:=by
     rcases j with _|j
     ·simpa using ht.symm
     ·simp at ht
    subst h3;exact(show prog.wantsStandIn 9=false by kernel_rfl)⟩)
  Bwv
end Go.Proofs.YtkbleljhkbmgnaaGreatDoor
