/- The card of AskPlaces holds: the law answers true in every world, for every text, with no condition but the card's. -/
import Derived.Test.YtcdogmjbnlmgeaaGreatDoorVda
import Derived.Test.YtcdogmjbnlmgeaaGreatDoorVdc
import Derived.Test.YtcdogmjbnlmgeaaGreatDoorVdd
import Derived.Stop.LaidErr
import Derived.Test.YtcdogmjbnlmgeaaGreatDoorTie
import Derived.Test.YtcdogmjbnlmgeaaGreatDoorCards
set_option linter.unusedVariables false
noncomputable section
set_option maxRecDepth 1000000
namespace Go.Proofs.YtcdogmjbnlmgeaaGreatDoor
open Go Go.ChangeAt Go.ChangeMaps Go.ChangeShapes Go.Proofs.Tryz Go.RowKit Go.Vam Go.WideShapes Rows
theorem Bmq:ownKnob prog.godebug= .none:=by kernel_rfl
def plW(os:Os):World:=
 {World.doorLaid prog 72 os with heap:=(World.doorLaid prog 72 os).heap.modify 6 fun
   | .cells _ t frozen=> .cells (Lib.firstTab.map fun z=>Value.int .u8 z).toArray t frozen
   |o=>o}
theorem Bl6(os:Os)(args:Array Value):laidMetH prog askPlacesRow.laid ((plW os).forCall (fun _ _=>0) ⟨#[],args,[]⟩).memory:=
 laidMetH_of_parts3 (fuel:=8) (laidMet_of_run' 8 (by kernel_rfl) (by kernel_rfl)) (by kernel_rfl) (by kernel_rfl)
theorem Bf6(W:World)(h:W.ShapedOpen prog):∃m,W.cell? ⟨0,0,.none⟩=some (.int .i64 m):=
 cell_of_shapedOpen_int (g:=0) (t:=3) (zero:= #[.int .i64 0]) h (of_decide_eq_true (by kernel_rfl)) (by kernel_rfl) rfl (by kernel_rfl) (by kernel_rfl) underlying3
theorem Bpa:prog.globalNamed "internal/strconv.uint64pow10" =some 1:=by kernel_rfl
theorem Bma:prog.globalNamed "strconv.ErrSyntax" =some 4:=by kernel_rfl
theorem Bmc:prog.globalNamed "strconv.ErrRange" =some 5:=by kernel_rfl
theorem Bo6:(prog.globals[1]?).map (·.type)=some 273:=by kernel_rfl
theorem Bpy:(prog.globals[4]?).map (·.type)=some 293:=by kernel_rfl
theorem Bpx:(prog.globals[5]?).map (·.type)=some 293:=by kernel_rfl
theorem Bht: "*" ++ "errors.errorString" = "*errors.errorString" :=by decide
theorem Bkf(u:TypeId)(h:prog.typeName? 3 u=some "*errors.errorString"):u=361:=
 typeName_ptr_named (nm:= "errors.errorString") (by rw[Bht];kernel_rfl) (by kernel_rfl) (by decide) u (by rw[Bht];exact h)
theorem Blk{W:World}(h:laidMetH prog askPlacesRow.laid W):Lib.TabIs prog W "internal/strconv.uint64pow10" .u64 Lib.pow10Tab∧(∃tp p,W.cell? ⟨4,0,.none⟩=some (.iface tp p))∧(∃tp p,W.cell? ⟨5,0,.none⟩=some (.iface tp p)):=by
 rw[Go.MakeChecks.laidMetH_plain _ _ _ (by kernel_rfl)]at h
 have h2:=h.tail.tail;refine⟨Lib.tabIs_of_head Bpa Bo6 underlying273 underlying199 (by kernel_rfl) (by kernel_rfl) h2,?_,?_⟩
 ·obtain⟨a,s,hv,_⟩:=laid_sentinel h2.tail.tail.tail Bma Bpy underlying293 Bkf underlying361 underlying363 rfl rfl underlying9 (by kernel_rfl) (by kernel_rfl)
  exact⟨_,_,by have h0:=World.var?_cell Bma hv 0;simpa using h0⟩
 ·obtain⟨a,s,hv,_⟩:=laid_sentinel h2.tail.tail Bmc Bpx underlying293 Bkf underlying361 underlying363 rfl rfl underlying9 (by kernel_rfl) (by kernel_rfl)
  exact⟨_,_,by have h0:=World.var?_cell Bmc hv 0;simpa using h0⟩
theorem Bf4(os:Os){H:Type}(enc:TypeId × Value→H):
  (OpenSpec.ofChange askPlacesSpec).preRow enc prog f8 askPlacesRow.domain false askPlacesRow.laid ((plW os).forCall (fun _ _=>0) ⟨#[],#[.string ⟨#[]⟩],[]⟩).memory #[.string ⟨#[]⟩]:=by
 have hw:(DataW.whole enc prog ((plW os).forCall (fun _ _=>0) ⟨#[],#[.string ⟨#[]⟩],[]⟩).memory f8.params.toList (OpenSpec.ofChange askPlacesSpec).vars false (#[.string ⟨#[]⟩]:Array Value).toList 8).map (fun x=>(x.1,x.2.1))=some ([.lit (.string [])],[]):=by kernel_rfl
 obtain⟨⟨x1,x2,x3⟩,hx,hx1⟩:=Option.map_eq_some_iff.1 hw;simp only[Prod.mk.injEq]at hx1;obtain⟨rfl,rfl⟩:=hx1;exact OpenSpec.preRow_of_cond 8 hx (by kernel_rfl) (fun k hk=>by cases hk) (by kernel_rfl) (Bl6 os _)
theorem Biz(os:Os)(started:os.Started)(H:Type)(enc:TypeId × Value→H):
  ReturnsInHanded {} Tryz.checked os 8 .any ((OpenSpec.ofChange askPlacesSpec).preRow enc prog f8 askPlacesRow.domain false askPlacesRow.laid) (askPlacesSpec.post enc prog f8 false true false false):=by
 refine returnsInHanded_of_row (C:=Tryz.checked) (s:=OpenSpec.ofChange askPlacesSpec) (F:=default) Bmq started (by kernel_rfl) func8
  (witness_row_atRef (enc:=enc) (C:=Tryz.checked) false (plW os) #[.string ⟨#[]⟩] rfl (by kernel_rfl) (by kernel_rfl) (by kernel_rfl) (Bf4 os enc)) ?_
 intro W base args ds gs before hval0 hW _ _ _ hL hsh _;have hval:∀(j:Nat) t v,f8.params[j]?=some t→args[j]?=some v→Value.okWide prog W .any base t v:=hval0;have hW':=hW;obtain⟨p,q,hA0,hV,rfl,hfz,hnd⟩:=hW;have hA:DataW.TrodAll enc prog W 0 (fun _=>true) true f8.params.toList args.toList ds p:=hA0;rw[params8]at hA hval;obtain⟨v0,d0,rfl,rfl,h0⟩:=trodAll_one hA;obtain⟨rfl,rfl⟩:=trodVars_none hV;have h0k:=h0;obtain⟨s,rfl,rfl,rfl,ws⟩:=open_string underlying9 (hval 0 9 v0 rfl rfl) h0;clear hA0 hval0;obtain⟨ht,he1,he2⟩:=Blk hL;refine(Bnl ⟨Bf6 W hsh,ht,he1,he2⟩ s).mono fun e W' ⟨he,hk⟩=>?_;subst he;exact⟨_,rfl,_,_,_,_,_,_,hW',(trodAll_cons_mk (shut_bool underlying4 _) trodAll_mk0),trodAll_mk1 (shut_string underlying9 ws),rfl,World.keptBut_mono (fun _ h=>h.elim) hk.but,fun h=>by cases h⟩
theorem Bke:Rows.AskPlacesSaid:=
 OpenClaim.holds_of_wide 8 f8 rfl rfl rfl rfl rfl rfl rfl ⟨rfl,rfl,rfl,rfl,rfl⟩ rfl rfl rfl rfl rfl Bkt func8 Bi5 Bly Blz
  (fun os started H enc _=>by rw[OpenClaim.pre_eq_preRow];exact Biz os started H enc)
theorem askPlaces_card:Rows.AskPlacesCardSaid:=
 Claim7.holds_tied_plain_at .later [] [.data,.data,.data,.data,.sentinel,.sentinel,.pinned] true (true,"8c4716ba10ea79918cd9a8043ae2a65da489b5ae760f33660610436a8d2e9111") true
  Bke (fun _ h=>by cases h) Bpp (fun _ h=>by cases h) askPlaces_row_tie rfl ⟨rfl,rfl⟩ Bpn rfl
  (fun f fn hf hfn=>by
   obtain rfl:f=8:=Option.some.inj (Bp0.symm.trans hf) |>.symm;obtain rfl:fn=f8:=(Option.some.inj (func8.symm.trans hfn)).symm;exact⟨Bps,fun j t ht=>by
    rw[params8]at ht;have h3:t=9:=by
     rcases j with _|j
     ·simpa using ht.symm
     ·simp at ht
    subst h3;exact(show prog.wantsStandIn 9=false by kernel_rfl)⟩)
  Bpu
end Go.Proofs.YtcdogmjbnlmgeaaGreatDoor
