/-
  The card of CacheAll holds: the law answers true in every world, for all arguments, with no condition but the card's.
-/
import Derived.Test.YtanifnfklgldpaaGreatDoorVcc
import Derived.Test.YtanifnfklgldpaaGreatDoorVda
import Derived.Test.YtanifnfklgldpaaGreatDoorVdb
import Derived.Test.YtanifnfklgldpaaGreatDoorVhd
import Derived.Stop.LaidErr
import Derived.Lib.LaidTab
import Derived.MakeChecks
import Derived.ChangeMaps5
import Derived.Test.YtanifnfklgldpaaGreatDoorTie
import Derived.Test.YtanifnfklgldpaaGreatDoorCards
import Derived.WideKeyArgs
set_option maxRecDepth 1000000
namespace Go.Proofs.YtanifnfklgldpaaGreatDoor
open Go Go.ChangeAt Go.ChangeMaps Go.ChangeShapes Go.Proofs.Tryz Go.RowKit Go.Vam Go.WideShapes
theorem Cna:ownKnob prog.godebug= .none:=by kernel_rfl
noncomputable def clW(os:Os):World:=
 {World.doorLaid prog 72 os with heap:=(World.doorLaid prog 72 os).heap.modify 2 fun
   | .cells _ t frozen=> .cells (Lib.firstTab.map fun z=>Value.int .u8 z).toArray t frozen
   |o=>o}
theorem Cmt(os:Os)(args:Array Value):laidMetH prog Rows.cacheAllRow.laid ((clW os).forCall (fun _ _=>0) ⟨#[],args,[]⟩).memory:=
 laidMetH_of_parts3 (fuel:=8) (laidMet_of_run' 8 (by kernel_rfl) (by kernel_rfl)) (by kernel_rfl) (by kernel_rfl)
theorem Cj0(W:World)(h:W.ShapedOpen prog):∃m,W.cell? ⟨1,0,.none⟩=some (.int .i64 m):=
 cell_of_shapedOpen_int (g:=1) (t:=3) (zero:= #[.int .i64 0]) h (of_decide_eq_true (by kernel_rfl)) (by kernel_rfl) rfl (by kernel_rfl) (by kernel_rfl) underlying3
theorem Coq:prog.globalNamed "internal/strconv.uint64pow10" =some 0:=by kernel_rfl
theorem Cow:(prog.globals[0]?).map (·.type)=some 395:=by kernel_rfl
theorem Cmr{W:World}(h:laidMetH prog Rows.cacheAllRow.laid W):Lib.TabIs prog W "internal/strconv.uint64pow10" .u64 Lib.pow10Tab:=by
 rw[Go.MakeChecks.laidMetH_plain _ _ _ (by kernel_rfl)]at h
 exact Lib.tabIs_of_head Coq Cow underlying395 underlying263 (by kernel_rfl) (by kernel_rfl) h.tail.tail
theorem Cj1(os:Os){H:Type}(enc:TypeId × Value→H):
  (OpenSpec.ofChange Rows.cacheAllSpec).preRow enc prog f7 Rows.cacheAllRow.domain false Rows.cacheAllRow.laid ((clW os).forCall (fun _ _=>0) ⟨#[],#[.int .i64 0,.slice none 0 0],[]⟩).memory #[.int .i64 0,.slice none 0 0]:=by
 have hw:(DataW.whole enc prog ((clW os).forCall (fun _ _=>0) ⟨#[],#[.int .i64 0,.slice none 0 0],[]⟩).memory f7.params.toList (OpenSpec.ofChange Rows.cacheAllSpec).vars false (#[.int .i64 0,.slice none 0 0]:Array Value).toList 8).map (fun x=>(x.1,x.2.1))=some ([.lit (.int .i64 0),.nil],[]):=by kernel_rfl
 obtain⟨⟨x1,x2,x3⟩,hx,hx1⟩:=Option.map_eq_some_iff.1 hw;simp only[Prod.mk.injEq]at hx1;obtain⟨rfl,rfl⟩:=hx1;exact OpenSpec.preRow_of_cond 8 hx (by kernel_rfl) (fun k hk=>by cases hk) (by kernel_rfl) (Cmt os _)
theorem Ckr(os:Os)(started:os.Started)(H:Type)(enc:TypeId × Value→H):
  ReturnsInHanded {} Tryz.checked os 7 .any ((OpenSpec.ofChange Rows.cacheAllSpec).preRow enc prog f7 Rows.cacheAllRow.domain false Rows.cacheAllRow.laid) (Rows.cacheAllSpec.post enc prog f7 false true false false):=by
 refine returnsInHanded_of_row (C:=Tryz.checked) (s:=OpenSpec.ofChange Rows.cacheAllSpec) (F:=default) Cna started (by kernel_rfl) func7
  (witness_row_atRef (enc:=enc) (C:=Tryz.checked) false (clW os) #[.int .i64 0,.slice none 0 0] rfl (by kernel_rfl) (by kernel_rfl) (by kernel_rfl) (Cj1 os enc)) ?_
 intro W base args ds gs before hval0 hW _ _ _ hL hsh _;have hval:∀(j:Nat) t v,f7.params[j]?=some t→args[j]?=some v→Value.okWide prog W .any base t v:=hval0;have hW':=hW;obtain⟨p,q,hA0,hV,rfl,hfz,hnd⟩:=hW;have hA:DataW.TrodAll enc prog W 0 (fun _=>true) true f7.params.toList args.toList ds p:=hA0;rw[params7]at hA hval;obtain⟨v0,v1,d0,d1,p0,p1,rfl,rfl,rfl,h0,h1⟩:=trodAll_two hA;obtain⟨rfl,rfl⟩:=trodVars_none hV;obtain⟨x,rfl,rfl,rfl,wx⟩:=open_int underlying3 (hval 0 3 v0 rfl rfl) h0;obtain⟨a,len,cap,rfl⟩:=okWide_slice underlying54 (hval 1 54 v1 rfl rfl);have hlt:∀y∈p1,y.block<W.heap.size:=fun y hy=>hW'.lt y (by simp[hy])
 clear hA0 hval0;refine(Cm7 (Cj0 W hsh) (Cmr hL) x a len cap h1).mono fun e W' ⟨he,hk⟩=>?_;subst he;exact⟨_,rfl,_,_,_,_,_,_,hW',(trodAll_cons_mk (shut_bool underlying4 _) trodAll_mk0),trodAll_mk2 (shut_int underlying3 wx) (WideElems.Trod_stays Cm1 (by kernel_rfl) (of_decide_eq_true (by kernel_rfl)) h1 (fun y hy=>hk.same (hlt y hy)) (fun y hy=>by simpa using hlt y hy)),rfl,World.keptBut_mono (fun _ h=>h.elim) hk.but,fun h=>by cases h⟩
theorem Cl8:Rows.CacheAllSaid:=
 OpenClaim.holds_of_wide 7 f7 rfl rfl rfl rfl rfl rfl rfl ⟨rfl,rfl,rfl,rfl,rfl⟩ rfl rfl rfl rfl rfl Clq func7 Ck1 Cmx Cmj
  (fun os started H enc _=>by rw[OpenClaim.pre_eq_preRow];exact Ckr os started H enc)
theorem cacheAll_card:Rows.CacheAllCardSaid:=
 Claim7.holds_tied_plain_at .later [] [.data,.data,.data,.data,.sentinel,.sentinel,.pinned] true (true,"66ddcb2bdf34331866a33481e0ca24a4fd328b1e16fdb945a04c50cc4714cc51") true
  Cl8 (fun _ h=>by cases h) Coi (fun _ h=>by cases h) cacheAll_row_tie rfl ⟨rfl,rfl⟩ Col rfl
  (fun f fn hf hfn=>by
   obtain rfl:f=7:=Option.some.inj (Coo.symm.trans hf) |>.symm;obtain rfl:fn=f7:=(Option.some.inj (func7.symm.trans hfn)).symm;exact⟨Cof,fun j t ht=>by
    rw[params7]at ht;have h3:t=3∨t=54:=by
     rcases j with _|_|j
     ·exact .inl (by simpa using ht.symm)
     ·exact .inr (by simpa using ht.symm)
     ·simp at ht
    rcases h3 with rfl|rfl
    ·exact(show prog.wantsStandIn 3=false by kernel_rfl)
    ·exact(show prog.wantsStandIn 54=false by kernel_rfl)⟩)
  (B4h _)
end Go.Proofs.YtanifnfklgldpaaGreatDoor
