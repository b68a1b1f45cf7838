/-
  The card of CacheRoom holds: the law answers true in every world, for all arguments, with no condition but the card's.
-/
import Derived.Test.YtanifnfklgldpaaGreatDoorVcc
import Derived.Test.YtanifnfklgldpaaGreatDoorVda
import Derived.Test.YtanifnfklgldpaaGreatDoorVdb
import Derived.Test.YtanifnfklgldpaaGreatDoorVhd
import Derived.Stop.LaidErr
import Derived.Lib.LaidTab
import Derived.MakeChecks
import Derived.ChangeMaps5
import Derived.Test.YtanifnfklgldpaaGreatDoorTie
import Derived.Test.YtanifnfklgldpaaGreatDoorCards
set_option maxRecDepth 1000000
namespace Go.Proofs.YtanifnfklgldpaaGreatDoor
open Go Go.ChangeAt Go.ChangeMaps Go.ChangeShapes Go.Proofs.Tryz Go.RowKit Go.Vam Go.WideShapes
theorem Ci4:ownKnob prog.godebug= .none:=by kernel_rfl
noncomputable def crW(os:Os):World:=
 {World.doorLaid prog 72 os with heap:=(World.doorLaid prog 72 os).heap.modify 2 fun
   | .cells _ t frozen=> .cells (Lib.firstTab.map fun z=>Value.int .u8 z).toArray t frozen
   |o=>o}
theorem Cil(os:Os)(args:Array Value):laidMetH prog Rows.cacheRoomRow.laid ((crW os).forCall (fun _ _=>0) ⟨#[],args,[]⟩).memory:=
 laidMetH_of_parts3 (fuel:=8) (laidMet_of_run' 8 (by kernel_rfl) (by kernel_rfl)) (by kernel_rfl) (by kernel_rfl)
theorem Cgy(W:World)(h:W.ShapedOpen prog):∃m,W.cell? ⟨1,0,.none⟩=some (.int .i64 m):=
 cell_of_shapedOpen_int (g:=1) (t:=3) (zero:= #[.int .i64 0]) h (of_decide_eq_true (by kernel_rfl)) (by kernel_rfl) rfl (by kernel_rfl) (by kernel_rfl) underlying3
theorem Ckd:prog.globalNamed "internal/strconv.uint64pow10" =some 0:=by kernel_rfl
theorem Clf:(prog.globals[0]?).map (·.type)=some 395:=by kernel_rfl
theorem Cie{W:World}(h:laidMetH prog Rows.cacheRoomRow.laid W):Lib.TabIs prog W "internal/strconv.uint64pow10" .u64 Lib.pow10Tab:=by
 rw[Go.MakeChecks.laidMetH_plain _ _ _ (by kernel_rfl)]at h
 exact Lib.tabIs_of_head Ckd Clf underlying395 underlying263 (by kernel_rfl) (by kernel_rfl) h.tail.tail
theorem Cgz(os:Os){H:Type}(enc:TypeId × Value→H):
  (OpenSpec.ofChange Rows.cacheRoomSpec).preRow enc prog Tryz.f6 Rows.cacheRoomRow.domain false Rows.cacheRoomRow.laid ((crW os).forCall (fun _ _=>0) ⟨#[],#[.int .i64 0,.int .i64 0],[]⟩).memory #[.int .i64 0,.int .i64 0]:=by
 have hw:(DataW.whole enc prog ((crW os).forCall (fun _ _=>0) ⟨#[],#[.int .i64 0,.int .i64 0],[]⟩).memory Tryz.f6.params.toList (OpenSpec.ofChange Rows.cacheRoomSpec).vars false (#[.int .i64 0,.int .i64 0]:Array Value).toList 8).map (fun x=>(x.1,x.2.1))=some ([.lit (.int .i64 0),.lit (.int .i64 0)],[]):=by kernel_rfl
 obtain⟨⟨x1,x2,x3⟩,hx,hx1⟩:=Option.map_eq_some_iff.1 hw;simp only[Prod.mk.injEq]at hx1;obtain⟨rfl,rfl⟩:=hx1;exact OpenSpec.preRow_of_cond 8 hx (by kernel_rfl) (fun k hk=>by cases hk) (by kernel_rfl) (Cil os _)
theorem Chc(os:Os)(started:os.Started)(H:Type)(enc:TypeId × Value→H):
  ReturnsInHanded {} Tryz.checked os 6 .any ((OpenSpec.ofChange Rows.cacheRoomSpec).preRow enc prog Tryz.f6 Rows.cacheRoomRow.domain false Rows.cacheRoomRow.laid) (Rows.cacheRoomSpec.post enc prog Tryz.f6 false true false false):=by
 refine returnsInHanded_of_row (C:=Tryz.checked) (s:=OpenSpec.ofChange Rows.cacheRoomSpec) (F:=default) Ci4 started (by kernel_rfl) func6
  (witness_row_atRef (enc:=enc) (C:=Tryz.checked) false (crW os) #[.int .i64 0,.int .i64 0] rfl (by kernel_rfl) (by kernel_rfl) (by kernel_rfl) (Cgz os enc)) ?_
 intro W base args ds gs before hval0 hW _ _ _ hL hsh _;have hval:∀(j:Nat) t v,Tryz.f6.params[j]?=some t→args[j]?=some v→Value.okWide prog W .any base t v:=hval0;have hW':=hW;obtain⟨p,q,hA0,hV,rfl,hfz,hnd⟩:=hW;have hA:DataW.TrodAll enc prog W 0 (fun _=>true) true Tryz.f6.params.toList args.toList ds p:=hA0;rw[params6]at hA hval;obtain⟨v0,v1,d0,d1,p0,p1,rfl,rfl,rfl,h0,h1⟩:=trodAll_two hA;obtain⟨rfl,rfl⟩:=trodVars_none hV;obtain⟨x,rfl,rfl,rfl,wx⟩:=open_int underlying3 (hval 0 3 v0 rfl rfl) h0;obtain⟨y,rfl,rfl,rfl,wy⟩:=open_int underlying3 (hval 1 3 v1 rfl rfl) h1;clear hA0 hval0;refine(Bwe (Cgy W hsh) (Cie hL) x y).mono fun e W' ⟨he,hk⟩=>?_;subst he;exact⟨_,rfl,_,_,_,_,_,_,hW',(trodAll_cons_mk (shut_bool underlying4 _) trodAll_mk0),trodAll_mk2 (shut_int underlying3 wx) (shut_int underlying3 wy),rfl,World.keptBut_mono (fun _ h=>h.elim) hk.but,fun h=>by cases h⟩
theorem Ch2:Rows.CacheRoomSaid:=
 OpenClaim.holds_of_wide 6 Tryz.f6 rfl rfl rfl rfl rfl rfl rfl ⟨rfl,rfl,rfl,rfl,rfl⟩ rfl rfl rfl rfl rfl Ch5 func6 Chf Cio Ciq
  (fun os started H enc _=>by rw[OpenClaim.pre_eq_preRow];exact Chc os started H enc)
theorem cacheRoom_card:Rows.CacheRoomCardSaid:=
 Claim7.holds_tied_plain_at .later [] [.data,.data,.data,.data,.sentinel,.sentinel,.pinned] true (true,"66ddcb2bdf34331866a33481e0ca24a4fd328b1e16fdb945a04c50cc4714cc51") true
  Ch2 (fun _ h=>by cases h) Cj8 (fun _ h=>by cases h) cacheRoom_row_tie rfl ⟨rfl,rfl⟩ Ckl rfl
  (fun f fn hf hfn=>by
   obtain rfl:f=6:=Option.some.inj (Ckj.symm.trans hf) |>.symm;obtain rfl:fn=Tryz.f6:=(Option.some.inj (func6.symm.trans hfn)).symm;exact⟨Cks,fun j t ht=>by
    rw[params6]at ht;have h3:t=3:=by
     rcases j with _|_|j
     ·simpa using ht.symm
     ·simpa using ht.symm
     ·simp at ht
    subst h3;exact(show prog.wantsStandIn 3=false by kernel_rfl)⟩)
  (B4h _)
end Go.Proofs.YtanifnfklgldpaaGreatDoor
