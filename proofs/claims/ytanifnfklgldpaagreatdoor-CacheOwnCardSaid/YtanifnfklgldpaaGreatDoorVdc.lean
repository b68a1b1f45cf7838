/-
  The card of CacheOwn holds: the law answers true in every world, for all arguments, with no condition but the card's.
-/
import Derived.Test.YtanifnfklgldpaaGreatDoorVcc
import Derived.Test.YtanifnfklgldpaaGreatDoorVda
import Derived.Test.YtanifnfklgldpaaGreatDoorVdb
import Derived.Test.YtanifnfklgldpaaGreatDoorVhd
import Derived.Stop.LaidErr
import Derived.Lib.LaidTab
import Derived.MakeChecks
import Derived.ChangeMaps5
import Derived.Test.YtanifnfklgldpaaGreatDoorTie
import Derived.Test.YtanifnfklgldpaaGreatDoorCards
import Derived.WideKeyArgs
set_option maxRecDepth 1000000
namespace Go.Proofs.YtanifnfklgldpaaGreatDoor
open Go Go.ChangeAt Go.ChangeMaps Go.ChangeShapes Go.Proofs.Tryz Go.RowKit Go.Vam Go.WideShapes
theorem Cqa:ownKnob prog.godebug= .none:=by kernel_rfl
noncomputable def coW(os:Os):World:=
 {World.doorLaid prog 72 os with heap:=(World.doorLaid prog 72 os).heap.modify 2 fun
   | .cells _ t frozen=> .cells (Lib.firstTab.map fun z=>Value.int .u8 z).toArray t frozen
   |o=>o}
theorem Cpo(os:Os)(args:Array Value):laidMetH prog Rows.cacheOwnRow.laid ((coW os).forCall (fun _ _=>0) ⟨#[],args,[]⟩).memory:=
 laidMetH_of_parts3 (fuel:=8) (laidMet_of_run' 8 (by kernel_rfl) (by kernel_rfl)) (by kernel_rfl) (by kernel_rfl)
theorem Clc(W:World)(h:W.ShapedOpen prog):∃m,W.cell? ⟨1,0,.none⟩=some (.int .i64 m):=
 cell_of_shapedOpen_int (g:=1) (t:=3) (zero:= #[.int .i64 0]) h (of_decide_eq_true (by kernel_rfl)) (by kernel_rfl) rfl (by kernel_rfl) (by kernel_rfl) underlying3
theorem Crx:prog.globalNamed "internal/strconv.uint64pow10" =some 0:=by kernel_rfl
theorem Cr0:(prog.globals[0]?).map (·.type)=some 395:=by kernel_rfl
theorem Cpa{W:World}(h:laidMetH prog Rows.cacheOwnRow.laid W):Lib.TabIs prog W "internal/strconv.uint64pow10" .u64 Lib.pow10Tab:=by
 rw[Go.MakeChecks.laidMetH_plain _ _ _ (by kernel_rfl)]at h
 exact Lib.tabIs_of_head Crx Cr0 underlying395 underlying263 (by kernel_rfl) (by kernel_rfl) h.tail.tail
theorem Cln(os:Os){H:Type}(enc:TypeId × Value→H):
  (OpenSpec.ofChange Rows.cacheOwnSpec).preRow enc prog f3 Rows.cacheOwnRow.domain false Rows.cacheOwnRow.laid ((coW os).forCall (fun _ _=>0) ⟨#[],#[.slice none 0 0],[]⟩).memory #[.slice none 0 0]:=by
 have hw:(DataW.whole enc prog ((coW os).forCall (fun _ _=>0) ⟨#[],#[.slice none 0 0],[]⟩).memory f3.params.toList (OpenSpec.ofChange Rows.cacheOwnSpec).vars false (#[.slice none 0 0]:Array Value).toList 8).map (fun x=>(x.1,x.2.1))=some ([.nil],[]):=by kernel_rfl
 obtain⟨⟨x1,x2,x3⟩,hx,hx1⟩:=Option.map_eq_some_iff.1 hw;simp only[Prod.mk.injEq]at hx1;obtain⟨rfl,rfl⟩:=hx1;exact OpenSpec.preRow_of_cond 8 hx (by kernel_rfl) (fun k hk=>by cases hk) (by kernel_rfl) (Cpo os _)
theorem Cmm(os:Os)(started:os.Started)(H:Type)(enc:TypeId × Value→H):
  ReturnsInHanded {} Tryz.checked os 3 .any ((OpenSpec.ofChange Rows.cacheOwnSpec).preRow enc prog f3 Rows.cacheOwnRow.domain false Rows.cacheOwnRow.laid) (Rows.cacheOwnSpec.post enc prog f3 false true false false):=by
 refine returnsInHanded_of_row (C:=Tryz.checked) (s:=OpenSpec.ofChange Rows.cacheOwnSpec) (F:=default) Cqa started (by kernel_rfl) func3
  (witness_row_atRef (enc:=enc) (C:=Tryz.checked) false (coW os) #[.slice none 0 0] rfl (by kernel_rfl) (by kernel_rfl) (by kernel_rfl) (Cln os enc)) ?_
 intro W base args ds gs before hval0 hW _ _ _ hL hsh _;have hval:∀(j:Nat) t v,f3.params[j]?=some t→args[j]?=some v→Value.okWide prog W .any base t v:=hval0;have hW':=hW;obtain⟨p,q,hA0,hV,rfl,hfz,hnd⟩:=hW;have hA:DataW.TrodAll enc prog W 0 (fun _=>true) true f3.params.toList args.toList ds p:=hA0;rw[params3]at hA hval;obtain⟨v0,d0,rfl,rfl,h0⟩:=trodAll_one hA;obtain⟨rfl,rfl⟩:=trodVars_none hV;obtain⟨a,len,cap,rfl⟩:=okWide_slice underlying22 (hval 0 22 v0 rfl rfl);have hlt:∀y∈p,y.block<W.heap.size:=fun y hy=>hW'.lt y (by simp[hy])
 clear hA0 hval0;refine(Bb9 (Clc W hsh) (Cpa hL) a len cap h0).mono fun e W' ⟨he,hk⟩=>?_;subst he;exact⟨_,rfl,_,_,_,_,_,_,hW',(trodAll_cons_mk (shut_bool underlying4 _) trodAll_mk0),trodAll_cons_mk (WideElems.Trod_stays Cpu (by kernel_rfl) (of_decide_eq_true (by kernel_rfl)) h0 (fun y hy=>hk.sameO (hlt y hy)) (fun y hy=>by simpa using hlt y hy)) trodAll_mk0,rfl,World.keptBut_mono (fun _ h=>h.elim) hk.but,fun h=>by cases h⟩
theorem Cn9:Rows.CacheOwnSaid:=
 OpenClaim.holds_of_wide 3 f3 rfl rfl rfl rfl rfl rfl rfl ⟨rfl,rfl,rfl,rfl,rfl⟩ rfl rfl rfl rfl rfl Cnv func3 Cmc Cog Cpk
  (fun os started H enc _=>by rw[OpenClaim.pre_eq_preRow];exact Cmm os started H enc)
theorem cacheOwn_card:Rows.CacheOwnCardSaid:=
 Claim7.holds_tied_plain_at .later [] [.data,.data,.data,.data,.sentinel,.sentinel,.pinned] true (true,"66ddcb2bdf34331866a33481e0ca24a4fd328b1e16fdb945a04c50cc4714cc51") true
  Cn9 (fun _ h=>by cases h) Crg (fun _ h=>by cases h) cacheOwn_row_tie rfl ⟨rfl,rfl⟩ Crk rfl
  (fun f fn hf hfn=>by
   obtain rfl:f=3:=Option.some.inj (Crn.symm.trans hf) |>.symm;obtain rfl:fn=f3:=(Option.some.inj (func3.symm.trans hfn)).symm;exact⟨Crp,fun j t ht=>by
    rw[params3]at ht;have h3:t=22:=by
     rcases j with _|j
     ·simpa using ht.symm
     ·simp at ht
    subst h3;exact(show prog.wantsStandIn 22=false by kernel_rfl)⟩)
  (B4h _)
end Go.Proofs.YtanifnfklgldpaaGreatDoor
