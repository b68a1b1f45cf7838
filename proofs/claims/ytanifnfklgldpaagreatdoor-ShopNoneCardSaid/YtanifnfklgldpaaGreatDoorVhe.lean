/-
  The card of ShopNone holds: the law answers true in every world, with no condition but the card's.
-/
import Derived.Test.YtanifnfklgldpaaGreatDoorVha
import Derived.Test.YtanifnfklgldpaaGreatDoorVhb
import Derived.Test.YtanifnfklgldpaaGreatDoorVhc
import Derived.Test.YtanifnfklgldpaaGreatDoorVhd
import Derived.Stop.LaidErr
import Derived.Lib.LaidTab
import Derived.MakeChecks
import Derived.ChangeMaps5
import Derived.Test.YtanifnfklgldpaaGreatDoorTie
import Derived.Test.YtanifnfklgldpaaGreatDoorCards
set_option linter.unusedSimpArgs false
set_option linter.unusedVariables false
set_option maxRecDepth 1000000
namespace Go.Proofs.YtanifnfklgldpaaGreatDoor
open Go Go.ChangeAt Go.ChangeMaps Go.ChangeShapes Go.Proofs.Tryz Go.RowKit Go.Vam Go.WideShapes
theorem Cdp:ownKnob prog.godebug= .none:=by kernel_rfl
noncomputable def shW(os:Os):World:=
 {World.doorLaid prog 72 os with heap:=(World.doorLaid prog 72 os).heap.modify 2 fun
   | .cells _ t frozen=> .cells (Lib.firstTab.map fun z=>Value.int .u8 z).toArray t frozen
   |o=>o}
theorem Cae(os:Os)(args:Array Value):laidMetH prog Rows.shopNoneRow.laid ((shW os).forCall (fun _ _=>0) ⟨#[],args,[]⟩).memory:=
 laidMetH_of_parts3 (fuel:=8) (laidMet_of_run' 8 (by kernel_rfl) (by kernel_rfl)) (by kernel_rfl) (by kernel_rfl)
theorem B4j(W:World)(h:W.ShapedOpen prog):∃m,W.cell? ⟨1,0,.none⟩=some (.int .i64 m):=
 cell_of_shapedOpen_int (g:=1) (t:=3) (zero:= #[.int .i64 0]) h (of_decide_eq_true (by kernel_rfl)) (by kernel_rfl) rfl (by kernel_rfl) (by kernel_rfl) underlying3
theorem Cfc:prog.globalNamed "internal/strconv.uint64pow10" =some 0:=by kernel_rfl
theorem Cf0:(prog.globals[0]?).map (·.type)=some 395:=by kernel_rfl
theorem Cbe{W:World}(h:laidMetH prog Rows.shopNoneRow.laid W):Lib.TabIs prog W "internal/strconv.uint64pow10" .u64 Lib.pow10Tab:=by
 rw[Go.MakeChecks.laidMetH_plain _ _ _ (by kernel_rfl)]at h
 exact Lib.tabIs_of_head Cfc Cf0 underlying395 underlying263 (by kernel_rfl) (by kernel_rfl) h.tail.tail
theorem B4s(os:Os){H:Type}(enc:TypeId × Value→H):
  (OpenSpec.ofChange Rows.shopNoneSpec).preRow enc prog f8 Rows.shopNoneRow.domain false Rows.shopNoneRow.laid ((shW os).forCall (fun _ _=>0) ⟨#[],#[],[]⟩).memory #[]:=by
 have hw:(DataW.whole enc prog ((shW os).forCall (fun _ _=>0) ⟨#[],#[],[]⟩).memory f8.params.toList (OpenSpec.ofChange Rows.shopNoneSpec).vars false (#[]:Array Value).toList 8).map (fun x=>(x.1,x.2.1))=some ([],[]):=by kernel_rfl
 obtain⟨⟨x1,x2,x3⟩,hx,hx1⟩:=Option.map_eq_some_iff.1 hw;simp only[Prod.mk.injEq]at hx1;obtain⟨rfl,rfl⟩:=hx1;exact OpenSpec.preRow_of_cond 8 hx (by kernel_rfl) (fun k hk=>by cases hk) (by kernel_rfl) (Cae os _)
theorem B5m(os:Os)(started:os.Started)(H:Type)(enc:TypeId × Value→H):
  ReturnsInHanded {} Tryz.checked os 8 .any ((OpenSpec.ofChange Rows.shopNoneSpec).preRow enc prog f8 Rows.shopNoneRow.domain false Rows.shopNoneRow.laid) (Rows.shopNoneSpec.post enc prog f8 false true false false):=by
 refine returnsInHanded_of_row (C:=Tryz.checked) (s:=OpenSpec.ofChange Rows.shopNoneSpec) (F:=default) Cdp started (by kernel_rfl) func8
  (witness_row_atRef (enc:=enc) (C:=Tryz.checked) false (shW os) #[] rfl (by kernel_rfl) (by kernel_rfl) (by kernel_rfl) (B4s os enc)) ?_
 intro W base args ds gs before hval0 hW _ _ _ hL hsh _;have hW':=hW;obtain⟨p,q,hA0,hV,rfl,hfz,hnd⟩:=hW;have hA:DataW.TrodAll enc prog W 0 (fun _=>true) true f8.params.toList args.toList ds p:=hA0;rw[params8]at hA;obtain⟨rfl,rfl,rfl⟩:=trodAll_none hA;obtain⟨rfl,rfl⟩:=trodVars_none hV;clear hA0;refine(B2x (fun β hM hT=>B2s hM hT) W (B4j W hsh) (Cbe hL)).mono fun e W' ⟨he,hk⟩=>?_;subst he;exact⟨_,rfl,_,_,_,_,_,_,hW',(trodAll_cons_mk (shut_bool underlying4 _) trodAll_mk0),trodAll_mk0,rfl,World.keptBut_mono (fun _ h=>h.elim) hk.but,fun h=>by cases h⟩
theorem B56:Rows.ShopNoneSaid:=
 OpenClaim.holds_of_wide 8 f8 rfl rfl rfl rfl rfl rfl rfl ⟨rfl,rfl,rfl,rfl,rfl⟩ rfl rfl rfl rfl rfl B7z func8 B5i Cbm Cbn
  (fun os started H enc _=>by rw[OpenClaim.pre_eq_preRow];exact B5m os started H enc)
theorem shopNone_card:Rows.ShopNoneCardSaid:=
 Claim7.holds_tied_plain_at .later [] [.data,.data,.data,.data,.sentinel,.sentinel,.pinned] true (true,"66ddcb2bdf34331866a33481e0ca24a4fd328b1e16fdb945a04c50cc4714cc51") true
  B56 (fun _ h=>by cases h) Cfi (fun _ h=>by cases h) shopNone_row_tie rfl ⟨rfl,rfl⟩ Cfm rfl
  (fun f fn hf hfn=>by obtain rfl:f=8:=Option.some.inj (Ce3.symm.trans hf) |>.symm;obtain rfl:fn=f8:=(Option.some.inj (func8.symm.trans hfn)).symm;exact⟨Ce7,fun j t ht=>by rw[params8]at ht;simp at ht⟩)
  (B4h _)
end Go.Proofs.YtanifnfklgldpaaGreatDoor
