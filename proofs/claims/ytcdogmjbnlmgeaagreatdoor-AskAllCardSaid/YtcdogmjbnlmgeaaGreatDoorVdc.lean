/-
  The card of AskAll holds: the law answers true in every world, for every text, without a condition but those of the card.
-/
import Derived.Test.YtcdogmjbnlmgeaaGreatDoorVcj
import Derived.Test.YtcdogmjbnlmgeaaGreatDoorVda
import Derived.Test.YtcdogmjbnlmgeaaGreatDoorVdb
import Derived.Stop.LaidErr
import Derived.Lib.LaidTab
import Derived.MakeChecks
import Derived.ChangeMaps5
import Derived.Test.YtcdogmjbnlmgeaaGreatDoorTie
import Derived.Test.YtcdogmjbnlmgeaaGreatDoorCards
set_option linter.unusedSimpArgs false
set_option linter.unusedVariables false
set_option maxRecDepth 1000000
namespace Go.Proofs.YtcdogmjbnlmgeaaGreatDoor
open Go Go.ChangeAt Go.ChangeMaps Go.ChangeShapes Go.Proofs.Tryz Go.RowKit Go.Vam Go.WideShapes Rows
theorem Aza:ownKnob prog.godebug= .none:=by kernel_rfl
noncomputable def A3c(os:Os):World:=
 {World.doorLaid prog 72 os with heap:=(World.doorLaid prog 72 os).heap.modify 6 fun
   | .cells _ t frozen=> .cells (Lib.firstTab.map fun z=>Value.int .u8 z).toArray t frozen
   |o=>o}
theorem Au9(os:Os)(args:Array Value):laidMetH prog askAllRow.laid ((A3c os).forCall (fun _ _=>0) ⟨#[],args,[]⟩).memory:=
 laidMetH_of_parts3 (fuel:=8) (laidMet_of_run' 8 (by kernel_rfl) (by kernel_rfl)) (by kernel_rfl) (by kernel_rfl)
theorem Alh(W:World)(h:W.ShapedOpen prog):∃m,W.cell? ⟨0,0,.none⟩=some (.int .i64 m):=
 cell_of_shapedOpen_int (g:=0) (t:=3) (zero:= #[.int .i64 0]) h (of_decide_eq_true (by kernel_rfl)) (by kernel_rfl) rfl (by kernel_rfl) (by kernel_rfl) underlying3
theorem A94:prog.globalNamed "internal/strconv.uint64pow10" =some 1:=by kernel_rfl
theorem Att:prog.globalNamed "strconv.ErrSyntax" =some 4:=by kernel_rfl
theorem Axz:prog.globalNamed "strconv.ErrRange" =some 5:=by kernel_rfl
theorem A8s:(prog.globals[1]?).map (·.type)=some 273:=by kernel_rfl
theorem Ba5:(prog.globals[4]?).map (·.type)=some 293:=by kernel_rfl
theorem A8m:(prog.globals[5]?).map (·.type)=some 293:=by kernel_rfl
theorem Akj: "*" ++ "errors.errorString" = "*errors.errorString" :=by decide
theorem Aoe(u:TypeId)(h:prog.typeName? 3 u=some "*errors.errorString"):u=361:=
 typeName_ptr_named (nm:= "errors.errorString") (by rw[Akj];kernel_rfl) (by kernel_rfl) (by decide) u (by rw[Akj];exact h)
theorem Axo{W:World}(h:laidMetH prog askAllRow.laid W):Lib.TabIs prog W "internal/strconv.uint64pow10" .u64 Lib.pow10Tab∧(∃tp p,W.cell? ⟨4,0,.none⟩=some (.iface tp p))∧(∃tp p,W.cell? ⟨5,0,.none⟩=some (.iface tp p)):=by
 rw[Go.MakeChecks.laidMetH_plain _ _ _ (by kernel_rfl)]at h
 have h2:=h.tail.tail;refine⟨Lib.tabIs_of_head A94 A8s underlying273 underlying199 (by kernel_rfl) (by kernel_rfl) h2,?_,?_⟩
 ·obtain⟨a,s,hv,_⟩:=laid_sentinel h2.tail.tail.tail Att Ba5 underlying293 Aoe underlying361 underlying363 rfl rfl underlying9 (by kernel_rfl) (by kernel_rfl)
  exact⟨_,_,by have h0:=World.var?_cell Att hv 0;simpa using h0⟩
 ·obtain⟨a,s,hv,_⟩:=laid_sentinel h2.tail.tail Axz A8m underlying293 Aoe underlying361 underlying363 rfl rfl underlying9 (by kernel_rfl) (by kernel_rfl)
  exact⟨_,_,by have h0:=World.var?_cell Axz hv 0;simpa using h0⟩
theorem Aj9(os:Os){H:Type}(enc:TypeId × Value→H):
  (OpenSpec.ofChange askAllSpec).preRow enc prog Tryz.f3 askAllRow.domain false askAllRow.laid ((A3c os).forCall (fun _ _=>0) ⟨#[],#[.string ⟨#[]⟩],[]⟩).memory #[.string ⟨#[]⟩]:=by
 have hw:(DataW.whole enc prog ((A3c os).forCall (fun _ _=>0) ⟨#[],#[.string ⟨#[]⟩],[]⟩).memory Tryz.f3.params.toList (OpenSpec.ofChange askAllSpec).vars false (#[.string ⟨#[]⟩]:Array Value).toList 8).map (fun x=>(x.1,x.2.1))=some ([.lit (.string [])],[]):=by kernel_rfl
 obtain⟨⟨x1,x2,x3⟩,hx,hx1⟩:=Option.map_eq_some_iff.1 hw;simp only[Prod.mk.injEq]at hx1;obtain⟨rfl,rfl⟩:=hx1;exact OpenSpec.preRow_of_cond 8 hx (by kernel_rfl) (fun k hk=>by cases hk) (by kernel_rfl) (Au9 os _)
theorem Ant(os:Os)(started:os.Started)(H:Type)(enc:TypeId × Value→H):
  ReturnsInHanded {} Tryz.checked os 3 .any ((OpenSpec.ofChange askAllSpec).preRow enc prog Tryz.f3 askAllRow.domain false askAllRow.laid) (askAllSpec.post enc prog Tryz.f3 false true false false):=by
 refine returnsInHanded_of_row (C:=Tryz.checked) (s:=OpenSpec.ofChange askAllSpec) (F:=default) Aza started (by kernel_rfl) func3
  (witness_row_atRef (enc:=enc) (C:=Tryz.checked) false (A3c os) #[.string ⟨#[]⟩] rfl (by kernel_rfl) (by kernel_rfl) (by kernel_rfl) (Aj9 os enc)) ?_
 intro W base args ds gs before hval0 hW _ _ _ hL hsh _;have hval:∀(j:Nat) t v,Tryz.f3.params[j]?=some t→args[j]?=some v→Value.okWide prog W .any base t v:=hval0;have hW':=hW;obtain⟨p,q,hA0,hV,rfl,hfz,hnd⟩:=hW;have hA:DataW.TrodAll enc prog W 0 (fun _=>true) true Tryz.f3.params.toList args.toList ds p:=hA0;rw[params3]at hA hval;obtain⟨v0,d0,rfl,rfl,h0⟩:=trodAll_one hA;obtain⟨rfl,rfl⟩:=trodVars_none hV;have h0k:=h0;obtain⟨s,rfl,rfl,rfl,ws⟩:=open_string underlying9 (hval 0 9 v0 rfl rfl) h0;clear hA0 hval0;obtain⟨ht,he1,he2⟩:=Axo hL;refine(Bb9 ⟨Alh W hsh,ht,he1,he2⟩ s).mono fun e W' ⟨he,hk⟩=>?_;subst he;exact⟨_,rfl,_,_,_,_,_,_,hW',(trodAll_cons_mk (shut_bool underlying4 _) trodAll_mk0),trodAll_mk1 (shut_string underlying9 ws),rfl,World.keptBut_mono (fun _ h=>h.elim) hk.but,fun h=>by cases h⟩
theorem Ar4:Rows.AskAllSaid:=
 OpenClaim.holds_of_wide 3 Tryz.f3 rfl rfl rfl rfl rfl rfl rfl ⟨rfl,rfl,rfl,rfl,rfl⟩ rfl rfl rfl rfl rfl Asx func3 Amc Atf Avr
  (fun os started H enc _=>by rw[OpenClaim.pre_eq_preRow];exact Ant os started H enc)
theorem askAll_card:Rows.AskAllCardSaid:=
 Claim7.holds_tied_plain_at .later [] [.data,.data,.data,.data,.sentinel,.sentinel,.pinned] true (true,"8c4716ba10ea79918cd9a8043ae2a65da489b5ae760f33660610436a8d2e9111") true
  Ar4 (fun _ h=>by cases h) Baa (fun _ h=>by cases h) askAll_row_tie rfl ⟨rfl,rfl⟩ A90 rfl
  (fun f fn hf hfn=>by
   obtain rfl:f=3:=Option.some.inj (A7k.symm.trans hf) |>.symm;obtain rfl:fn=Tryz.f3:=(Option.some.inj (func3.symm.trans hfn)).symm;exact⟨A9f,fun j t ht=>by
    rw[params3]at ht;have h3:t=9:=by
     rcases j with _|j
     ·simpa using ht.symm
     ·simp at ht
    subst h3;exact(show prog.wantsStandIn 9=false by kernel_rfl)⟩)
  A8e
end Go.Proofs.YtcdogmjbnlmgeaaGreatDoor
