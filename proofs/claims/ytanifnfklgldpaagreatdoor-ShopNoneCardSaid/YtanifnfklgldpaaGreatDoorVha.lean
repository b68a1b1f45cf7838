/-
  ShopNone's function answers true.
-/
import Derived.Test.YtanifnfklgldpaaGreatDoorVgb
set_option linter.unusedSimpArgs false
set_option linter.unusedVariables false
set_option maxRecDepth 1000000
namespace Go.Vam
open Go.Proofs Go.Proofs.Tryz
noncomputable def Cev:List (Nat × List (List D × D)):=(9,Np)::Bn
theorem Ce6:Np.all (Ll [] Cev 100 8)=true:=by kernel_rfl
variable{β:Nat→Nat→Option Value}
theorem B2s(hM:I6 β)(hT:Aw0 β):Akr prog β 8 [] (.bool true):=
 Ej hM Cc (B60 hM hT) Ce6 (8,Np) (List.mem_cons_self ..) ([],.bool true) (by simp[Np])
end Go.Vam
namespace Go.Vam
open Go.Proofs Go.Proofs.Tryz Go.RowKit
def Akm(W:World):Nat→Nat→Option Value:=fun b o=>W.cell? ⟨b,o,none⟩
def gA(W:World):G:= {loc:=fun _=>none,bs:=fun _=>0,tk:=fun _=>none,I:=Akm W,base:=Akm W}
theorem Bhy(W:World):Co (gA W) [] W:=by
 refine⟨fun id c h=>(by cases h),fun t k h=>(by cases h),fun id id2 b h _=>?_,fun b o v h=>h,fun id c h=>(by cases h),fun b o v h=>⟨h,fun id ho=>?_,fun o' ho'=>ho'⟩⟩
 ·rcases h with⟨h,_⟩|⟨k,h,_⟩
  ·cases h
  ·cases h
 ·rcases ho with⟨h,_⟩|⟨k,h,_⟩
  ·cases h
  ·cases h
theorem Wm{w:World}{b:Nat}{cs:Array Value}{T:TypeId}{fr:Nat × Nat}(h:w.heap[b]?=some (.cells cs T fr))(o:Nat):w.cell? ⟨b,o,none⟩=cs[o]?:=by unfold World.cell?;simp[h]
theorem Ana{W w:World}{g:G}{st:St}(hb:g.base=Akm W)(hs:Co g st w){b:Nat}{cs:Array Value}{T:TypeId}{fr:Nat × Nat}(h:W.heap[b]?=some (.cells cs T fr))(hne:0<cs.size):
  ∃T' fr',w.heap[b]?=some (.cells cs T' fr'):=by
 have key:∀o,w.cell? ⟨b,o,none⟩=cs[o]?:=fun o=>by
  have h0:g.base b 0=some cs[0]:=by rw[hb];show W.cell? ⟨b,0,none⟩=_;rw[Wm h];simp[hne]
  cases hc:cs[o]? with
  |none=>exact(hs.base b 0 _ h0).2.2 o (by rw[hb];show W.cell? ⟨b,o,none⟩=none;rw[Wm h,hc])
  |some v=>exact hs.imm _ _ _ (hs.base b o v (by rw[hb];show W.cell? ⟨b,o,none⟩=some v;rw[Wm h,hc])).1
 have h1:=key 0;have:∃ob:Go.Obj,w.heap[b]?=some ob∧ob.isCells=true:=cells_of_cell (a:=⟨b,0,none⟩) (v:=cs[0]) (by rw[h1];simp[hne])
 obtain⟨ob,h2,h3⟩:=this;cases ob with
 |cells cs' T' fr'=>
  have:cs'=cs:=by apply Array.ext_getElem?;intro o;rw[← Wm h2 o,key o]
  subst this;exact⟨T',fr',h2⟩
 |_=>cases h3
theorem Bfn(W:World)(h:Lib.TabIs prog W "internal/strconv.uint64pow10" .u64 Lib.pow10Tab):Aw0 (Akm W):=fun g st w hb hs=>by
 unfold Lib.TabIs World.var? at h ⊢;rw[Option.bind_eq_some_iff]at h;obtain⟨gi,h1,h2⟩:=h;rw[h1,Option.bind_some];split at h2
 ·rename_i cs T fr hh;cases h2;obtain⟨T',fr',h3⟩:=Ana hb hs hh (by decide)
  rw[h3]
 ·cases h2
structure Aps(W W':World):Prop where
 os:W'.os=W.os
 out:W'.output=W.output
 up:∀i,i<W.heap.size→W'.heap[i]?=W.heap[i]?
theorem Aps.but{W W':World}(h:Aps W W'):W.keptBut W' (fun _=>False):=⟨h.os,h.out,fun i hi=>by rw[h.up i hi];split<;>simp_all⟩
theorem B2x{f:FuncId}(hr:∀β,I6 β→Aw0 β→Akr prog β f [] (.bool true))(W:World)(hm:∃m,W.cell? ⟨1,0,none⟩=some (.int .i64 m))
  (ht:Lib.TabIs prog W "internal/strconv.uint64pow10" .u64 Lib.pow10Tab):
  Calls prog f #[] W fun e W'=>e= .returned (.bool true)∧Aps W W':=by
 have hM:I6 (Akm W):=hm;refine(hr (Akm W) hM (Bfn W ht) [] (gA W) W #[] rfl (Bhy W) ⟨rfl,fun j d v h=>by simp at h⟩).mono ?_
 rintro e W' ⟨r,g',rfl,hv,_,hst,_⟩;cases hv;exact⟨rfl,hst.os,hst.out,fun i hi=>hst.fr i hi fun id hid=>by cases hid⟩
end Go.Vam
