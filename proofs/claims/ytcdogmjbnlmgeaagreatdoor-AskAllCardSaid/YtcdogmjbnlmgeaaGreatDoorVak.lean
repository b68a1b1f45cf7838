/-
  This program's machine is sound.
-/
import Derived.Test.YtcdogmjbnlmgeaaGreatDoorVaj
set_option linter.unusedSimpArgs false
set_option linter.unusedVariables false
set_option maxRecDepth 1000000
namespace Go.Vam
open Go.Proofs Go.Proofs.Tryz
theorem Be7:Ez 4=true:=by kernel_rfl
theorem Beq:Ez 5=true:=by kernel_rfl
theorem Bdy:Ez 6=true:=by kernel_rfl
theorem A9p:Ez 12=true:=by kernel_rfl
theorem A7i:Ez 13=true:=by kernel_rfl
theorem Bco:Ez 14=true:=by kernel_rfl
theorem Bbt:Ez 18=true:=by kernel_rfl
theorem A67:Ez 19=true:=by kernel_rfl
theorem Bcw:Ez 20=true:=by kernel_rfl
theorem Bb5:Ez 23=true:=by kernel_rfl
theorem Ban:Ez 27=true:=by kernel_rfl
theorem A84:Ez 28=true:=by kernel_rfl
theorem Bar:Ez 30=true:=by kernel_rfl
theorem A9i:Ez 38=true:=by kernel_rfl
theorem A83:Ez 42=true:=by kernel_rfl
theorem A9u:Ez 44=true:=by kernel_rfl
theorem A7u:Ez 46=true:=by kernel_rfl
theorem Ba6:Ez 47=true:=by kernel_rfl
theorem A7a:Ez 49=true:=by kernel_rfl
theorem A7v:Ez 51=true:=by kernel_rfl
theorem Bas:Ez 53=true:=by kernel_rfl
theorem A9b:Ez 54=true:=by kernel_rfl
theorem A8g:Ez 58=true:=by kernel_rfl
theorem Bce:Ez 60=true:=by kernel_rfl
theorem Bcc:Ez 62=true:=by kernel_rfl
theorem A95:Ez 64=true:=by kernel_rfl
theorem A61:Ez 69=true:=by kernel_rfl
theorem A92:Ez 75=true:=by kernel_rfl
theorem A63:Ez 89=true:=by kernel_rfl
theorem Bag:Ez 98=true:=by kernel_rfl
theorem Ayt:Ez 102=true:=by kernel_rfl
theorem A4h:Ez 105=true:=by kernel_rfl
theorem A2u:Ez 107=true:=by kernel_rfl
theorem Ay1:Ez 110=true:=by kernel_rfl
theorem A3h:Ez 113=true:=by kernel_rfl
theorem A4s:Ez 116=true:=by kernel_rfl
theorem A29:Ez 118=true:=by kernel_rfl
theorem A3q:Ez 124=true:=by kernel_rfl
theorem A2b:Ez 133=true:=by kernel_rfl
theorem Azj:Ez 138=true:=by kernel_rfl
theorem A1c:Ez 143=true:=by kernel_rfl
theorem Azs:Ez 144=true:=by kernel_rfl
theorem A08:Ez 148=true:=by kernel_rfl
theorem Ayj:Ez 157=true:=by kernel_rfl
theorem A2c:Ez 165=true:=by kernel_rfl
theorem A5t:Ez 167=true:=by kernel_rfl
theorem A4k:Ez 168=true:=by kernel_rfl
theorem Ayr:Ez 169=true:=by kernel_rfl
theorem A1u:Ez 171=true:=by kernel_rfl
theorem Az5:Ez 172=true:=by kernel_rfl
theorem Azc:Ez 174=true:=by kernel_rfl
theorem A5g:Ez 175=true:=by kernel_rfl
theorem A47:Ez 180=true:=by kernel_rfl
theorem A1b:Ez 182=true:=by kernel_rfl
theorem A3p:Ez 184=true:=by kernel_rfl
theorem Azr:Ez 195=true:=by kernel_rfl
theorem A2f:Ez 201=true:=by kernel_rfl
theorem A07:Ez 202=true:=by kernel_rfl
theorem A1g:Ez 214=true:=by kernel_rfl
theorem A0i:Ez 215=true:=by kernel_rfl
theorem A4v:Ez 217=true:=by kernel_rfl
theorem A5d:Ez 233=true:=by kernel_rfl
theorem A5k:Ez 242=true:=by kernel_rfl
theorem A5p:Ez 248=true:=by kernel_rfl
theorem A2k:Ez 258=true:=by kernel_rfl
theorem A14:Ez 259=true:=by kernel_rfl
theorem A3r:Ez 273=true:=by kernel_rfl
theorem Azq:Ez 274=true:=by kernel_rfl
theorem A0j:Ez 275=true:=by kernel_rfl
theorem A2p:Ez 277=true:=by kernel_rfl
theorem A3g:Ez 278=true:=by kernel_rfl
theorem A10:Ez 279=true:=by kernel_rfl
theorem A37:Ez 280=true:=by kernel_rfl
theorem Ayv:Ez 282=true:=by kernel_rfl
theorem A02:Ez 285=true:=by kernel_rfl
theorem A3e:Ez 292=true:=by kernel_rfl
theorem A3y:Ez 299=true:=by kernel_rfl
theorem Ayl:Ez 308=true:=by kernel_rfl
theorem A5s:Ez 310=true:=by kernel_rfl
theorem A0z:Ez 314=true:=by kernel_rfl
theorem A0q:Ez 323=true:=by kernel_rfl
theorem A30:Ez 325=true:=by kernel_rfl
theorem A12:Ez 327=true:=by kernel_rfl
theorem A3s:Ez 334=true:=by kernel_rfl
theorem A5c:Ez 345=true:=by kernel_rfl
theorem Ayf:Ez 354=true:=by kernel_rfl
theorem Aym:Ez 355=true:=by kernel_rfl
theorem A25:Ez 359=true:=by kernel_rfl
theorem A2t:Ez 368=true:=by kernel_rfl
theorem Az8:Ez 369=true:=by kernel_rfl
theorem Azd:Ez 377=true:=by kernel_rfl
theorem A4i:Ez 382=true:=by kernel_rfl
theorem Fj{i:Nat}{l:List Nat}(h:Ez i=true)(hl:∀j∈l,Ez j=true):∀j∈i::l,Ez j=true:=fun j hj=>by
 rcases List.mem_cons.1 hj with rfl|hj
 ·exact h
 ·exact hl j hj
theorem okn:∀j∈([]:List Nat),Ez j=true:=fun j hj=>by cases hj
noncomputable def Au1:List Nat:= [4,5,6,12,13,14,18,19,20,23,27,28,30,38,42,44,46,47,49,51,53,54,58,60,62,64,69,75,89,98,102,105,107,110,113,116,118,124,133,138,143,144,148,157,165,167,168,169,171,172,174,175,180,182,184,195,201,202,214,215,217,233,242,248,258,259,273,274,275,277,278,279,280,282,285,292,299,308,310,314,323,325,327,334,345,354,355,359,368,369,377,382]
theorem Ats:Baj.map (·.1)=Au1:=by kernel_rfl
theorem Ber:∀j∈Au1,Ez j=true:=Fj Be7 (Fj Beq (Fj Bdy (Fj A9p (Fj A7i (Fj Bco (Fj Bbt (Fj A67 (Fj Bcw (Fj Bb5 (Fj Ban (Fj A84 (Fj Bar (Fj A9i (Fj A83 (Fj A9u (Fj A7u (Fj Ba6 (Fj A7a (Fj A7v (Fj Bas (Fj A9b (Fj A8g (Fj Bce (Fj Bcc (Fj A95 (Fj A61 (Fj A92 (Fj A63 (Fj Bag (Fj Ayt (Fj A4h (Fj A2u (Fj Ay1 (Fj A3h (Fj A4s (Fj A29 (Fj A3q (Fj A2b (Fj Azj (Fj A1c (Fj Azs (Fj A08 (Fj Ayj (Fj A2c (Fj A5t (Fj A4k (Fj Ayr (Fj A1u (Fj Az5 (Fj Azc (Fj A5g (Fj A47 (Fj A1b (Fj A3p (Fj Azr (Fj A2f (Fj A07 (Fj A1g (Fj A0i (Fj A4v (Fj A5d (Fj A5k (Fj A5p (Fj A2k (Fj A14 (Fj A3r (Fj Azq (Fj A0j (Fj A2p (Fj A3g (Fj A10 (Fj A37 (Fj Ayv (Fj A02 (Fj A3e (Fj A3y (Fj Ayl (Fj A5s (Fj A0z (Fj A0q (Fj A30 (Fj A12 (Fj A3s (Fj A5c (Fj Ayf (Fj Aym (Fj A25 (Fj A2t (Fj Az8 (Fj Azd (Fj A4i (okn))))))))))))))))))))))))))))))))))))))))))))))))))))))))))))))))))))))))))))))))))))))))))))
theorem J4{α:Type}{n:Nat}{v:α}:∀{l:List (Nat × α)},F9 l n=some v→(n,v)∈l
 | [],h=>by cases h
 |(k,x)::l,h=>by
  unfold F9 at h;split at h
  ·rename_i he;cases h;have:=Nat.eq_of_beq_eq_true he;subst this;exact List.mem_cons_self
  ·exact List.mem_cons_of_mem _ (J4 h)
theorem Bep(f:FuncId)(fn:Func)(c:Code)(hf:C1.P.funcs[f]?=some fn)(hc:fn.body=some c):H6 (C1.ords f) c:=by
 cases h:F9 Baj f with
 |none=>
  have:C1.ords f=fun _=>none:=by funext id;show Ah5 f id=none;unfold Ah5;rw[h]
  rw[this];exact G9 c
 |some l=>
  have hk:f∈Au1:=by rw[← Ats];exact List.mem_map.2 ⟨_,J4 h,rfl⟩
  have:=Ber f hk;unfold Ez at this;have hf':prog.funcs[f]?=some fn:=hf;rw[hf']at this;dsimp only at this;rw[hc]at this;exact Ama c this
theorem Bbq:prog.follows .mixedOrders=true:=by kernel_rfl
theorem Bcf:(prog.funcs.toList.all fun fn=>fn.name != "runtime.NumGoroutine")=true:=by kernel_rfl
theorem A8y:Aa6 prog:=fun f fn hf he=>by
 have:=List.all_eq_true.1 Bcf fn (by rw[← Array.getElem?_toList]at hf;exact List.mem_of_getElem? hf)
 rw[he]at this;simp at this
theorem Bhz:Aky C1:=fun f x h=>by cases h
theorem Ame{β:Nat→Nat→Option Value}(hM:I6 β):Ww C1 β Aw5:=by
 have hP:C1.P=prog:=rfl;refine⟨fun f nt h cf hX=>?_,fun f nt h cf hk=>?_⟩
 ·have hm:=J4 h;simp only[Q9,List.mem_cons,Prod.mk.injEq,List.not_mem_nil,or_false]at hm;rw[hP];rcases hm with⟨rfl,rfl⟩|⟨rfl,rfl⟩|⟨rfl,rfl⟩|⟨rfl,rfl⟩|⟨rfl,rfl⟩|⟨rfl,rfl⟩|⟨rfl,rfl⟩|⟨rfl,rfl⟩|⟨rfl,rfl⟩|⟨rfl,rfl⟩|⟨rfl,rfl⟩|⟨rfl,rfl⟩
  ·exact Aec cf
  ·exact Aav cf
  ·exact Ahr cf
  ·exact Ae2 cf
  ·exact Ab4 hP cf hX
  ·exact N8 cf
  ·exact Ae6 hM cf
  ·exact Aet hM cf
  ·exact Vn hM cf
  ·exact Ab7 cf
  ·exact Ahw hP cf hX
  ·exact Ai0 hP cf hX
 ·have hm:=J4 h;simp only[Q9,List.mem_cons,Prod.mk.injEq,List.not_mem_nil,or_false]at hm;rcases hm with⟨rfl,rfl⟩|⟨rfl,rfl⟩|⟨rfl,rfl⟩|⟨rfl,rfl⟩|⟨rfl,rfl⟩|⟨rfl,rfl⟩|⟨rfl,rfl⟩|⟨rfl,rfl⟩|⟨rfl,rfl⟩|⟨rfl,rfl⟩|⟨rfl,rfl⟩|⟨rfl,rfl⟩
  ·exact Aat cf
  ·exact Zi cf
  ·exact Aeu cf
  ·exact Ac8 cf
  ·exact Aal cf
  ·exact Nl cf
  ·exact Ac5 cf
  ·exact Acp cf
  ·exact Uu cf
  ·exact Aaj cf
  ·exact Ae0 cf
  ·exact Aer cf
theorem Ba1:Bd6 Aw5:=fun f g h cf args st v st' W hr=>by have hm:=J4 h;simp only[Q9,List.mem_cons,Prod.mk.injEq,List.not_mem_nil,or_false]at hm;rcases hm with⟨rfl,rfl⟩|⟨rfl,rfl⟩|⟨rfl,rfl⟩|⟨rfl,rfl⟩|⟨rfl,rfl⟩|⟨rfl,rfl⟩|⟨rfl,rfl⟩|⟨rfl,rfl⟩|⟨rfl,rfl⟩|⟨rfl,rfl⟩|⟨rfl,rfl⟩|⟨rfl,rfl⟩<;>exact hr
theorem Aq5{β:Nat→Nat→Option Value}{nat:FuncId→Option Bz}(hn:Ww C1 β nat)(N n:Nat):Ctx C1 (Ii C1 nat N n) β:=
 Rt (C:=C1) A8y Bhz Bep Bbq hn N n
end Go.Vam
