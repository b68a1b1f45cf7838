/-
  This program's machine is sound.
-/
import Derived.Test.YtanifnfklgldpaaGreatDoorVaj
set_option linter.unusedSimpArgs false
set_option linter.unusedVariables false
set_option maxRecDepth 1000000
namespace Go.Vam
open Go.Proofs Go.Proofs.Tryz
theorem Be7:Ez 4=true:=by kernel_rfl
theorem Bdy:Ez 6=true:=by kernel_rfl
theorem Cfb:Ez 7=true:=by kernel_rfl
theorem A9p:Ez 12=true:=by kernel_rfl
theorem Bco:Ez 14=true:=by kernel_rfl
theorem Cd9:Ez 16=true:=by kernel_rfl
theorem Cea:Ez 22=true:=by kernel_rfl
theorem Bb5:Ez 23=true:=by kernel_rfl
theorem A84:Ez 28=true:=by kernel_rfl
theorem Cde:Ez 31=true:=by kernel_rfl
theorem A9u:Ez 44=true:=by kernel_rfl
theorem A7u:Ez 46=true:=by kernel_rfl
theorem Ba6:Ez 47=true:=by kernel_rfl
theorem Cej:Ez 48=true:=by kernel_rfl
theorem A9b:Ez 54=true:=by kernel_rfl
theorem Cd3:Ez 59=true:=by kernel_rfl
theorem Cdy:Ez 61=true:=by kernel_rfl
theorem A61:Ez 69=true:=by kernel_rfl
theorem Ced:Ez 72=true:=by kernel_rfl
theorem Cem:Ez 76=true:=by kernel_rfl
theorem Cc6:Ez 79=true:=by kernel_rfl
theorem Ceb:Ez 80=true:=by kernel_rfl
theorem Cdi:Ez 82=true:=by kernel_rfl
theorem Cdk:Ez 85=true:=by kernel_rfl
theorem B2a:Ez 93=true:=by kernel_rfl
theorem Cd1:Ez 94=true:=by kernel_rfl
theorem Cdq:Ez 97=true:=by kernel_rfl
theorem Ca9:Ez 106=true:=by kernel_rfl
theorem A2u:Ez 107=true:=by kernel_rfl
theorem Cb1:Ez 109=true:=by kernel_rfl
theorem Ay1:Ez 110=true:=by kernel_rfl
theorem B84:Ez 111=true:=by kernel_rfl
theorem A3h:Ez 113=true:=by kernel_rfl
theorem A29:Ez 118=true:=by kernel_rfl
theorem Bx3:Ez 119=true:=by kernel_rfl
theorem Cbk:Ez 126=true:=by kernel_rfl
theorem By7:Ez 129=true:=by kernel_rfl
theorem Cbg:Ez 132=true:=by kernel_rfl
theorem B00:Ez 139=true:=by kernel_rfl
theorem Ca5:Ez 152=true:=by kernel_rfl
theorem B9e:Ez 153=true:=by kernel_rfl
theorem Cci:Ez 158=true:=by kernel_rfl
theorem Cad:Ez 159=true:=by kernel_rfl
theorem B85:Ez 161=true:=by kernel_rfl
theorem B9t:Ez 163=true:=by kernel_rfl
theorem A4k:Ez 168=true:=by kernel_rfl
theorem A1u:Ez 171=true:=by kernel_rfl
theorem Azc:Ez 174=true:=by kernel_rfl
theorem Cba:Ez 187=true:=by kernel_rfl
theorem Cb2:Ez 188=true:=by kernel_rfl
theorem Cb5:Ez 189=true:=by kernel_rfl
theorem Cby:Ez 191=true:=by kernel_rfl
theorem Ca4:Ez 192=true:=by kernel_rfl
theorem Ccj:Ez 194=true:=by kernel_rfl
theorem Azr:Ez 195=true:=by kernel_rfl
theorem A07:Ez 202=true:=by kernel_rfl
theorem Cb3:Ez 210=true:=by kernel_rfl
theorem Cbw:Ez 216=true:=by kernel_rfl
theorem Cb8:Ez 224=true:=by kernel_rfl
theorem Cce:Ez 227=true:=by kernel_rfl
theorem B80:Ez 239=true:=by kernel_rfl
theorem A5p:Ez 248=true:=by kernel_rfl
theorem Cam:Ez 250=true:=by kernel_rfl
theorem Car:Ez 253=true:=by kernel_rfl
theorem Cbo:Ez 255=true:=by kernel_rfl
theorem B0o:Ez 268=true:=by kernel_rfl
theorem A3g:Ez 278=true:=by kernel_rfl
theorem A37:Ez 280=true:=by kernel_rfl
theorem Ccg:Ez 306=true:=by kernel_rfl
theorem B9o:Ez 307=true:=by kernel_rfl
theorem Ayl:Ez 308=true:=by kernel_rfl
theorem Cai:Ez 312=true:=by kernel_rfl
theorem B09:Ez 316=true:=by kernel_rfl
theorem Cbu:Ez 317=true:=by kernel_rfl
theorem Cat:Ez 318=true:=by kernel_rfl
theorem Cbv:Ez 319=true:=by kernel_rfl
theorem Caf:Ez 320=true:=by kernel_rfl
theorem A12:Ez 327=true:=by kernel_rfl
theorem Cac:Ez 328=true:=by kernel_rfl
theorem B9c:Ez 329=true:=by kernel_rfl
theorem B0a:Ez 339=true:=by kernel_rfl
theorem Cav:Ez 341=true:=by kernel_rfl
theorem Cb7:Ez 347=true:=by kernel_rfl
theorem Cca:Ez 352=true:=by kernel_rfl
theorem Ccc:Ez 357=true:=by kernel_rfl
theorem Cbd:Ez 363=true:=by kernel_rfl
theorem A2t:Ez 368=true:=by kernel_rfl
theorem Cbt:Ez 373=true:=by kernel_rfl
theorem Cbr:Ez 376=true:=by kernel_rfl
theorem Cbs:Ez 384=true:=by kernel_rfl
theorem Cah:Ez 393=true:=by kernel_rfl
theorem Ca3:Ez 402=true:=by kernel_rfl
theorem Cbc:Ez 403=true:=by kernel_rfl
theorem Cak:Ez 404=true:=by kernel_rfl
theorem Cb4:Ez 406=true:=by kernel_rfl
theorem Cag:Ez 407=true:=by kernel_rfl
theorem Cbq:Ez 408=true:=by kernel_rfl
theorem Cas:Ez 409=true:=by kernel_rfl
theorem Cal:Ez 411=true:=by kernel_rfl
theorem Cbb:Ez 412=true:=by kernel_rfl
theorem Ca1:Ez 426=true:=by kernel_rfl
theorem B9u:Ez 435=true:=by kernel_rfl
theorem Ccd:Ez 438=true:=by kernel_rfl
theorem Fj{i:Nat}{l:List Nat}(h:Ez i=true)(hl:∀j∈l,Ez j=true):∀j∈i::l,Ez j=true:=fun j hj=>by
 rcases List.mem_cons.1 hj with rfl|hj
 ·exact h
 ·exact hl j hj
theorem okn:∀j∈([]:List Nat),Ez j=true:=fun j hj=>by cases hj
noncomputable def Au1:List Nat:= [4,6,7,12,14,16,22,23,28,31,44,46,47,48,54,59,61,69,72,76,79,80,82,85,93,94,97,106,107,109,110,111,113,118,119,126,129,132,139,152,153,158,159,161,163,168,171,174,187,188,189,191,192,194,195,202,210,216,224,227,239,248,250,253,255,268,278,280,306,307,308,312,316,317,318,319,320,327,328,329,339,341,347,352,357,363,368,373,376,384,393,402,403,404,406,407,408,409,411,412,426,435,438]
theorem Ats:Baj.map (·.1)=Au1:=by kernel_rfl
theorem Ber:∀j∈Au1,Ez j=true:=Fj Be7 (Fj Bdy (Fj Cfb (Fj A9p (Fj Bco (Fj Cd9 (Fj Cea (Fj Bb5 (Fj A84 (Fj Cde (Fj A9u (Fj A7u (Fj Ba6 (Fj Cej (Fj A9b (Fj Cd3 (Fj Cdy (Fj A61 (Fj Ced (Fj Cem (Fj Cc6 (Fj Ceb (Fj Cdi (Fj Cdk (Fj B2a (Fj Cd1 (Fj Cdq (Fj Ca9 (Fj A2u (Fj Cb1 (Fj Ay1 (Fj B84 (Fj A3h (Fj A29 (Fj Bx3 (Fj Cbk (Fj By7 (Fj Cbg (Fj B00 (Fj Ca5 (Fj B9e (Fj Cci (Fj Cad (Fj B85 (Fj B9t (Fj A4k (Fj A1u (Fj Azc (Fj Cba (Fj Cb2 (Fj Cb5 (Fj Cby (Fj Ca4 (Fj Ccj (Fj Azr (Fj A07 (Fj Cb3 (Fj Cbw (Fj Cb8 (Fj Cce (Fj B80 (Fj A5p (Fj Cam (Fj Car (Fj Cbo (Fj B0o (Fj A3g (Fj A37 (Fj Ccg (Fj B9o (Fj Ayl (Fj Cai (Fj B09 (Fj Cbu (Fj Cat (Fj Cbv (Fj Caf (Fj A12 (Fj Cac (Fj B9c (Fj B0a (Fj Cav (Fj Cb7 (Fj Cca (Fj Ccc (Fj Cbd (Fj A2t (Fj Cbt (Fj Cbr (Fj Cbs (Fj Cah (Fj Ca3 (Fj Cbc (Fj Cak (Fj Cb4 (Fj Cag (Fj Cbq (Fj Cas (Fj Cal (Fj Cbb (Fj Ca1 (Fj B9u (Fj Ccd (okn)))))))))))))))))))))))))))))))))))))))))))))))))))))))))))))))))))))))))))))))))))))))))))))))))))))))
theorem J4{α:Type}{n:Nat}{v:α}:∀{l:List (Nat × α)},F9 l n=some v→(n,v)∈l
 | [],h=>by cases h
 |(k,x)::l,h=>by
  unfold F9 at h;split at h
  ·rename_i he;cases h;have:=Nat.eq_of_beq_eq_true he;subst this;exact List.mem_cons_self
  ·exact List.mem_cons_of_mem _ (J4 h)
theorem Bep(f:FuncId)(fn:Func)(c:Code)(hf:C1.P.funcs[f]?=some fn)(hc:fn.body=some c):H6 (C1.ords f) c:=by
 cases h:F9 Baj f with
 |none=>
  have:C1.ords f=fun _=>none:=by funext id;show Ah5 f id=none;unfold Ah5;rw[h]
  rw[this];exact G9 c
 |some l=>
  have hk:f∈Au1:=by rw[← Ats];exact List.mem_map.2 ⟨_,J4 h,rfl⟩
  have:=Ber f hk;unfold Ez at this;have hf':prog.funcs[f]?=some fn:=hf;rw[hf']at this;dsimp only at this;rw[hc]at this;exact Ama c this
theorem Bbq:prog.follows .mixedOrders=true:=by kernel_rfl
theorem Bcf:(prog.funcs.toList.all fun fn=>fn.name != "runtime.NumGoroutine")=true:=by kernel_rfl
theorem A8y:Aa6 prog:=fun f fn hf he=>by
 have:=List.all_eq_true.1 Bcf fn (by rw[← Array.getElem?_toList]at hf;exact List.mem_of_getElem? hf)
 rw[he]at this;simp at this
theorem Bhz:Aky C1:=fun f x h=>by cases h
theorem Ame{β:Nat→Nat→Option Value}(hM:I6 β):Ww C1 β Aw5:=by
 have hP:C1.P=prog:=rfl;refine⟨fun f nt h cf hX=>?_,fun f nt h cf hk=>?_⟩
 ·have hm:=J4 h;simp only[Q9,List.mem_cons,Prod.mk.injEq,List.not_mem_nil,or_false]at hm;rw[hP];rcases hm with⟨rfl,rfl⟩|⟨rfl,rfl⟩|⟨rfl,rfl⟩|⟨rfl,rfl⟩|⟨rfl,rfl⟩|⟨rfl,rfl⟩|⟨rfl,rfl⟩|⟨rfl,rfl⟩|⟨rfl,rfl⟩|⟨rfl,rfl⟩|⟨rfl,rfl⟩|⟨rfl,rfl⟩|⟨rfl,rfl⟩
  ·exact Aec cf
  ·exact Aav cf
  ·exact Ahr cf
  ·exact Ae2 cf
  ·exact Ab4 hP cf hX
  ·exact N8 cf
  ·exact Ae6 hM cf
  ·exact Aet hM cf
  ·exact Vn hM cf
  ·exact Ab7 cf
  ·exact Ahw hP cf hX
  ·exact Ai0 hP cf hX
  ·exact Wd cf
 ·have hm:=J4 h;simp only[Q9,List.mem_cons,Prod.mk.injEq,List.not_mem_nil,or_false]at hm;rcases hm with⟨rfl,rfl⟩|⟨rfl,rfl⟩|⟨rfl,rfl⟩|⟨rfl,rfl⟩|⟨rfl,rfl⟩|⟨rfl,rfl⟩|⟨rfl,rfl⟩|⟨rfl,rfl⟩|⟨rfl,rfl⟩|⟨rfl,rfl⟩|⟨rfl,rfl⟩|⟨rfl,rfl⟩|⟨rfl,rfl⟩
  ·exact Aat cf
  ·exact Zi cf
  ·exact Aeu cf
  ·exact Ac8 cf
  ·exact Aal cf
  ·exact Nl cf
  ·exact Ac5 cf
  ·exact Acp cf
  ·exact Uu cf
  ·exact Aaj cf
  ·exact Ae0 cf
  ·exact Aer cf
  ·exact Sm cf
theorem Ba1:Bd6 Aw5:=fun f g h cf args st v st' W hr=>by have hm:=J4 h;simp only[Q9,List.mem_cons,Prod.mk.injEq,List.not_mem_nil,or_false]at hm;rcases hm with⟨rfl,rfl⟩|⟨rfl,rfl⟩|⟨rfl,rfl⟩|⟨rfl,rfl⟩|⟨rfl,rfl⟩|⟨rfl,rfl⟩|⟨rfl,rfl⟩|⟨rfl,rfl⟩|⟨rfl,rfl⟩|⟨rfl,rfl⟩|⟨rfl,rfl⟩|⟨rfl,rfl⟩|⟨rfl,rfl⟩<;>exact hr
theorem Aq5{β:Nat→Nat→Option Value}{nat:FuncId→Option Bz}(hn:Ww C1 β nat)(N n:Nat):Ctx C1 (Ii C1 nat N n) β:=
 Bka (C:=C1) A8y Bhz Bep Bbq hn N n
end Go.Vam
