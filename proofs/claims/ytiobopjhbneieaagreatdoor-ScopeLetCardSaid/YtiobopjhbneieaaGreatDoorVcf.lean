/- P. -/
import Derived.Test.YtiobopjhbneieaaGreatDoorVce
set_option linter.unusedSimpArgs false
set_option linter.unusedVariables false
set_option linter.unusedSectionVars false
noncomputable section
set_option maxRecDepth 1000000
namespace Go.Vam
open Go.Proofs Go.Proofs.Tryz
section
variable{L:Nat}{may:List UInt8→Bool}{gn:List UInt8→Int × Bool}
end
section
variable{L:Nat}{W:List Wd}(hW:Ng W)
end
section
variable{L:Nat}{W:List Wd}{may:List UInt8→Bool}{gr:List UInt8→Int × Bool}
end
section
variable{L:Nat}{W:List Wd}{may:List UInt8→Bool}{gr:List UInt8→Int × Bool}
end
def Ig(b:UInt8):Bool:=De b && !(b == 47)
theorem Agj(b:UInt8):Ig b=true↔((97:Int)≤(b.toNat:Int)∧(b.toNat:Int)≤122)∨((65:Int)≤(b.toNat:Int)∧(b.toNat:Int)≤90)∨((48:Int)≤(b.toNat:Int)∧(b.toNat:Int)≤57)∨(b.toNat:Int)=46∨(b.toNat:Int)=95∨(b.toNat:Int)=45:=by unfold Ig;rw[Bool.and_eq_true,Ag9,Bool.not_eq_true',beq_eq_false_iff_ne,ne_eq,← UInt8.toNat_inj];simp only[UInt8.toNat_ofNat];omega
section
variable{cf:Ah}{N:Nat}(hK:∀f,Ba (cf f))
include hK in
theorem A2i(b:UInt8):Ao (run C1 cf N) 52 [.int .u8 (b.toNat:Int)] (.bool (Ig b)):=by
 refine Cg hK func52 bdy rfl rfl rfl (Bda _) ?_;simp only[Aa,Ac,Lx,Afx,En,Ab,decide_eq_true_eq,beq_iff_eq];have key:∀{x:Bool},(x=true↔Ig b=true)→Ck (.bool (Ig b)) [.bool x]:=fun {x} h=>Qk (by rw[Bool.eq_iff_iff.2 h])
 have hn:=Agj b
 repeat' split
 all_goals (refine key ?_;rw[hn];simp only[beq_iff_eq,true_iff];try omega)
def txR(R:Option (List UInt8 × Nat)):D:=match R with
 |some (t,e)=> .tup [.str t,.int .i64 (e:Int),.bool true]
 |none=> .tup [.str [],.int .i64 0,.bool false]
variable(h178:∀b:UInt8,Ao cf 178 [.int .u8 (b.toNat:Int)] (.int .i64 (Gv Ic b)))
end
section
variable{cf:Ah}{N:Nat}{LQ:List D→List (List D)→Prop}{F:Nat→List D→Prop}
variable(h115:∀b:UInt8,Ao cf 52 [.int .u8 (b.toNat:Int)] (.bool (Ig b)))
variable(hK:∀f,Ba (cf f))
 (h116:∀(s:List UInt8) (i:Nat),i≤s.length→s.length<900→Ao cf 116 [.str s,.int .i64 (i:Int)] (txR ((Dv (s.length - i+1) (s.drop i)).map fun p=>(p.1,i+p.2))))
end
def Mc:List UInt8→Int→Option Int
 | [],n=>some n
 |c::r,n=>if c.toNat<48 then none else if 57<c.toNat then none
  else if((9223372036854775807 - ((c.toNat:Int) - 48)).tdiv 10)<n then none else Mc r (n*10+((c.toNat:Int) - 48))
def Ab3(t:List UInt8)(n b:Int):Bool:=t == [] || (if 1<t.length then(t.head? == some 48 || decide (b<n))else decide (b<n))
def grN(t:List UInt8)(b:Int):Int × Bool:=match Mc t 0 with
 |none=>(0,false)
 |some n=>if Ab3 t n b then(0,false)else(n,true)
section
variable{cf:Ah}{N:Nat}(hK:∀f,Ba (cf f))
include hK in
theorem A26(l:List (List UInt8))(g:Gr)(t:List UInt8)(hl:l.length<1000)(hN:1000<N):Ao (run C1 cf N) 21 [.sl (Lf l) g,.str t] (.int .i64 (Ja l t)):=by
 refine Cg hK func21 bdy rfl rfl rfl (Bel _ _) ?_;refine wp_loop (fun m a ds=>a=0∧∃(i:Nat) (x:D),ds= [x,.int .i64 (i:Int)]∧i≤l.length∧m=l.length - i∧∀j,j<i→l[j]?≠some t) l.length (by omega) ⟨rfl,0,_,rfl,Nat.zero_le _,rfl,fun j hj=>absurd hj (Nat.not_lt_zero j)⟩ ?_
 rintro m a ds ⟨rfl,i,x,rfl,hi,rfl,hno⟩;simp only[Ca,hv,tails,List.tail_cons,List.headD_cons,Aa,Ahm,Da,Vz,Ac];by_cases hlt:i<l.length
 ·obtain⟨u,hu⟩:∃u,l[i]?=some u:=⟨_,List.getElem?_eq_getElem hlt⟩;simp only[hlt,decide_true,if_true,Yc hu,Tc,Di,Aa,Ac];cases he:u == t with
  |true=>
   simp only[if_true,Ab];have:Ja l t=(i:Int):=by
    unfold Ja;have h1:l.findIdx? (· == t)=some i:=by
     rw[List.findIdx?_eq_some_iff_getElem];refine⟨hlt,?_,fun j hj=>?_⟩
     ·have:=List.getElem?_eq_getElem hlt;rw[hu]at this;cases this;exact he
     ·have hjl:j<l.length:=by omega
      have:=hno j hj;rw[List.getElem?_eq_getElem hjl]at this;simpa using this
    rw[h1]
   rw[this];exact Bf rfl
  |false=>
   simp only[BF,Bt,wrapN (show i<1000000 by omega),Az]
   refine⟨_,?_,rfl,i+1,x,rfl,hlt,rfl,fun j hj=>?_⟩
   ·omega
   ·rcases Nat.lt_or_ge j i with h|h
    ·exact hno j h
    ·have:j=i:=by omega
     subst this;rw[hu];intro hc;cases hc;simp at he
 ·simp only[hlt,decide_false,BF,Ab];have:Ja l t= -1:=by
   unfold Ja;have h1:l.findIdx? (· == t)=none:=by
    rw[List.findIdx?_eq_none_iff];intro u hu;obtain⟨j,hj⟩:=List.mem_iff_getElem?.1 hu;have hjl:=(List.getElem?_eq_some_iff.1 hj).1;have:=hno j (by omega)
    rw[hj]at this;simpa using this
   rw[h1]
  rw[this];exact Bf rfl
include hK in
theorem A3u:Ao (run C1 cf N) 22 [] (.sl (Lf Bl) .none):=by refine Cg hK func22 bdy rfl rfl rfl Bfi ?_;rw[Ab];exact⟨rfl,_,rfl,rfl⟩
include hK in
theorem A09(t:List UInt8)(may:List UInt8→Bool)(h221:Ao cf 20 [.str t] (.bool (may t)))(h223:Ao cf 22 [] (.sl (Lf Bl) .none))(h222:Ao cf 21 [.sl (Lf Bl) .none,.str t] (.int .i64 (Ja Bl t))):
  Ao (run C1 cf N) 7 [.str t] (.bool (may t && (!(t == [45]) && !Bl.contains t))):=by
 refine Cg hK func7 bdy rfl rfl rfl (Bdp _) ?_;refine Aw rfl h221 ?_;simp only[Ac];cases may t with
 |false=>simp only[BF,Ab,Bool.false_and];exact Bf rfl
 |true=>
  simp only[if_true,Bool.true_and];refine Aw rfl h223 ?_;refine Aw rfl h222 ?_;simp only[Aa,Da,Ac];rw[show decide (Ja Bl t<0)=!Bl.contains t from by
   rw[← Yy];by_cases h:Ja Bl t<0
   ·simp[h]
   ·have:0≤Ja Bl t:=by omega
    simp[this]]
  cases Bl.contains t with
  |true=>simp only[Bool.not_true,BF,Ab,Bool.and_false];exact Bf rfl
  |false=>simp only[Bool.not_false,if_true,Ag7,Ab,Bool.and_true];exact Bf rfl
end
theorem Bd1(x0:D):Hd C1 111 f111 (bd f111) [] [.dyn x0,.lit (.func 204 [] [])] []=
 .call 140 [] [x0,(.func 204 [] [])] [] fun x1=>
 .bind (.bin .geq 3 x1 i0) fun x2=>
 .leaf [x2] []:=by kernel_rfl
def A52:Code:=match f140.body with
 |some c=>c
 |none=> .skip
theorem As6:f140.body=some A52:=by kernel_rfl
theorem Bfu(x0:D):Hd C1 140 f140 A52 [] [.dyn x0,.lit (.func 204 [] [])] []=
 .bind (.ln 23 x0) fun x1=>
 .loop 0 0 [i0,i0] (Ca [fun x2=>
  .bind (.bin .lss 3 (hv x2 1) x1) fun x3=>
  .ite x3 (
  .bind (.ia 23 x0 (hv x2 1)) fun x4=>
  .bind (.ld 9 x4) fun x5=>
  .call 204 [] [x5] [] fun x6=>
  .ite x6 (
   .leaf [(hv x2 1)] []) (
   .bind (.bin .add 3 (hv x2 1) i1) fun x7=>
   .again 0 0 [(hv x2 0),x7])) (
  .leaf [.int .i64 (-1)] [])]):=by kernel_rfl
theorem Beg(x0:D):Hd C1 203 f203 (bd f203) [] [.dyn x0] []=
 .call 226 [] [x0,.str [47]] [] fun x1=>
 .leaf [x1] []:=by kernel_rfl
def Bd:List UInt8→List (List UInt8)
 | []=> [[]]
 |c::r=>if c == 47 then[]::Bd r else match Bd r with
  | []=> [[c]]
  |p::ps=>(c::p)::ps
theorem Gj:∀t:List UInt8,(Bd t).length≤t.length+1∧Bd t≠ []
 | []=>by simp[Bd]
 |c::r=>by
  have h:=Gj r;unfold Bd;split
  ·simp;omega
  ·split
   ·rename_i h0;exact absurd h0 h.2
   ·rename_i p ps h0;rw[h0]at h;simp at h ⊢;omega
theorem Ni:∀(t:List UInt8) (p:List UInt8) (b:UInt8),p∈Bd t→b∈p→b∈t
 | [],p,b,h,hb=>by simp[Bd]at h;subst h;simp at hb
 |c::r,p,b,h,hb=>by
  unfold Bd at h;split at h
  ·rcases List.mem_cons.1 h with rfl|h
   ·simp at hb
   ·exact List.mem_cons_of_mem _ (Ni r p b h hb)
  ·split at h
   ·rename_i h0;exact absurd h0 (Gj r).2
   ·rename_i q qs h0;rcases List.mem_cons.1 h with rfl|h
    ·rcases List.mem_cons.1 hb with rfl|hb
     ·simp
     ·exact List.mem_cons_of_mem _ (Ni r q b (by rw[h0];simp) hb)
    ·exact List.mem_cons_of_mem _ (Ni r p b (by rw[h0];simp[h]) hb)
def At4(p:List UInt8):Bool:=p == [] || (p == [46] || p == [46,46])
def Cz(p:List UInt8):Bool:=At4 p || p.any fun b=>!Ig b
def kwB(t:List UInt8):Bool:=t == [114,117,108,101] || (t == [105,110] || (t == [111,117,116] || t == [97,102,116,101,114]))
def Aan(t:List UInt8):Bool:=!kwB t && (decide (t.length≤40) && !(Bd t).any Cz)
section
variable{cf:Ah}{N:Nat}(hK:∀f,Ba (cf f))
def Aid(l:List (List UInt8))(f:List UInt8→Bool):Int:=match l.findIdx? f with
 |some i=>(i:Int)
 |none=> -1
theorem Atv(l:List (List UInt8))(f:List UInt8→Bool):decide (0≤Aid l f)=l.any f:=by
 unfold Aid;cases h:l.findIdx? f with
 |none=>
  rw[List.findIdx?_eq_none_iff]at h;have:l.any f=false:=by rw[List.any_eq_false];intro x hx;simp[h x hx]
  rw[this];rfl
 |some i=>obtain⟨h1,h2,_⟩:=List.findIdx?_eq_some_iff_getElem.1 h;have:l.any f=true:=List.any_eq_true.2 ⟨_,List.getElem_mem h1,h2⟩;rw[this];simp
include hK in
theorem A1v(l:List (List UInt8))(g:Gr)(hl:l.length<1500)(hN:1500<N)(h230:∀p∈l,Ao cf 204 [.str p] (.bool (Cz p))):Ao (run C1 cf N) 140 [.sl (Lf l) g,.func 204 [] []] (.int .i64 (Aid l Cz)):=by
 refine run_pure (C:=C1) hK func140 As6 rfl rfl rfl (hs:= []) (args:= [.dyn _,.lit _]) rfl ?_;rw[show C1.P=prog from rfl,Bfu];simp only[Aa,Ahm];refine wp_loop (fun m a ds=>a=0∧∃(i:Nat) (x:D),ds= [x,.int .i64 (i:Int)]∧i≤l.length∧m=l.length - i∧∀j,(h:j<l.length)→j<i→Cz l[j]=false) l.length (by omega) ⟨rfl,0,_,rfl,Nat.zero_le _,rfl,fun j _ hj=>absurd hj (Nat.not_lt_zero j)⟩ ?_
 rintro m a ds ⟨rfl,i,x,rfl,hi,rfl,hno⟩;simp only[Ca,hv,tails,List.tail_cons,List.headD_cons,Aa,Da,Vz,Ac];by_cases hlt:i<l.length
 ·have hu:l[i]?=some l[i]:=List.getElem?_eq_getElem hlt;have hmem:l[i]∈l:=List.getElem_mem hlt;have hb1:Cz l[i]=Cz l[i]:=rfl;generalize hg:l[i]=u at hu hmem hb1;simp only[hlt,decide_true,if_true,Yc hu,Tc];refine Aw rfl (h230 u hmem) ?_;simp only[Ac];cases he:Cz u with
  |true=>
   simp only[if_true,Ab];have:Aid l Cz=(i:Int):=by
    unfold Aid;have h1:l.findIdx? Cz=some i:=by
     rw[List.findIdx?_eq_some_iff_getElem];refine⟨hlt,by rw[hg,he],fun j hj=>?_⟩
     rw[hno j (by omega) hj]
     simp
    rw[h1]
   rw[this];exact Bf rfl
  |false=>
   simp only[BF,Bt,wrapN (show i<1000000 by omega),Aa,Az]
   refine⟨_,?_,rfl,i+1,x,rfl,hlt,rfl,fun j hjl hj=>?_⟩
   ·omega
   ·rcases Nat.lt_or_ge j i with h|h
    ·exact hno j hjl h
    ·have:j=i:=by omega
     subst this;rw[hg,he]
 ·simp only[hlt,decide_false,BF,Ab];have:Aid l Cz= -1:=by
   unfold Aid;have h1:l.findIdx? Cz=none:=by rw[List.findIdx?_eq_none_iff];intro u hu;obtain⟨j,hj,rfl⟩:=List.mem_iff_getElem.1 hu;exact hno j hj (by omega)
   rw[h1]
  rw[this];exact Bf rfl
include hK in
theorem Ayu(l:List (List UInt8))(g:Gr)(h149:Ao cf 140 [.sl (Lf l) .none,.func 204 [] []] (.int .i64 (Aid l Cz))):Ao (run C1 cf N) 111 [.sl (Lf l) g,.func 204 [] []] (.bool (l.any Cz)):=by refine run_pure (C:=C1) hK func111 bdy rfl rfl rfl (hs:= []) (args:= [.dyn _,.lit _]) rfl ?_;rw[show C1.P=prog from rfl,Bd1];refine Aw rfl h149 ?_;simp only[Aa,Lx,Atv,Ab];exact Bf rfl
include hK in
theorem Ayy(p:List UInt8)(h265:Ao cf 236 [.str p,.func 237 [] []] (.bool (p.any fun b=>!Ig b))):Ao (run C1 cf N) 204 [.str p] (.bool (Cz p)):=by
 refine Cg hK func204 bdy rfl rfl rfl (Bdo _) ?_;unfold Cz At4;simp only[Aa,Di,Ac];cases h1:p == []with
 |true=>simp only[if_true,Ab,Bool.true_or];exact Bf rfl
 |false=>
 simp only[BF,Bool.false_or];cases h2:p == [46]with
 |true=>simp only[if_true,Ab,Bool.true_or];exact Bf rfl
 |false=>
 simp only[BF,Bool.false_or];cases h3:p == [46,46]with
 |true=>simp only[if_true,Ab,Bool.true_or];exact Bf rfl
 |false=>simp only[BF,Bool.false_or];refine Aw rfl h265 ?_;simp only[Ab];exact Bf rfl
include hK in
theorem Ayk(t:List UInt8)(h255:Ao cf 226 [.str t,.str [47]] (.sl (Lf (Bd t)) .none)):Ao (run C1 cf N) 203 [.str t] (.sl (Lf (Bd t)) .none):=by
 refine Cg hK func203 bdy rfl rfl rfl (Beg _) ?_;refine Aw rfl h255 ?_;simp only[Ab];refine⟨?_,[_],rfl,rfl⟩;simp only[D8];rw[Bool.false_or,Pj];intro i r j d hi hj;simp only[Lf,List.getElem?_map,Option.map_eq_some_iff]at hi;obtain⟨u,_,rfl⟩:=hi
 match j,hj with
 |0,hj=>simp at hj;subst hj;rfl
 |_+1,hj=>simp at hj
include hK in
theorem A4m(t:List UInt8)(h229:Ao cf 203 [.str t] (.sl (Lf (Bd t)) .none))(h131:Ao cf 111 [.sl (Lf (Bd t)) .none,.func 204 [] []] (.bool ((Bd t).any Cz))):Ao (run C1 cf N) 163 [.str t] (.bool (Aan t)):=by
 refine Cg hK func163 bdy rfl rfl rfl (Bdf _) ?_;unfold Aan kwB;simp only[Aa,Di,Ac];cases h1:t == [114,117,108,101]with
 |true=>simp only[if_true,Ab,Bool.true_or,Bool.not_true,Bool.false_and];exact Bf rfl
 |false=>
 simp only[BF,Bool.false_or];cases h2:t == [105,110]with
 |true=>simp only[if_true,Ab,Bool.true_or,Bool.not_true,Bool.false_and];exact Bf rfl
 |false=>
 simp only[BF,Bool.false_or];cases h3:t == [111,117,116]with
 |true=>simp only[if_true,Ab,Bool.true_or,Bool.not_true,Bool.false_and];exact Bf rfl
 |false=>
 simp only[BF,Bool.false_or];cases h4:t == [97,102,116,101,114]with
 |true=>simp only[if_true,Ab,Bool.not_true,Bool.false_and];exact Bf rfl
 |false=>
 simp only[BF,Bool.not_false,Bool.true_and,Fa,Afx,Ac];rw[show decide ((t.length:Int)≤40)=decide (t.length≤40)from by simp only[decide_eq_decide];omega]
 by_cases h5:t.length≤40
 ·simp only[h5,decide_true,if_true,Bool.true_and];refine Aw rfl h229 ?_;refine Aw rfl h131 ?_;simp only[Aa,K5,Ab];exact Bf rfl
 ·simp only[h5,decide_false,BF,Bool.false_and,Ab];exact Bf rfl
end
variable{L:Nat}{may:List UInt8→Bool}{gn:List UInt8→Int × Bool}
theorem Ak0{item:PS→Option (Qy × PS)}(hi:SmG item):∀(m:Nat) (x:Qy) (s:PS) (y:Qy) (s':PS),Sm s→Kw L item m x s=some (y,s')→Sm s'
 |0,x,s,y,s',_,h=>by simp[Kw]at h
 |m+1,x,s,y,s',hS,h=>by
  unfold Kw at h;split at h
  ·cases h;exact hS
  ·split at h
   ·cases h
   ·rename_i z s2 hz;exact Ak0 hi m _ s2 y s' (hi _ _ _ hS.tail hz) h
theorem Arj{q:PS→Option (Qy × PS)}(hq:SmG q)(a:Nat)(w:List UInt8):SmG (Q7 L gn q a w):=by
 intro s x s' hS h;unfold Q7 at h;split at h
 ·split at h
  ·cases h
  ·rename_i y s1 hy;split at h
   ·cases h;exact(Sm.must (hq _ _ _ hS hy)).num
   ·cases h;exact hq _ _ _ hS hy
 split at h
 ·split at h
  ·cases h
  ·rename_i y s1 hy;cases h;exact hq _ _ _ hS hy
 split at h
 ·split at h
  ·cases h
  ·rename_i y s1 hy;split at h
   ·cases h
   ·rename_i z s2 hz;cases h;exact hq _ _ _ (Sm.must (hq _ _ _ hS hy)) hz
 split at h
 ·split at h
  ·cases h
  ·rename_i y s1 hy;cases h;exact hq _ _ _ (Sm.must (Sm.next hS)) hy
 split at h
 ·split at h
  ·cases h
  ·rename_i y s1 hy;cases h;exact hq _ _ _ (Sm.must (Sm.next hS)) hy
 ·cases h;exact hS
theorem Axi:∀n:Nat,SmG (Fe L may gn n)∧SmG (Uv L may gn n)∧SmG (Jv L may gn n)∧∀a,SmG (fun s=>Py L may gn n s a)
 |0=>⟨fun s x s' _ h=>by simp[Fe]at h,fun s x s' _ h=>by simp[Uv]at h,fun s x s' _ h=>by simp[Jv]at h,fun a s x s' _ h=>by simp[Py]at h⟩
 |n+1=>by
  obtain⟨h1,h2,h3,h4⟩:=Axi n;refine⟨fun s x s' hS h=>?_,fun s x s' hS h=>?_,fun s x s' hS h=>?_,fun a s x s' hS h=>?_⟩
  ·unfold Fe at h;split at h
   ·split at h
    ·cases h
    ·rename_i y s4 hy;split at h
     ·cases h
     ·rename_i z s6 hz;cases h;exact h1 _ _ _ (Sm.must (h1 _ _ _ (Sm.must (Sm.next (Sm.must hS))) hy)) hz
   ·exact h2 _ _ _ hS h
  ·unfold Uv at h;split at h
   ·cases h
   ·rename_i y s1 hy;exact Ak0 h3 _ _ _ _ _ (h3 _ _ _ hS hy) h
  ·unfold Jv at h;split at h
   ·cases h;exact Sm.next (Sm.must hS)
   split at h
   ·cases h;exact Sm.next (Sm.must hS)
   split at h
   ·split at h
    ·cases h
    ·rename_i y s2 hy;cases h;exact Sm.must (h1 _ _ _ (Sm.must hS) hy)
   split at h
   ·exact h4 _ _ _ _ hS h
   ·cases h;exact Sm.next hS
  ·simp only[Py]at h;split at h
   ·cases h
   ·rename_i y s1 hy;cases h;exact Sm.must (Arj h1 _ _ _ _ _ (Sm.must hS.tail) hy)
def mu(s:PS):Nat:=match s.bad with
 |some _=>0
 |none=>s.ws.length
theorem Jr(s:PS)(K:Int)(tx:List UInt8):mu (A8 L s K tx)≤mu s:=by
 unfold A8;split
 ·unfold mu;cases s.bad with
  |none=>simp
  |some b=>simp
 ·unfold Hf mu;cases s.bad<;>simp
theorem Ql(s:PS)(K:Int)(m:List UInt8→Bool):mu (Bb L s K m).2≤mu s:=by
 unfold Bb;split
 ·unfold mu;cases s.bad<;>simp
 ·unfold Hf mu;cases s.bad<;>simp
theorem Apa{s:PS}{K:Int}{tx:List UInt8}(hK:K≠4)(h:Ry L s K tx=true):s.bad=none∧∃w ws,s.ws=w::ws:=by
 unfold Ry at h;rw[Bool.and_eq_true]at h;refine⟨by simpa using h.1,?_⟩
 cases hs:s.ws with
 |cons w ws=>exact⟨w,ws,rfl⟩
 |nil=>rw[hs]at h;simp[Cn,Nq]at h;exact absurd h.2.1.symm hK
theorem Axf{s:PS}{K:Int}{tx:List UInt8}(hK:K≠4)(h:Ry L s K tx=true):mu (A8 L s K tx)+1≤mu s:=by obtain⟨h1,w,ws,h2⟩:=Apa hK h;unfold A8;rw[if_pos h];unfold mu;simp[h1,h2]
theorem App{s:PS}(hb:s.bad=none)(h:s.ws≠ []):mu ⟨s.ws.tail,s.bad⟩+1≤mu s:=by
 unfold mu;rw[hb];cases hs:s.ws with
 |nil=>exact absurd hs h
 |cons w ws=>simp
def Df:Qy→Nat
 | .bin _ _ x y=>1+max (Df x) (Df y)
 | .lt _ _ x y=>1+max (Df x) (Df y)
 | .un _ _ _ _ x=>1+Df x
 |_=>1
theorem Xv(x:Qy):1≤Df x:=by cases x<;>simp[Df]<;>omega
def Tot(f:PS→Option (Qy × PS))(s:PS):Prop:=∃x s1,f s=some (x,s1)∧mu s1≤mu s∧Df x+mu s1≤mu s+1
theorem Ata{s:PS}(h:Hz L s≠0):s.bad=none∧s.ws≠ []:=by
 have key:∀{K:Int} {tx:List UInt8},K≠4→Ry L s K tx=true→s.bad=none∧s.ws≠ []:=fun hK hb=>by obtain⟨h1,w,ws,h2⟩:=Apa hK hb;exact⟨h1,by simp[h2]⟩
 unfold Hz at h;split at h
 ·rename_i hb;exact key (by decide) hb
 split at h
 ·rename_i hb;exact key (by decide) hb
 split at h
 ·rename_i hb;exact key (by decide) hb
 ·exact absurd rfl h
theorem Aft{item:PS→Option (Qy × PS)}{M:Nat}(hi:∀s,mu s+1≤M→Tot item s):∀(m:Nat) (x:Qy) (s:PS) (K:Nat),mu s<m→mu s≤M→Df x+mu s≤K→∃y s',Kw L item m x s=some (y,s')∧mu s'≤mu s∧Df y+mu s'≤K
 |0,x,s,K,h,_,_=>absurd h (Nat.not_lt_zero _)
 |m+1,x,s,K,h,hM,hK=>by
  unfold Kw;by_cases hs:Hz L s=0
  ·rw[if_pos hs];exact⟨x,s,rfl,Nat.le_refl _,hK⟩
  ·rw[if_neg hs];obtain⟨h1,h2⟩:=Ata hs;have h3:=App h1 h2;obtain⟨y,s2,h4,h5,h8⟩:=hi ⟨s.ws.tail,s.bad⟩ (by omega)
   rw[h4];have hx:=Xv x;obtain⟨z,s3,h6,h7,h9⟩:=Aft hi m (.bin (Hz L s) (Cn L s.ws).at_ x y) s2 K (by omega) (by omega) (by simp only[Df];omega)
   exact⟨z,s3,h6,by omega,h9⟩
theorem Am3{q:PS→Option (Qy × PS)}{M:Nat}(hq:∀s,mu s≤M→Tot q s)(a:Nat)(w:List UInt8)(s:PS)(hs:mu s≤M):∃x s1,Q7 L gn q a w s=some (x,s1)∧mu s1≤mu s∧Df x+mu s1≤mu s+2:=by
 unfold Q7;split
 ·obtain⟨y,s1,h1,h2,h5⟩:=hq s hs;rw[h1];simp only;split
  ·refine⟨_,_,rfl,?_⟩;have h3:=Jr (L:=L) s1 3 [44];have h4:=Ql (L:=L) (A8 L s1 3 [44]) 1 (fun t=>(gn t).2);unfold Zk;simp only[Df];omega
  ·exact⟨_,_,rfl,h2,by simp only[Df];omega⟩
 split
 ·obtain⟨y,s1,h1,h2,h5⟩:=hq s hs;rw[h1];exact⟨_,_,rfl,h2,by simp only[Df];omega⟩
 split
 ·obtain⟨y,s1,h1,h2,h5⟩:=hq s hs;rw[h1];have h3:=Jr (L:=L) s1 3 [44];obtain⟨z,s2,h4,h6,h7⟩:=hq (A8 L s1 3 [44]) (by omega)
  simp only;rw[h4];exact⟨_,_,rfl,by omega,by simp only[Df];omega⟩
 split
 ·have h3:=Jr (L:=L) (Bb L s 1 Jd).2 3 [44];have h4:=Ql (L:=L) s 1 Jd;obtain⟨y,s1,h1,h2,h5⟩:=hq (A8 L (Bb L s 1 Jd).2 3 [44]) (by omega)
  rw[h1];exact⟨_,_,rfl,by omega,by simp only[Df];omega⟩
 split
 ·have h3:=Jr (L:=L) (Bb L s 2 (fun _=>true)).2 3 [44];have h4:=Ql (L:=L) s 2 (fun _=>true);obtain⟨y,s1,h1,h2,h5⟩:=hq (A8 L (Bb L s 2 (fun _=>true)).2 3 [44]) (by omega)
  rw[h1];exact⟨_,_,rfl,by omega,by simp only[Df];omega⟩
 ·exact⟨_,_,rfl,Nat.le_refl _,by simp only[Df];omega⟩
theorem Aoi:∀n:Nat,(∀s,mu s<1900→4*mu s+4≤n→Tot (Fe L may gn n) s)∧(∀s,mu s<1900→4*mu s+3≤n→Tot (Uv L may gn n) s)∧(∀s,mu s<1900→4*mu s+2≤n→Tot (Jv L may gn n) s)∧(∀(a:Nat) (s:PS),mu s<1900→Ij L s=true→4*mu s+1≤n→Tot (fun s=>Py L may gn n s a) s)
 |0=>⟨fun s _ h=>by omega,fun s _ h=>by omega,fun s _ h=>by omega,fun a s _ _ h=>by omega⟩
 |n+1=>by
  obtain⟨h1,h2,h3,h4⟩:=Aoi n;refine⟨fun s hs hn=>?_,fun s hs hn=>?_,fun s hs hn=>?_,fun a s hs hc hn=>?_⟩
  ·unfold Tot Fe;by_cases hl:Ry L s 1 Ib=true
   ·rw[if_pos hl];have e1:=Axf (by decide) hl
    have e2:=Ql (L:=L) (A8 L s 1 Ib) 1 may;have e3:=Jr (L:=L) (Bb L (A8 L s 1 Ib) 1 may).2 3 [61];obtain⟨x,s4,q1,q2,q5⟩:=h1 (A8 L (Bb L (A8 L s 1 Ib) 1 may).2 3 [61]) (by omega) (by omega)
    rw[q1];have e4:=Jr (L:=L) s4 1 Vx;obtain⟨y,s6,q3,q4,q6⟩:=h1 (A8 L s4 1 Vx) (by omega) (by omega)
    simp only;rw[q3];exact⟨_,_,rfl,by omega,by simp only[Df];omega⟩
   ·rw[if_neg hl];exact h2 s hs (by omega)
  ·unfold Tot Uv;obtain⟨x,s1,q1,q2,q5⟩:=h3 s hs (by omega)
   rw[q1];obtain⟨y,s2,q3,q4,q6⟩:=Aft (L:=L) (M:=mu s) (fun s' h'=>h3 s' (by omega) (by omega)) 1900 x s1 (mu s+1) (by omega) q2 q5
   exact⟨y,s2,q3,by omega,q6⟩
  ·unfold Tot Jv;split
   ·refine⟨_,_,rfl,?_⟩;have e1:=Jr (L:=L) s 3 [58];have e2:=Ql (L:=L) (A8 L s 3 [58]) 1 may;simp only[Df];omega
   split
   ·refine⟨_,_,rfl,?_⟩;have e1:=Jr (L:=L) s 3 [36];have e2:=Ql (L:=L) (A8 L s 3 [36]) 1 may;simp only[Df];omega
   split
   ·rename_i hp;have e1:=Axf (by decide) hp
    obtain⟨x,s2,q1,q2,q3⟩:=h1 (A8 L s 3 [40]) (by omega) (by omega)
    rw[q1];have e2:=Jr (L:=L) s2 3 [41];exact⟨_,_,rfl,by omega,by omega⟩
   split
   ·exact h4 _ s hs (by assumption) (by omega)
   ·have:=Ql (L:=L) s 1 may;exact⟨_,_,rfl,this,by simp only[Df];omega⟩
  ·unfold Tot;simp only[Py];have hb:s.bad=none∧s.ws≠ []:=by
    unfold Ij at hc;rw[Bool.and_eq_true]at hc;refine⟨by simpa using hc.1,fun h0=>?_⟩
    rw[h0]at hc;simp[Cn,Nq]at hc
   have e1:=App hb.1 hb.2;have e2:=Jr (L:=L) ⟨s.ws.tail,s.bad⟩ 3 [40];obtain⟨x,s1,q1,q2,q3⟩:=Am3 (L:=L) (gn:=gn) (M:=mu s - 1) (fun s' h'=>h1 s' (by omega) (by omega)) a (Cn L s.ws).tx (A8 L ⟨s.ws.tail,s.bad⟩ 3 [40]) (by omega)
   rw[q1];have e3:=Jr (L:=L) s1 3 [41];exact⟨_,_,rfl,by omega,by omega⟩
theorem Ajv:∀(r:List UInt8) (b:UInt8),b∈r.take (D7 r)→De b=true
 | [],b,h=>by simp[D7]at h
 |c::r,b,h=>by
  unfold D7 at h;split at h
  ·rename_i hc;rw[show 1+D7 r=D7 r+1 from Nat.add_comm _ _,List.take_succ_cons]at h;rcases List.mem_cons.1 h with rfl|h
   ·exact hc
   ·exact Ajv r b h
  ·simp at h
theorem Axd{s:List UInt8}{i e:Nat}{w:Wd}(hs:s.length<900)(h:Fq s i=some (w,e)):A3f w:=by
 unfold Fq at h;split at h
 ·cases h;refine⟨fun _=>⟨?_,Ajv _⟩,fun h=>by cases h⟩
  simp only[List.length_take,List.length_drop];omega
 ·split at h
  ·cases h
  ·split at h
   ·simp only[Option.map_eq_some_iff,Prod.mk.injEq]at h;obtain⟨⟨t,k⟩,_,rfl,_⟩:=h;exact⟨(fun h=>by cases h),(fun h=>by cases h)⟩
   ·split at h
    ·rename_i c _ _ hc;cases h;exact⟨(fun h=>by cases h),fun _=>⟨c,List.contains_iff_mem.1 hc,rfl⟩⟩
    ·cases h
theorem Api{s:List UInt8}(hs:s.length<900):∀(n i:Nat) (ws:List Wd),M6 n s i= .ok ws→ws.length≤s.length - i∧∀w∈ws,A3f w
 |0,i,ws,h=>by simp[M6]at h
 |n+1,i,ws,h=>by
  unfold M6 at h;split at h
  ·rename_i hlt;cases hw:Fq s i with
   |none=>rw[hw]at h;cases h
   |some p=>
    obtain⟨w,e⟩:=p;rw[hw]at h;simp only at h;have hadv:=Mq hlt hw;cases hr:M6 n s (e+Db false (s.drop e))with
    |error j=>rw[hr]at h;cases h
    |ok l=>
     rw[hr]at h;cases h;obtain⟨h1,h2⟩:=Api hs n _ l hr;refine⟨by simp only[List.length_cons];omega,fun v hv=>?_⟩
     rcases List.mem_cons.1 hv with rfl|hv
     ·exact Axd hs hw
     ·exact h2 v hv
  ·cases h;exact⟨Nat.zero_le _,fun w hw=>by cases hw⟩
theorem Awq{s:List UInt8}(hs:s.length<900){ws:List Wd}(h:Y8 s= .ok ws):ws.length≤s.length∧Ng ws:=by obtain⟨h1,h2⟩:=Api hs _ _ _ h;exact⟨by omega,by omega,h2⟩
theorem Ng.sm{W:List Wd}(h:Ng W)(b:Option Nat):Sm ⟨W,b⟩:=fun w hw hk=>(h.2 w hw).1 hk
def L9:Qy→List Qy
 | .bin _ _ x y=> [x,y]
 | .lt _ _ x y=> [x,y]
 | .un _ _ _ _ x=> [x]
 |_=> []
def dmax(l:List Qy):Nat:=l.foldl (fun a y=>max a (Df y)) 0
theorem Ms(x:Qy):Df x=dmax (L9 x)+1:=by cases x<;>simp[Df,L9,dmax]<;>omega
theorem Aff(l:List Qy)(y:Qy):dmax (l++ [y])=max (dmax l) (Df y):=by simp[dmax]
theorem Adv(x:Qy):∃(k:Int) (a:Nat) (r:Bool) (ln nm:List UInt8) (n:Int),Br x=qc k a r ln nm n (.sl ((L9 x).map Br) .none):=by cases x<;>exact⟨_,_,_,_,_,_,rfl⟩
theorem Aco(x:Qy):(L9 x).length≤2:=by cases x<;>simp[L9]
theorem Ad0:∀x:Qy,Df x<1000000→dmax (L9 x)<1000000:=fun x h=>by rw[Ms]at h;omega
theorem Ahj(rows:List (List D))(g:Gr):(Av.ln 28 (.sl rows g)).sem prog=some (.int .i64 (rows.length:Int)):=by simp only[Av.sem,Ny,A6t,Et]
theorem Amw{l:List Qy}{g:Gr}{i:Nat}{y:Qy}(h:l[i]?=some y):(Av.ia 28 (.sl (l.map Br) g) (.int .i64 (i:Int))).sem prog=some (.eptr (Br y)):=by
 have hn:E5 (.int .i64 (i:Int))=some i:=by simp[E5]
 have hr:(l.map Br)[i]?=some (Br y):=by simp[h]
 simp only[Av.sem,Cf,hn,A6t,hr,Wp,Su,if_true,Et]
theorem Anv(x:Qy):(Av.ld 30 (.eptr (Br x))).sem prog=some (.agg (Br x)):=by show Dk prog 30 (Br x) 0=_;have hl:=Su x;unfold Dk;simp[Wp,Bb3,hl,List.take_of_length_le]
theorem Al7{k:Int}{a:Nat}{r:Bool}{ln nm:List UInt8}{n:Int}{g:D}:gc (.agg (qc k a r ln nm n g)) 0= .int .i64 k∧gc (.agg (qc k a r ln nm n g)) 1= .int .i64 (a:Int)∧gc (.agg (qc k a r ln nm n g)) 2= .bool r∧gc (.agg (qc k a r ln nm n g)) 3= .str ln∧gc (.agg (qc k a r ln nm n g)) 4= .str nm∧gc (.agg (qc k a r ln nm n g)) 5= .int .i64 n∧gc (.agg (qc k a r ln nm n g)) 6=g:=⟨rfl,rfl,rfl,rfl,rfl,rfl,rfl⟩
theorem A2a{d e:D}(h:Jf d=some e):Eb Jf [d]=some [e]:=by simp[Eb,h]
section
variable{cf:Ah}{N:Nat}(hK:∀f,Ba (cf f))
include hK in
theorem A8t(x:Qy)(hx:Df x<1000000)(hN:1000<N)(h15:∀y∈L9 x,Ao cf 18 [.agg (Br y)] (.int .i64 (Df y:Int))):Ao (run C1 cf N) 18 [.agg (Br x)] (.int .i64 (Df x:Int)):=by
 refine Cg hK func18 bdy rfl rfl rfl (Bgu _) ?_;have hkl:=Aco x;have hb:=Ad0 x hx;rw[Ms];obtain⟨k,a,r,ln,nm,n,he⟩:=Adv x;simp only[Aa,Hl];rw[he];obtain⟨g0,g1,g2,g3,g4,g5,g6⟩:= @Al7 k a r ln nm n (.sl ((L9 x).map Br) .none);simp only[g0,g1,g2,g3,g4,g5,g6,Ahj,List.length_map,Bc];refine⟨by simp,?_⟩
 generalize L9 x=l at hkl hb h15 ⊢;refine wp_loop (fun m a ds=>a=0∧∃i:Nat,ds= [.int .i64 (dmax (l.take i):Int),.int .i64 (i:Int)]∧i≤l.length∧m=l.length - i) l.length (by omega) ⟨rfl,0,rfl,Nat.zero_le _,rfl⟩ ?_
 rintro m a ds ⟨rfl,i,rfl,hi,rfl⟩;simp only[Ca,hv,tails,List.tail_cons,List.headD_cons,Aa,Da,Vz,Ac];by_cases hlt:i<l.length
 ·obtain⟨y,hy⟩:∃y,l[i]?=some y:=⟨_,List.getElem?_eq_getElem hlt⟩;simp only[hlt,decide_true,if_true,Amw hy,Anv,Hl,Ae,Hm];refine⟨Kq y,?_⟩;refine Aw (A2a (Md y)) (h15 y (List.mem_of_getElem? hy)) ?_;have hsn:dmax (l.take (i+1))=max (dmax (l.take i)) (Df y):=by
   rw[List.take_add_one,hy,Option.toList_some,Aff]
  have hmx:(Av.mx (.int .i64 (dmax (l.take i):Int)) [.int .i64 (Df y:Int)]).sem prog=some (.int .i64 (dmax (l.take (i+1)):Int)):=by rw[Bdz,hsn];congr 2;split<;>omega
  simp only[Aa,hmx,Bt,wrapN (show i<1000000 by omega),Bc,Az]
  refine⟨by simp,_,?_,rfl,i+1,rfl,hlt,rfl⟩
  omega
 ·have hie:i=l.length:=by omega
  subst hie;simp only[hlt,decide_false,BF,List.take_length,Bt,wrapN (show dmax l<1000000 by omega),Ab]
  exact Bf rfl
end
def Apq:List D:=qc 0 0 false [] [] 0 (.sl [] .none)
def Aaw:Except (Int × Int) Qy→D
 | .ok x=> .tup [.agg (Br x),.agg [.int .i64 0,.int .i64 0]]
 | .error (c,a)=> .tup [.agg Apq,.agg [.int .i64 c,.int .i64 a]]
def Ah1(L:Nat)(s:PS):PS:=if s.bad.isNone && ((Cn L s.ws).k !=4)then Hf L s else s
def U1(L:Nat)(x:Qy)(s:PS):Except (Int × Int) Qy:=match(Ah1 L s).bad with
 |some b=> .error (1,(b:Int))
 |none=>if 30<Df x then .error (4,-1)else .ok x
def Qx(may:List UInt8→Bool)(gn:List UInt8→Int × Bool)(s:List UInt8):Except (Int × Int) Qy:=
 if 400<s.length then .error (4,-1)else match Y8 s with
  | .error i=> .error (1,(i:Int))
  | .ok ws=>match Fe s.length may gn (4*ws.length+4) ⟨ws,none⟩with
   |none=> .error (0,0)
   |some (x,s1)=>U1 s.length x s1
theorem Aae(may:List UInt8→Bool)(gn:List UInt8→Int × Bool)(L:Nat){ws:List Wd}(h:ws.length<1000):∃x s1,Fe L may gn (4*ws.length+4) ⟨ws,none⟩=some (x,s1)∧Df x≤1000:=by
 obtain⟨x,s1,h1,_,h3⟩:=(Aoi (L:=L) (may:=may) (gn:=gn) (4*ws.length+4)).1 ⟨ws,none⟩ (by simp[mu];omega) (by simp[mu])
 refine⟨x,s1,h1,?_⟩;have:mu (⟨ws,none⟩:PS)=ws.length:=rfl;omega
theorem A5j(a b:D):gc (.agg [a,b]) 0=a:=rfl
theorem cl2(a b:D):cl (.agg [a,b]) 2= [a,b]:=rfl
theorem R6{c a:Int}:Ck (Aaw (.error (c,a))) [(.agg [(.int .i64 0),(.int .i64 0),(.bool false),(.str []),(.str []),(.int .i64 0),.nilsl]),(.agg [.int .i64 c,.int .i64 a])]:=⟨rfl,_,rfl,rfl⟩
theorem Awc(x:Qy):Ck (Aaw (.ok x)) [.agg (Br x),.agg [.int .i64 0,.int .i64 0]]:=by
 refine⟨?_,[.agg (Br x),.agg [.int .i64 0,.int .i64 0]],?_,rfl⟩
 ·simp[Aaw,D8,F6,K3 x]
 ·simp only[Eb,Md];rfl
section
variable{cf:Ah}{N:Nat}(hK:∀f,Ba (cf f)){may:List UInt8→Bool}{gn:List UInt8→Int × Bool}
include hK in
theorem A9y(s:List UInt8)(h29:s.length≤400→Ao cf 23 [.str s] (Uy s.length (Y8 s)))(h30:s.length≤400→∀n,n<2000→Wv cf 24 [] s.length (Fe s.length may gn n))(h31:∀p:PS,E9 cf 25 [] s.length p (.tup []) (Hf s.length p))
  (h15:∀x:Qy,Df x≤1000→Ao cf 18 [.agg (Br x)] (.int .i64 (Df x:Int))):Ao (run C1 cf N) 8 [.str s] (Aaw (Qx may gn s)):=by
 refine Cg hK func8 bdy rfl rfl rfl (Bge _) ?_;simp only[Aa,Fa,Jt,Ac];unfold Qx;by_cases h4:400<s.length
 ·rw[if_pos h4,show decide ((400:Int)<(s.length:Int))=true from decide_eq_true (by omega)]
  simp only[if_true,Ab];exact R6
 rw[if_neg h4,show decide ((400:Int)<(s.length:Int))=false from decide_eq_false (by omega)]
 have hl:s.length≤400:=by omega
 simp only[BF];refine Aw rfl (h29 hl) ?_;cases hlex:Y8 s with
 |error i=>simp only[Uy,Aa,Hg,GC,M5,List.length_cons,List.length_nil,if_true,A5j,cl2,Ae,Nn,Ac,Ab];refine⟨rfl,?_⟩;rw[if_pos (show((1:Int) !=0)=true from rfl)];exact⟨rfl,R6⟩
 |ok ws=>
  obtain⟨hwl,hW⟩:=Awq (by omega) hlex
  obtain⟨x,s1,hq,hdx⟩:=Aae may gn s.length hW.1;simp only[hq];simp only[Uy,Aa,Hg,GC,M5,List.length_cons,List.length_nil,if_true,A5j,cl2,Ae,Nn,Ac,Ab,O4];refine⟨rfl,?_⟩;rw[if_neg (show ¬ ((0:Int) !=0)=true from by decide)]
  have hm:=h30 hl (4*ws.length+4) (by omega) ⟨ws,none⟩ x s1 (hW.sm none) hq
  refine Ad rfl hm rfl ?_;have hfin:∀p:PS,∀J,U1 s.length x s1=(match p.bad with
    |some b=> .error (1,(b:Int))
    |none=>if 30<Df x then .error (4,-1)else .ok x)→wp prog cf N (fun rs os=>Ck (Aaw (U1 s.length x s1)) rs)
    (.bind (.bin .geq 3 (gd (Vk s.length p) 1) (.int .i64 0)) fun x17=>
    .ite x17 (
     .bind (.cell (gd (Vk s.length p) 1)) fun x18=>
     .chk [x18] (
     .leaf [(.agg [(.int .i64 0),(.int .i64 0),(.bool false),(.str []),(.str []),(.int .i64 0),.nilsl]),(.agg [(.int .i64 1),x18])] [])) (
     .call 18 [] [(.agg (cl (.agg (Br x)) 7))] [] fun x18=>
     .bind (.bin .gtr 3 x18 (.int .i64 30)) fun x19=>
     .ite x19 (
     .leaf [(.agg [(.int .i64 0),(.int .i64 0),(.bool false),(.str []),(.str []),(.int .i64 0),.nilsl]),(.agg [(.int .i64 4),(.int .i64 (-1))])] []) (
     .chk (cl (.agg (Br x)) 7) (
     .leaf [(.agg (cl (.agg (Br x)) 7)),(.agg [(.int .i64 0),(.int .i64 0)])] [])))) J:=fun p J hp=>by
   rw[hp];cases hb:p.bad with
   |some b=>
    simp only[Vk,gd,List.getD_cons_zero,List.getD_cons_succ,hb,Nv,Aa,Lx,Ac,show decide ((0:Int)≤(b:Int))=true from by simp,if_true,A9,Al,Ae,Ab]
    exact⟨rfl,R6⟩
   |none=>
    simp only[Vk,gd,List.getD_cons_zero,List.getD_cons_succ,hb,Nv,Aa,Lx,Ac,show decide ((0:Int)≤(-1:Int))=false from rfl,BF,Hm];refine Aw (A2a (Md x)) (h15 x hdx) ?_;simp only[Aa,Jt,Ac];by_cases hd:30<Df x
    ·rw[if_pos hd,show decide ((30:Int)<(Df x:Int))=true from decide_eq_true (by omega)]
     simp only[if_true,Ab];exact R6
    ·rw[if_neg hd,show decide ((30:Int)<(Df x:Int))=false from decide_eq_false (by omega)]
     simp only[BF,Ae,Ab];exact⟨Kq x,Awc x⟩
  simp only[Aa,Hl,Ae];refine⟨by rw[Hm];exact Kq x,?_⟩
  have hend:∀q:PS,Ah1 s.length s1=q→U1 s.length x s1=(match q.bad with
    |some b=> .error (1,(b:Int))
    |none=>if 30<Df x then .error (4,-1)else .ok x):=fun q hq=>by
   unfold U1;rw[hq]
  cases hb:s1.bad with
  |some b=>
   have hf:=hfin s1 [] (hend s1 (by unfold Ah1;rw[hb];rfl))
   rw[show gd (Vk s.length s1) 1= .int .i64 (b:Int)from by unfold Vk;rw[hb];rfl]at hf ⊢
   simp only[Da,Ac];rw[if_neg (by simp)]
   exact hf
  |none=>
   rw[show gd (Vk s.length s1) 1= .int .i64 (-1)from by unfold Vk;rw[hb];rfl]
   simp only[Da,Ac];rw[if_pos (by decide)]
   simp only[Vk,gd,List.getD_cons_zero,Aa,Ae7,Aok,Z4,Nn,Ac];rw[show((((Cn s.length s1.ws).k:Nat):Int) !=4)=((Cn s.length s1.ws).k !=4)from by rw[bne,bne];congr 1;rw[Bool.eq_iff_iff,beq_iff_eq,beq_iff_eq];omega]
   cases h4k:(Cn s.length s1.ws).k !=4 with
   |true=>simp only[if_true];refine Ad rfl (h31 s1) rfl ?_;exact hfin (Hf s.length s1) [] (hend _ (by unfold Ah1;rw[hb,h4k];rfl))
   |false=>
    simp only[BF];have hf:=hfin s1 [] (hend s1 (by unfold Ah1;rw[hb,h4k];rfl))
    rw[show gd (Vk s.length s1) 1= .int .i64 (-1)from by unfold Vk;rw[hb];rfl]at hf
    rw[Aa]at hf;exact hf
end
section
variable{cf:Ah}{N:Nat}(hK:∀f,Ba (cf f)){may:List UInt8→Bool}{gn:List UInt8→Int × Bool}
end
section
variable{cf:Ah}{N:Nat}(hK:∀f,Ba (cf f))
end
end Go.Vam
