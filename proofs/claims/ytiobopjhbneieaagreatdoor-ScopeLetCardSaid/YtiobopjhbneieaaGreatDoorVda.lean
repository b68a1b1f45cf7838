/- P. -/
import Derived.Test.YtiobopjhbneieaaGreatDoorVci
set_option linter.unusedSimpArgs false
set_option linter.unusedVariables false
set_option linter.unusedSectionVars false
noncomputable section
set_option maxRecDepth 1000000
namespace Go.Vam
open Go.Proofs Go.Proofs.Tryz
section
variable{C:Eo}{hh:Bool}{od:Nat→Option (List Nat × Bool)}{cf:Ah}{N:Nat}{Pw:Nat→Prop}{e:Env}{st st':St}{Q:Ex→Env→St→Prop}{R:Env→St→Prop}{ops:Array Oper}{l:List Nat}
theorem Bni{c:Operand}{a b:Code}(h:∃d,ev e c=d∧match d with
  | .bool true=>ExO C hh od cf N Pw a e st Q
  | .bool false=>ExO C hh od cf N Pw b e st Q
  |_=>False):ExO C hh od cf N Pw (.cond c a b) e st Q:=by
 obtain⟨d,hc,h⟩:=h;cases d with
 |bool b=>cases b<;>first|exact Ak5 hc h|exact Afn hc h
 |_=>exact h.elim
end
def Ael:Qy→List UInt8
 | .label _ r ln=>if r then[58]else ln
 | .var _ _=> [36]
 | .bin k _ _ _=>if k=3 then[43]else if k=4 then[94]else if k=5 then[45]else if k=8 then Afo else if k=9 then Zq else[]
 | .un k _ _ _ _=>if k=6 then Aj1 else if k=7 then Abt else if k=10 then Ake else if k=11 then X5 else[]
 | .lt _ _ _ _=>Ib
 | .whole _=>A76
def atQ:Qy→Nat
 | .label a _ _=>a
 | .var a _=>a
 | .bin _ a _ _=>a
 | .un _ a _ _ _=>a
 | .lt a _ _ _=>a
 | .whole a=>a
def Aem(p:Qy→Prop):Qy→Prop
 | .bin k a x y=>p (.bin k a x y)∧Aem p x∧Aem p y
 | .lt a nm x y=>p (.lt a nm x y)∧Aem p x∧Aem p y
 | .un k a nm n x=>p (.un k a nm n x)∧Aem p x
 | .label a r ln=>p (.label a r ln)
 | .var a nm=>p (.var a nm)
 | .whole a=>p (.whole a)
theorem Aem.mono{p q:Qy→Prop}(hp:∀x,p x→q x):∀{x:Qy},Aem p x→Aem q x
 | .bin _ _ _ _,h=>⟨hp _ h.1,Aem.mono hp h.2.1,Aem.mono hp h.2.2⟩
 | .lt _ _ _ _,h=>⟨hp _ h.1,Aem.mono hp h.2.1,Aem.mono hp h.2.2⟩
 | .un _ _ _ _ _,h=>⟨hp _ h.1,Aem.mono hp h.2⟩
 | .label _ _ _,h=>hp _ h
 | .var _ _,h=>hp _ h
 | .whole _,h=>hp _ h
def Alt(W:List Wd)(q:Qy):Prop:=∃w,w∈W∧w.at_=atQ q∧w.tx=Ael q∧Ael q≠ []∧(w.k=1∨w.k=3)
section
variable{L:Nat}{may:List UInt8→Bool}{gn:List UInt8→Int × Bool}{W:List Wd}
theorem Akn(s:PS):(Hf L s).bad≠none:=by unfold Hf;cases s.bad<;>simp
theorem Aac{s:PS}{K:Int}{tx:List UInt8}(h:(A8 L s K tx).bad=none):Ry L s K tx=true∧s.bad=none:=by
 unfold A8 at h;split at h
 ·rename_i hb;exact⟨hb,h⟩
 ·exact absurd h (Akn s)
theorem Aek{s:PS}{K:Int}{m:List UInt8→Bool}(h:(Bb L s K m).2.bad=none):M9 L s K m=true∧s.bad=none∧(Bb L s K m).1=(Cn L s.ws).tx:=by
 unfold Bb at h ⊢;split at h
 ·rename_i hb;rw[if_pos hb];exact⟨hb,h,rfl⟩
 ·exact absurd h (Akn s)
def Al0(W:List Wd)(s:PS):Prop:=∀w∈s.ws,w∈W
theorem Al0.tail{s:PS}{b:Option Nat}(h:Al0 W s):Al0 W ⟨s.ws.tail,b⟩:=fun w hw=>h w (List.mem_of_mem_tail hw)
theorem Al0.fails{s:PS}(h:Al0 W s):Al0 W (Hf L s):=h
theorem Al0.must{s:PS}{K:Int}{tx:List UInt8}(h:Al0 W s):Al0 W (A8 L s K tx):=by
 unfold A8;split
 ·exact h.tail
 ·exact h.fails
theorem Al0.next{s:PS}{K:Int}{m:List UInt8→Bool}(h:Al0 W s):Al0 W (Bb L s K m).2:=by
 unfold Bb;split
 ·exact h.tail
 ·exact h.fails
theorem Anl{s:PS}{K:Int}{tx:List UInt8}(hK:K≠4)(hS:Al0 W s)(h:Ry L s K tx=true):∃w,w∈W∧Cn L s.ws=w∧(w.k:Int)=K∧w.tx=tx:=by obtain⟨w,ws,h1,_,h2,h3⟩:=X0 hK h;exact⟨w,hS w (by rw[h1];simp),by rw[h1];rfl,h2,h3⟩
theorem Bf1{s:PS}{K:Int}{m:List UInt8→Bool}(hK:K≠4)(hS:Al0 W s)(h:M9 L s K m=true):∃w,w∈W∧Cn L s.ws=w∧(w.k:Int)=K∧m w.tx=true:=by obtain⟨w,ws,h1,_,h2,h3⟩:=Am0 hK h;exact⟨w,hS w (by rw[h1];simp),by rw[h1];rfl,h2,h3⟩
def PlG(W:List Wd)(f:PS→Option (Qy × PS)):Prop:=∀(s:PS) (x:Qy) (s':PS),Al0 W s→f s=some (x,s')→Al0 W s'∧(s'.bad=none→s.bad=none∧Aem (Alt W) x)
theorem Bhx{s:PS}(hS:Al0 W s)(h:Hz L s≠0):(Hz L s=3∨Hz L s=4∨Hz L s=5)∧s.bad=none∧∀x y,Alt W (.bin (Hz L s) (Cn L s.ws).at_ x y):=by
 unfold Hz at h ⊢;have hb:∀{K:Int} {tx:List UInt8},Ry L s K tx=true→s.bad=none:=fun h=>by unfold Ry at h;simp only[Bool.and_eq_true,Option.isNone_iff_eq_none]at h;exact h.1
 split
 ·rename_i h1;obtain⟨w,hw,he,hk,ht⟩:=Anl (by decide) hS h1
  exact⟨.inl rfl,hb h1,fun x y=>⟨w,hw,by rw[he];rfl,ht,(by simp[Ael]),.inr (by omega)⟩⟩
 split
 ·rename_i h1;obtain⟨w,hw,he,hk,ht⟩:=Anl (by decide) hS h1
  exact⟨.inr (.inl rfl),hb h1,fun x y=>⟨w,hw,by rw[he];rfl,ht,(by simp[Ael]),.inr (by omega)⟩⟩
 split
 ·rename_i h1;obtain⟨w,hw,he,hk,ht⟩:=Anl (by decide) hS h1
  exact⟨.inr (.inr rfl),hb h1,fun x y=>⟨w,hw,by rw[he];rfl,ht,(by simp[Ael]),.inl (by omega)⟩⟩
 ·rename_i h1 h2 h3;rw[if_neg h1,if_neg h2,if_neg h3]at h;exact absurd rfl h
theorem Aws{item:PS→Option (Qy × PS)}(hi:PlG W item):∀(m:Nat) (x:Qy) (s:PS) (y:Qy) (s':PS),Al0 W s→Kw L item m x s=some (y,s')→Al0 W s'∧(s'.bad=none→s.bad=none∧(Aem (Alt W) x→Aem (Alt W) y))
 |0,x,s,y,s',_,h=>by simp[Kw]at h
 |m+1,x,s,y,s',hS,h=>by
  unfold Kw at h;split at h
  ·cases h;exact⟨hS,fun hb=>⟨hb,id⟩⟩
  ·rename_i hs;obtain⟨_,hb,hn⟩:=Bhx hS hs;split at h
   ·cases h
   ·rename_i z s2 hz;obtain⟨h1,h2⟩:=hi _ _ _ hS.tail hz;obtain⟨h3,h4⟩:=Aws hi m _ _ _ _ h1 h;refine⟨h3,fun hb'=>?_⟩;obtain⟨h5,h6⟩:=h4 hb';obtain⟨_,h8⟩:=h2 h5;exact⟨hb,fun hx=>h6 ⟨hn _ _,hx,h8⟩⟩
theorem Bc0{q:PS→Option (Qy × PS)}(hq:PlG W q){a:Nat}{t:List UInt8}(hw:∃w,w∈W∧w.at_=a∧w.tx=t∧w.k=1)(ht:t∈Bl.tail):PlG W (Q7 L gn q a t):=by
 intro s x s' hS h;obtain⟨w,w1,w2,w3,w4⟩:=hw;unfold Q7 at h;split at h
 ·rename_i e;cases hz:q s with
  |none=>rw[hz]at h;cases h
  |some p=>
   obtain⟨z,s1⟩:=p;rw[hz]at h;obtain⟨h1,h2⟩:=hq _ _ _ hS hz;simp only at h;have hn:∀n,Alt W (.un 6 a [] n z):=fun n=>⟨w,w1,w2,w3.trans e,(by simp[Ael,Aj1]),.inl w4⟩
   split at h
   ·cases h;refine⟨h1.must.next,fun hb=>?_⟩;obtain⟨_,h3,_⟩:=Aek hb;obtain⟨_,h4⟩:=Aac h3;exact⟨(h2 h4).1,hn _,(h2 h4).2⟩
   ·cases h;exact⟨h1,fun hb=>⟨(h2 hb).1,hn _,(h2 hb).2⟩⟩
 split at h
 ·rename_i e;cases hz:q s with
  |none=>rw[hz]at h;cases h
  |some p=>obtain⟨z,s1⟩:=p;rw[hz]at h;obtain⟨h1,h2⟩:=hq _ _ _ hS hz;simp only at h;cases h;exact⟨h1,fun hb=>⟨(h2 hb).1,⟨w,w1,w2,w3.trans e,(by simp[Ael,Abt]),.inl w4⟩,(h2 hb).2⟩⟩
 split at h
 ·rename_i e;cases hz:q s with
  |none=>rw[hz]at h;cases h
  |some p=>
   obtain⟨z,s1⟩:=p;rw[hz]at h;simp only at h;obtain⟨h1,h2⟩:=hq _ _ _ hS hz;cases hz2:q (A8 L s1 3 [44])with
   |none=>rw[hz2]at h;cases h
   |some p2=>
    obtain⟨z2,s2⟩:=p2;rw[hz2]at h;simp only at h;cases h;obtain⟨h3,h4⟩:=hq _ _ _ h1.must hz2;refine⟨h3,fun hb=>?_⟩;obtain⟨h5,h6⟩:=h4 hb;obtain⟨_,h7⟩:=Aac h5;refine⟨(h2 h7).1,⟨w,w1,w2,?_,?_,.inl w4⟩,(h2 h7).2,h6⟩
    ·rcases e with e|e<;>subst e<;>rw[w3]<;>simp[Ael,Afo,Zq]
    ·rcases e with e|e<;>subst e<;>simp[Ael,Afo,Zq]
 split at h
 ·rename_i e;cases hz:q (A8 L (Bb L s 1 Jd).2 3 [44])with
  |none=>rw[hz]at h;cases h
  |some p=>obtain⟨z,s1⟩:=p;rw[hz]at h;obtain⟨h1,h2⟩:=hq _ _ _ hS.next.must hz;simp only at h;cases h;refine⟨h1,fun hb=>?_⟩;obtain⟨h3,h4⟩:=h2 hb;obtain⟨_,h5⟩:=Aac h3;obtain⟨_,h6,_⟩:=Aek h5;exact⟨h6,⟨w,w1,w2,w3.trans e,(by simp[Ael,Ake]),.inl w4⟩,h4⟩
 split at h
 ·rename_i e;cases hz:q (A8 L (Bb L s 2 (fun _=>true)).2 3 [44])with
  |none=>rw[hz]at h;cases h
  |some p=>obtain⟨z,s1⟩:=p;rw[hz]at h;obtain⟨h1,h2⟩:=hq _ _ _ hS.next.must hz;simp only at h;cases h;refine⟨h1,fun hb=>?_⟩;obtain⟨h3,h4⟩:=h2 hb;obtain⟨_,h5⟩:=Aac h3;obtain⟨_,h6,_⟩:=Aek h5;exact⟨h6,⟨w,w1,w2,w3.trans e,(by simp[Ael,X5]),.inl w4⟩,h4⟩
 ·rename_i n1 n2 n3 n4 n5;cases h;have e:t=A76:=by
   simp only[Bl,List.tail_cons,List.mem_cons,List.not_mem_nil,or_false]at ht;rcases ht with ht|ht|ht|ht|ht|ht|ht
   ·exact absurd ht n1
   ·exact absurd ht n2
   ·exact absurd (.inl ht) n3
   ·exact absurd (.inr ht) n3
   ·exact absurd ht n4
   ·exact absurd ht n5
   ·exact ht
  exact⟨hS,fun hb=>⟨hb,w,w1,w2,w3.trans e,(by simp[Ael,A76]),.inl w4⟩⟩
theorem Bf9(hm:may []=false):∀n:Nat,PlG W (Fe L may gn n)∧PlG W (Uv L may gn n)∧PlG W (Jv L may gn n)∧∀s x s' a,Al0 W s→Ij L s=true→a=(Cn L s.ws).at_→Py L may gn n s a=some (x,s')→Al0 W s'∧(s'.bad=none→s.bad=none∧Aem (Alt W) x)
 |0=>⟨fun s x s' _ h=>by simp[Fe]at h,fun s x s' _ h=>by simp[Uv]at h,fun s x s' _ h=>by simp[Jv]at h,fun s x s' a _ _ _ h=>by simp[Py]at h⟩
 |n+1=>by
  obtain⟨i1,i2,i3,i4⟩:=Bf9 hm n;refine⟨fun s x s' hS h=>?_,fun s x s' hS h=>?_,fun s x s' hS h=>?_,fun s x s' a hS hc ha h=>?_⟩
  ·unfold Fe at h;split at h
   ·rename_i hl;obtain⟨w,w1,w2,w3,w4⟩:=Anl (by decide) hS hl
    cases hz:Fe L may gn n (A8 L (Bb L (A8 L s 1 Ib) 1 may).2 3 [61])with
    |none=>rw[hz]at h;cases h
    |some p=>
     obtain⟨z,s4⟩:=p;rw[hz]at h;simp only at h;obtain⟨h1,h2⟩:=i1 _ _ _ hS.must.next.must hz;cases hz2:Fe L may gn n (A8 L s4 1 Vx)with
     |none=>rw[hz2]at h;cases h
     |some p2=>obtain⟨z2,s6⟩:=p2;rw[hz2]at h;simp only at h;cases h;obtain⟨h3,h4⟩:=i1 _ _ _ h1.must hz2;refine⟨h3,fun hb=>?_⟩;obtain⟨h5,h6⟩:=h4 hb;obtain⟨_,h7⟩:=Aac h5;obtain⟨h8,h9⟩:=h2 h7;obtain⟨_,h10⟩:=Aac h8;obtain⟨_,h11,_⟩:=Aek h10;obtain⟨_,h12⟩:=Aac h11;exact⟨h12,⟨w,w1,by rw[w2];rfl,w4,(by simp[Ael,Ib]),.inl (by omega)⟩,h9,h6⟩
   ·exact i2 _ _ _ hS h
  ·unfold Uv at h;cases hz:Jv L may gn n s with
   |none=>rw[hz]at h;cases h
   |some p=>obtain⟨z,s1⟩:=p;rw[hz]at h;simp only at h;obtain⟨h1,h2⟩:=i3 _ _ _ hS hz;obtain⟨h3,h4⟩:=Aws i3 _ _ _ _ _ h1 h;refine⟨h3,fun hb=>?_⟩;obtain⟨h5,h6⟩:=h4 hb;exact⟨(h2 h5).1,h6 (h2 h5).2⟩
  ·unfold Jv at h;split at h
   ·rename_i hl;obtain⟨w,w1,w2,w3,w4⟩:=Anl (by decide) hS hl
    cases h;refine⟨hS.must.next,fun hb=>?_⟩;obtain⟨_,h5,_⟩:=Aek hb;obtain⟨_,h6⟩:=Aac h5;exact⟨h6,w,w1,by rw[w2];rfl,w4,(by simp[Ael]),.inr (by omega)⟩
   split at h
   ·rename_i hl;obtain⟨w,w1,w2,w3,w4⟩:=Anl (by decide) hS hl
    cases h;refine⟨hS.must.next,fun hb=>?_⟩;obtain⟨_,h5,_⟩:=Aek hb;obtain⟨_,h6⟩:=Aac h5;exact⟨h6,w,w1,by rw[w2];rfl,w4,(by simp[Ael]),.inr (by omega)⟩
   split at h
   ·cases hz:Fe L may gn n (A8 L s 3 [40])with
    |none=>rw[hz]at h;cases h
    |some p=>obtain⟨z,s1⟩:=p;rw[hz]at h;simp only at h;cases h;obtain⟨h1,h2⟩:=i1 _ _ _ hS.must hz;refine⟨h1.must,fun hb=>?_⟩;obtain⟨_,h3⟩:=Aac hb;obtain⟨h4,h5⟩:=h2 h3;exact⟨(Aac h4).2,h5⟩
   split at h
   ·rename_i hc;exact i4 _ _ _ _ hS hc rfl h
   ·cases h;refine⟨hS.next,fun hb=>?_⟩;obtain⟨h5,h6,h7⟩:=Aek hb;obtain⟨w,w1,w2,w3,w4⟩:=Bf1 (by decide) hS h5
    refine⟨h6,w,w1,by rw[w2];rfl,?_,?_,.inl (by omega)⟩
    ·show w.tx=(Bb L s 1 may).1;rw[h7,w2]
    ·show(Bb L s 1 may).1≠ [];rw[h7,w2];intro h8;rw[h8,hm]at w4;cases w4
  ·unfold Py at h;have hc':=hc;unfold Ij at hc';simp only[Bool.and_eq_true,Option.isNone_iff_eq_none,beq_iff_eq,List.contains_iff_mem]at hc';obtain⟨c1,c2,c3⟩:=hc';have hw:∃w,w∈W∧w.at_=a∧w.tx=(Cn L s.ws).tx∧w.k=1:=by
    cases hs:s.ws with
    |nil=>rw[hs]at c2;exact absurd (show((4:Nat):Int)=1 from c2) (by decide)
    |cons w ws=>rw[hs]at c2 ha;exact⟨w,hS w (by rw[hs];simp),by rw[ha];rfl,rfl,by have:(w.k:Int)=1:=c2;omega⟩
   cases hz:Q7 L gn (Fe L may gn n) a (Cn L s.ws).tx (A8 L ⟨s.ws.tail,s.bad⟩ 3 [40])with
   |none=>rw[hz]at h;cases h
   |some p=>obtain⟨z,s1⟩:=p;rw[hz]at h;simp only at h;cases h;obtain⟨h1,h2⟩:=Bc0 i1 hw c3 _ _ _ hS.tail.must hz;refine⟨h1.must,fun hb=>?_⟩;obtain⟨_,h3⟩:=Aac hb;exact⟨c1,(h2 h3).2⟩
end
def Bkw(s:List UInt8)(w:Wd):Prop:=w.k=1∨w.k=3→w.at_+w.tx.length≤s.length∧(s.drop w.at_).take w.tx.length=w.tx
theorem Bf5{s:List UInt8}{i e:Nat}{w:Wd}(hi:i<s.length)(h:Fq s i=some (w,e)):Bkw s w:=by
 unfold Fq at h;split at h
 ·cases h;intro _;have:=Aaz (s.drop i);rw[List.length_drop]at this;have hl:((s.drop i).take (D7 (s.drop i))).length=D7 (s.drop i):=by
   rw[List.length_take,List.length_drop];omega
  refine⟨?_,?_⟩
  ·show i+((s.drop i).take (D7 (s.drop i))).length≤_;rw[hl];omega
  ·show(s.drop i).take ((s.drop i).take (D7 (s.drop i))).length=_;rw[hl]
 ·split at h
  ·cases h
  ·rename_i c hc;split at h
   ·simp only[Option.map_eq_some_iff,Prod.mk.injEq]at h;obtain⟨⟨t,k⟩,_,rfl,_⟩:=h;intro hk;rcases hk with hk|hk<;>cases hk
   ·split at h
    ·cases h;intro _;refine⟨by simp only[List.length_cons,List.length_nil];omega,?_⟩
     show(s.drop i).take 1= [c];obtain⟨h1,h2⟩:=List.getElem?_eq_some_iff.1 hc;rw[List.drop_eq_getElem_cons h1,h2];rfl
    ·cases h
theorem A6i{s:List UInt8}:∀(n i:Nat) (ws:List Wd),M6 n s i= .ok ws→∀w∈ws,Bkw s w
 |0,i,ws,h=>by simp[M6]at h
 |n+1,i,ws,h=>by
  unfold M6 at h;split at h
  ·rename_i hlt;cases hw:Fq s i with
   |none=>rw[hw]at h;cases h
   |some p=>
    obtain⟨w,e⟩:=p;rw[hw]at h;simp only at h;cases hr:M6 n s (e+Db false (s.drop e))with
    |error j=>rw[hr]at h;cases h
    |ok l=>
     rw[hr]at h;cases h;intro v hv;rcases List.mem_cons.1 hv with rfl|hv
     ·exact Bf5 hlt hw
     ·exact A6i n _ l hr v hv
  ·cases h;intro w hw;cases hw
def Bgc(s:List UInt8)(q:Qy):Prop:=atQ q+(Ael q).length≤s.length∧(s.drop (atQ q)).take (Ael q).length=Ael q∧Ael q≠ []
theorem Bc4{s:List UInt8}{ws:List Wd}(h:Y8 s= .ok ws){q:Qy}(hq:Alt ws q):Bgc s q:=by obtain⟨w,h1,h2,h3,h4,h5⟩:=hq;obtain⟨h6,h7⟩:=A6i _ _ _ h w h1 h5;rw[h2,h3]at h6 h7;exact⟨h6,h7,h4⟩
theorem Bi0{may:List UInt8→Bool}{gn:List UInt8→Int × Bool}(hm:may []=false){s:List UInt8}{x:Qy}(h:Qx may gn s= .ok x):Aem (Bgc s) x:=by
 unfold Qx at h;split at h
 ·cases h
 split at h
 ·cases h
 ·rename_i ws hw;split at h
  ·cases h
  ·rename_i y s1 hq;obtain⟨_,h2⟩:=(Bf9 (W:=ws) hm _).1 _ _ _ (fun w hw=>hw) hq;unfold U1 at h;cases hb:(Ah1 s.length s1).bad with
   |some b=>rw[hb]at h;cases h
   |none=>
    rw[hb]at h;simp only at h;have hx:y=x:=by
     split at h
     ·cases h
     ·cases h;rfl
    subst hx;have hb1:s1.bad=none:=by
     unfold Ah1 at hb;split at hb
     ·exact absurd hb (Akn s1)
     ·exact hb
    exact Aem.mono (fun q hq=>Bc4 hw hq) (h2 hb1).2
section
variable{st:St}{id:Nat}{k:Int}{a:Nat}{r:Bool}{ln nm:List UInt8}{n:Int}{rows:List (List D)}
end
theorem Boa(t:List UInt8)(st:St):Ny prog 9 (.str t) st=some (.int .i64 (t.length:Int),.pure):=by unfold Ny;rfl
theorem Bnh:zeroOf prog 30=some [.int .i64 0,.int .i64 0,.bool false,.str [],.str [],.int .i64 0,.nilsl]:=by kernel_rfl
theorem Bns:zeroOf prog 33=some [.int .i64 0,.int .i64 0]:=by kernel_rfl
theorem Boc:Bw prog 33=some 2:=by kernel_rfl
theorem Bo2:Bw prog 31=some 1:=by kernel_rfl
theorem Bpj:Jg prog 31=false:=by kernel_rfl
def shW(k:Nat→Nat)(w:Wd):Wd:=⟨w.k,k w.at_,w.tx⟩
def shS(k:Nat→Nat)(s:PS):PS:=⟨s.ws.map (shW k),s.bad.map k⟩
def shQ(k:Nat→Nat):Qy→Qy
 | .label a r ln=> .label (k a) r ln
 | .var a nm=> .var (k a) nm
 | .bin c a x y=> .bin c (k a) (shQ k x) (shQ k y)
 | .un c a nm n x=> .un c (k a) nm n (shQ k x)
 | .lt a nm x y=> .lt (k a) nm (shQ k x) (shQ k y)
 | .whole a=> .whole (k a)
def shO(k:Nat→Nat)(o:Option (Qy × PS)):Option (Qy × PS):=o.map fun p=>(shQ k p.1,shS k p.2)
section
variable{L:Nat}{may:List UInt8→Bool}{gn:List UInt8→Int × Bool}{k:Nat→Nat}
theorem Bqe(ws:List Wd):Cn (k L) (ws.map (shW k))=shW k (Cn L ws):=by cases ws<;>rfl
theorem Boj(s:PS)(K:Int)(tx:List UInt8):Ry (k L) (shS k s) K tx=Ry L s K tx:=by unfold Ry shS;simp only[Bqe];cases s.bad<;>rfl
theorem Bm8(s:PS):(⟨(shS k s).ws.tail,(shS k s).bad⟩:PS)=shS k ⟨s.ws.tail,s.bad⟩:=by unfold shS;simp
theorem Bof(s:PS):Hf (k L) (shS k s)=shS k (Hf L s):=by unfold Hf shS;simp only[Bqe];cases s.bad<;>rfl
theorem Bex(s:PS)(K:Int)(tx:List UInt8):A8 (k L) (shS k s) K tx=shS k (A8 L s K tx):=by
 unfold A8;rw[Boj];split
 ·exact Bm8 s
 ·exact Bof s
theorem Bpq(s:PS)(K:Int)(m:List UInt8→Bool):M9 (k L) (shS k s) K m=M9 L s K m:=by unfold M9 shS;simp only[Bqe];cases s.bad<;>rfl
theorem Bkq(s:PS):Cn (k L) (shS k s).ws=shW k (Cn L s.ws):=Bqe s.ws
theorem Blp(s:PS)(K:Int)(m:List UInt8→Bool):(Bb (k L) (shS k s) K m).1=(Bb L s K m).1:=by
 unfold Bb;rw[Bpq];split
 ·rw[Bkq];rfl
 ·rfl
theorem Bl2(s:PS)(K:Int)(m:List UInt8→Bool):(Bb (k L) (shS k s) K m).2=shS k (Bb L s K m).2:=by
 unfold Bb;rw[Bpq];split
 ·exact Bm8 s
 ·exact Bof s
theorem Brs(s:PS):(Zk (k L) gn (shS k s)).1=(Zk L gn s).1:=by unfold Zk;rw[Blp]
theorem Bry(s:PS):(Zk (k L) gn (shS k s)).2=shS k (Zk L gn s).2:=by unfold Zk;exact Bl2 _ _ _
theorem Bru(s:PS):Hz (k L) (shS k s)=Hz L s:=by unfold Hz;simp only[Boj]
theorem Brg(s:PS):Ij (k L) (shS k s)=Ij L s:=by unfold Ij;rw[Bkq];unfold shS;cases s.bad<;>rfl
theorem Bp4{f g:PS→Option (Qy × PS)}(h:∀s,g (shS k s)=shO k (f s)):∀(m:Nat) (x:Qy) (s:PS),Kw (k L) g m (shQ k x) (shS k s)=shO k (Kw L f m x s)
 |0,_,_=>rfl
 |m+1,x,s=>by
  unfold Kw;rw[Bru,Bm8,h];split
  ·rfl
  ·cases f ⟨s.ws.tail,s.bad⟩with
   |none=>rfl
   |some p=>obtain⟨y,s2⟩:=p;show Kw (k L) g m (.bin (Hz L s) (Cn (k L) (shS k s).ws).at_ (shQ k x) (shQ k y)) (shS k s2)=_;rw[Bkq];exact Bp4 h m (.bin (Hz L s) (Cn L s.ws).at_ x y) s2
theorem Bqt{f g:PS→Option (Qy × PS)}(h:∀s,g (shS k s)=shO k (f s))(a:Nat)(t:List UInt8)(s:PS):Q7 (k L) gn g (k a) t (shS k s)=shO k (Q7 L gn f a t s):=by
 unfold Q7;simp only[Blp,Bl2,Bex,h];split
 ·cases f s with
  |none=>rfl
  |some p=>obtain⟨x,s1⟩:=p;simp only[shO,Option.map_some,Boj,Bex,Brs,Bry];split<;>rfl
 split
 ·cases f s<;>rfl
 split
 ·cases f s with
  |none=>rfl
  |some p=>obtain⟨x,s1⟩:=p;simp only[shO,Option.map_some,Bex,h];cases f (A8 L s1 3 [44])<;>rfl
 split
 ·cases f (A8 L (Bb L s 1 Jd).2 3 [44])<;>rfl
 split
 ·cases f (A8 L (Bb L s 2 (fun _=>true)).2 3 [44])<;>rfl
 ·rfl
theorem Bqc:∀n:Nat,(∀s,Fe (k L) may gn n (shS k s)=shO k (Fe L may gn n s))∧(∀s,Uv (k L) may gn n (shS k s)=shO k (Uv L may gn n s))∧(∀s,Jv (k L) may gn n (shS k s)=shO k (Jv L may gn n s))∧∀s a,Py (k L) may gn n (shS k s) (k a)=shO k (Py L may gn n s a)
 |0=>⟨fun _=>rfl,fun _=>rfl,fun _=>rfl,fun _ _=>rfl⟩
 |n+1=>by
  obtain⟨h1,h2,h3,h4⟩:=Bqc n;refine⟨fun s=>?_,fun s=>?_,fun s=>?_,fun s a=>?_⟩
  ·unfold Fe;simp only[Boj,Bex,Blp,Bl2,h1,h2,Bkq];split
   ·cases Fe L may gn n (A8 L (Bb L (A8 L s 1 Ib) 1 may).2 3 [61])with
    |none=>rfl
    |some p=>obtain⟨x,s4⟩:=p;simp only[shO,Option.map_some,Bex,h1];cases Fe L may gn n (A8 L s4 1 Vx)<;>rfl
   ·rfl
  ·unfold Uv;rw[h3];cases Jv L may gn n s with
   |none=>rfl
   |some p=>obtain⟨x,s1⟩:=p;exact Bp4 h3 1900 x s1
  ·unfold Jv;simp only[Boj,Bex,Blp,Bl2,h1,Brg,Bkq];split
   ·rfl
   split
   ·rfl
   split
   ·cases Fe L may gn n (A8 L s 3 [40])with
    |none=>rfl
    |some p=>obtain⟨x,s2⟩:=p;simp only[shO,Option.map_some,Bex]
   split
   ·exact h4 s _
   ·rfl
  ·unfold Py;rw[Bm8,Bex,Bkq];rw[show(shW k (Cn L s.ws)).tx=(Cn L s.ws).tx from rfl,Bqt h1];cases Q7 L gn (Fe L may gn n) a (Cn L s.ws).tx (A8 L ⟨s.ws.tail,s.bad⟩ 3 [40])with
   |none=>rfl
   |some p=>obtain⟨x,s1⟩:=p;simp only[shO,Option.map_some,Bex]
theorem Bq8(g s:List UInt8)(i:Nat):Fq (g++s) (i+g.length)=(Fq s i).map fun p=>(shW (· +g.length) p.1,p.2+g.length):=by
 have hd:∀j,(g++s).drop (j+g.length)=s.drop j:=fun j=>by rw[Nat.add_comm,List.drop_append];simp
 have hi:(g++s)[i+g.length]?=s[i]?:=by rw[List.getElem?_append_right (by omega),Nat.add_sub_cancel]
 unfold Fq;rw[hd,hi,show i+g.length+1=(i+1)+g.length from by omega,hd,List.length_append,show g.length+s.length - (i+1+g.length)+1=s.length - (i+1)+1 from by omega]
 split
 ·simp only[Option.map_some,shW];congr 2;omega
 ·cases s[i]? with
  |none=>rfl
  |some c=>
   dsimp only;split
   ·cases Dv (s.length - (i+1)+1) (s.drop (i+1))with
    |none=>rfl
    |some p=>simp only[Option.map_some,shW];congr 2;omega
   ·split<;>rfl
def shL(k:Nat→Nat)(o:Except Nat (List Wd)):Except Nat (List Wd):=match o with
 | .ok ws=> .ok (ws.map (shW k))
 | .error i=> .error (k i)
theorem Bny(g s:List UInt8):∀n i,M6 n (g++s) (i+g.length)=shL (· +g.length) (M6 n s i)
 |0,i=>rfl
 |n+1,i=>by
  unfold M6;rw[Bq8,List.length_append];by_cases hlt:i<s.length
  ·rw[if_pos hlt,if_pos (show i+g.length<g.length+s.length by omega)]
   cases Fq s i with
   |none=>rfl
   |some p=>
    obtain⟨w,e⟩:=p;simp only[Option.map_some];rw[show(g++s).drop (e+g.length)=s.drop e from by rw[Nat.add_comm,List.drop_append];simp]
    rw[show e+g.length+Db false (s.drop e)=e+Db false (s.drop e)+g.length from by omega,Bny g s n]
    cases M6 n s (e+Db false (s.drop e))<;>rfl
  ·rw[if_neg hlt,if_neg (show ¬ i+g.length<g.length+s.length by omega)]
   rfl
theorem Bpd(s:List UInt8):∀n m i,s.length - i<n→s.length - i<m→M6 n s i=M6 m s i
 |0,_,_,h,_=>by omega
 |_,0,_,_,h=>by omega
 |n+1,m+1,i,h1,h2=>by
  unfold M6;by_cases hlt:i<s.length
  ·rw[if_pos hlt,if_pos hlt];cases hw:Fq s i with
   |none=>rfl
   |some p=>obtain⟨w,e⟩:=p;obtain⟨h3,h4⟩:=Mq hlt hw;simp only;rw[Bpd s n m _ (by omega) (by omega)]
  ·rw[if_neg hlt,if_neg hlt]
theorem Bjr:∀x:Qy,Df (shQ k x)=Df x
 | .label _ _ _=>rfl
 | .var _ _=>rfl
 | .bin _ _ x y=>by simp only[shQ,Df,Bjr x,Bjr y]
 | .un _ _ _ _ x=>by simp only[shQ,Df,Bjr x]
 | .lt _ _ x y=>by simp only[shQ,Df,Bjr x,Bjr y]
 | .whole _=>rfl
end
def Bc5:Qy→Int × Bool × List UInt8 × List UInt8 × Int
 | .label _ r ln=>(1,r,ln,[],0)
 | .var _ nm=>(2,false,[],nm,0)
 | .bin k _ _ _=>(k,false,[],[],0)
 | .un k _ nm n _=>(k,false,[],nm,n)
 | .lt _ nm _ _=>(12,false,[],nm,0)
 | .whole _=>(13,false,[],[],0)
theorem Bs2(x:Qy):Br x=qc (Bc5 x).1 (atQ x) (Bc5 x).2.1 (Bc5 x).2.2.1 (Bc5 x).2.2.2.1 (Bc5 x).2.2.2.2 (.sl ((L9 x).map Br) .none):=by cases x<;>rfl
section
variable{cf:Ah}{N:Nat}(hK:∀f,Ba (cf f))
include hK
end
section
variable{L:Nat}{may:List UInt8→Bool}{gn:List UInt8→Int × Bool}
def Bn(L:Nat)(s:PS):Prop:=(∀w∈s.ws,w.at_≤L)∧∀b,s.bad=some b→b≤L
theorem Bn.hd{s:PS}(h:Bn L s):(Cn L s.ws).at_≤L:=by
 cases hs:s.ws with
 |nil=>exact Nat.le_refl L
 |cons w ws=>exact h.1 w (by rw[hs];simp)
theorem Bn.tail{s:PS}(h:Bn L s):Bn L ⟨s.ws.tail,s.bad⟩:=⟨fun w hw=>h.1 w (List.mem_of_mem_tail hw),h.2⟩
theorem Bn.fails{s:PS}(h:Bn L s):Bn L (Hf L s):=by
 refine⟨h.1,fun b hb=>?_⟩;unfold Hf at hb;cases hs:s.bad with
 |none=>rw[hs]at hb;cases hb;exact h.hd
 |some c=>rw[hs]at hb;cases hb;exact h.2 _ hs
theorem Bn.must{s:PS}{K:Int}{tx:List UInt8}(h:Bn L s):Bn L (A8 L s K tx):=by
 unfold A8;split
 ·exact h.tail
 ·exact h.fails
theorem Bn.next{s:PS}{K:Int}{m:List UInt8→Bool}(h:Bn L s):Bn L (Bb L s K m).2:=by
 unfold Bb;split
 ·exact h.tail
 ·exact h.fails
theorem Bn.num{s:PS}{gn:List UInt8→Int × Bool}(h:Bn L s):Bn L (Zk L gn s).2:=Bn.next h
end
section
variable{st:St}
theorem ln1(a:Obj):(st++ [a]).length=st.length+1:=by simp
theorem ln2(a b:Obj):(st++ [a,b]).length=st.length+2:=by simp
theorem ln3(a b c:Obj):(st++ [a,b,c]).length=st.length+3:=by simp
theorem ap2(a b:Obj):st++ [a]++ [b]=st++ [a,b]:=by simp
theorem ap3(a b c:Obj):st++ [a,b]++ [c]=st++ [a,b,c]:=by simp
theorem ap4(a b c d:Obj):st++ [a,b,c]++ [d]=st++ [a,b,c,d]:=by simp
theorem Btk{cs z:List D}{os:List Obj}(hz:z.length=7)(h:cs.length=7)(h2:cs.all Al=true):I4 prog 30 (.ptr st.length 0) (.agg cs) (st++ .cells z::os)=some (.undef,st++ .cells cs::os,[st.length]):=by unfold I4;simp[Wp,h,h2,hz,D.cells,List.set_append]
end
theorem Br2{a:Int}{n:Nat}(h:a≤1000000)(h2: -1000000≤a)(hn:n≤1000000):Bo prog .add 3 (.int .i64 a) (.int .i64 (n:Int))=some (.int .i64 (a+n)):=by show some (D.int .i64 (IntKind.i64.wrap (a+(n:Int))))=_;rw[Go.IntWalk.i64_in _ (by omega)]
end Go.Vam
