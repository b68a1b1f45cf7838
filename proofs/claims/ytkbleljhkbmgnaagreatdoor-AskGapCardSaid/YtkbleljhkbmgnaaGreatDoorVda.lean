/- P. -/
import Derived.Test.YtkbleljhkbmgnaaGreatDoorVci
set_option linter.unusedSimpArgs false
set_option linter.unusedVariables false
set_option linter.unusedSectionVars false
noncomputable section
set_option maxRecDepth 1000000
namespace Go.Vam
open Go.Proofs Go.Proofs.Tryz
section
variable{C:Eo}{hh:Bool}{od:Nat→Option (List Nat × Bool)}{cf:Ah}{N:Nat}{Pw:Nat→Prop}{e:Env}{st st':St}{Q:Ex→Env→St→Prop}{R:Env→St→Prop}{ops:Array Oper}{l:List Nat}
theorem Bni{c:Operand}{a b:Code}(h:∃d,ev e c=d∧match d with
  | .bool true=>ExO C hh od cf N Pw a e st Q
  | .bool false=>ExO C hh od cf N Pw b e st Q
  |_=>False):ExO C hh od cf N Pw (.cond c a b) e st Q:=by
 obtain⟨d,hc,h⟩:=h;cases d with
 |bool b=>cases b<;>first|exact Ak5 hc h|exact Afn hc h
 |_=>exact h.elim
end
theorem Bj9{cf:Ah}{N:Nat}{f:FuncId}{fn:Func}{c:Code}{args:List D}{st:St}{b:Bool}(hfn:prog.funcs[f]?=some fn)(hb:fn.body=some c)(hh:C1.hnd.contains f=false)(hk:C1.keepArr.contains f=false)(hk2:C1.keepNil.contains f=false)
  (h:ExO C1 false (C1.ords f) cf N (fun id=>st.length≤id) c (args++List.replicate (fn.ntmps - args.length) .undef) st (fun y e' st'=>y= .ret∧Gm C1.P e' st' fn.results.toList=some [.bool b]∧∃more,st'=st++more)):run C1 cf N f args st=some (.bool b,st,[]):=by
 obtain⟨y,e',st',V,h1,h2,rfl,h3,more,rfl⟩:=h.ex;have hfil:V.filter (· <st.length)= []:=by rw[List.filter_eq_nil_iff];intro id hid;have:=h2 id hid;simp;omega
 have hfin:finish st.length (.bool b) (st++more) V=some (.bool b,st,[]):=by rw[Rm rfl hfil];simp
 unfold run;have hP:C1.P=prog:=rfl;rw[hP,hfn];dsimp only;rw[hb];dsimp only;rw[hh,h1];dsimp only;rw[hP]at h3;rw[h3];dsimp only;have hz:Ls C1 f [.bool b] (st++more)=some ([.bool b],st++more):=by unfold Ls;rw[hk,hk2];rfl
 rw[hz];dsimp only;rw[Du];exact hfin
def Ael:Qy→List UInt8
 | .label _ r ln=>if r then[58]else ln
 | .var _ _=> [36]
 | .bin k _ _ _=>if k=3 then[43]else if k=4 then[94]else if k=5 then[45]else if k=8 then Afo else if k=9 then Zq else[]
 | .un k _ _ _ _=>if k=6 then Aj1 else if k=7 then Abt else if k=10 then Ake else if k=11 then X5 else[]
 | .lt _ _ _ _=>Ib
 | .whole _=>A76
def atQ:Qy→Nat
 | .label a _ _=>a
 | .var a _=>a
 | .bin _ a _ _=>a
 | .un _ a _ _ _=>a
 | .lt a _ _ _=>a
 | .whole a=>a
def Aem(p:Qy→Prop):Qy→Prop
 | .bin k a x y=>p (.bin k a x y)∧Aem p x∧Aem p y
 | .lt a nm x y=>p (.lt a nm x y)∧Aem p x∧Aem p y
 | .un k a nm n x=>p (.un k a nm n x)∧Aem p x
 | .label a r ln=>p (.label a r ln)
 | .var a nm=>p (.var a nm)
 | .whole a=>p (.whole a)
theorem Aem.top{p:Qy→Prop}{x:Qy}(h:Aem p x):p x:=by cases x<;>first|exact h|exact h.1
theorem Aem.mono{p q:Qy→Prop}(hp:∀x,p x→q x):∀{x:Qy},Aem p x→Aem q x
 | .bin _ _ _ _,h=>⟨hp _ h.1,Aem.mono hp h.2.1,Aem.mono hp h.2.2⟩
 | .lt _ _ _ _,h=>⟨hp _ h.1,Aem.mono hp h.2.1,Aem.mono hp h.2.2⟩
 | .un _ _ _ _ _,h=>⟨hp _ h.1,Aem.mono hp h.2⟩
 | .label _ _ _,h=>hp _ h
 | .var _ _,h=>hp _ h
 | .whole _,h=>hp _ h
def Alt(W:List Wd)(q:Qy):Prop:=∃w,w∈W∧w.at_=atQ q∧w.tx=Ael q∧Ael q≠ []∧(w.k=1∨w.k=3)
section
variable{L:Nat}{may:List UInt8→Bool}{gn:List UInt8→Int × Bool}{W:List Wd}
theorem Akn(s:PS):(Hf L s).bad≠none:=by unfold Hf;cases s.bad<;>simp
theorem Aac{s:PS}{K:Int}{tx:List UInt8}(h:(A8 L s K tx).bad=none):Ry L s K tx=true∧s.bad=none:=by
 unfold A8 at h;split at h
 ·rename_i hb;exact⟨hb,h⟩
 ·exact absurd h (Akn s)
theorem Aek{s:PS}{K:Int}{m:List UInt8→Bool}(h:(Bb L s K m).2.bad=none):M9 L s K m=true∧s.bad=none∧(Bb L s K m).1=(Cn L s.ws).tx:=by
 unfold Bb at h ⊢;split at h
 ·rename_i hb;rw[if_pos hb];exact⟨hb,h,rfl⟩
 ·exact absurd h (Akn s)
def Al0(W:List Wd)(s:PS):Prop:=∀w∈s.ws,w∈W
theorem Al0.tail{s:PS}{b:Option Nat}(h:Al0 W s):Al0 W ⟨s.ws.tail,b⟩:=fun w hw=>h w (List.mem_of_mem_tail hw)
theorem Al0.fails{s:PS}(h:Al0 W s):Al0 W (Hf L s):=h
theorem Al0.must{s:PS}{K:Int}{tx:List UInt8}(h:Al0 W s):Al0 W (A8 L s K tx):=by
 unfold A8;split
 ·exact h.tail
 ·exact h.fails
theorem Al0.next{s:PS}{K:Int}{m:List UInt8→Bool}(h:Al0 W s):Al0 W (Bb L s K m).2:=by
 unfold Bb;split
 ·exact h.tail
 ·exact h.fails
theorem Anl{s:PS}{K:Int}{tx:List UInt8}(hK:K≠4)(hS:Al0 W s)(h:Ry L s K tx=true):∃w,w∈W∧Cn L s.ws=w∧(w.k:Int)=K∧w.tx=tx:=by obtain⟨w,ws,h1,_,h2,h3⟩:=X0 hK h;exact⟨w,hS w (by rw[h1];simp),by rw[h1];rfl,h2,h3⟩
theorem Bf1{s:PS}{K:Int}{m:List UInt8→Bool}(hK:K≠4)(hS:Al0 W s)(h:M9 L s K m=true):∃w,w∈W∧Cn L s.ws=w∧(w.k:Int)=K∧m w.tx=true:=by obtain⟨w,ws,h1,_,h2,h3⟩:=Am0 hK h;exact⟨w,hS w (by rw[h1];simp),by rw[h1];rfl,h2,h3⟩
def PlG(W:List Wd)(f:PS→Option (Qy × PS)):Prop:=∀(s:PS) (x:Qy) (s':PS),Al0 W s→f s=some (x,s')→Al0 W s'∧(s'.bad=none→s.bad=none∧Aem (Alt W) x)
theorem Bhx{s:PS}(hS:Al0 W s)(h:Hz L s≠0):(Hz L s=3∨Hz L s=4∨Hz L s=5)∧s.bad=none∧∀x y,Alt W (.bin (Hz L s) (Cn L s.ws).at_ x y):=by
 unfold Hz at h ⊢;have hb:∀{K:Int} {tx:List UInt8},Ry L s K tx=true→s.bad=none:=fun h=>by unfold Ry at h;simp only[Bool.and_eq_true,Option.isNone_iff_eq_none]at h;exact h.1
 split
 ·rename_i h1;obtain⟨w,hw,he,hk,ht⟩:=Anl (by decide) hS h1
  exact⟨.inl rfl,hb h1,fun x y=>⟨w,hw,by rw[he];rfl,ht,(by simp[Ael]),.inr (by omega)⟩⟩
 split
 ·rename_i h1;obtain⟨w,hw,he,hk,ht⟩:=Anl (by decide) hS h1
  exact⟨.inr (.inl rfl),hb h1,fun x y=>⟨w,hw,by rw[he];rfl,ht,(by simp[Ael]),.inr (by omega)⟩⟩
 split
 ·rename_i h1;obtain⟨w,hw,he,hk,ht⟩:=Anl (by decide) hS h1
  exact⟨.inr (.inr rfl),hb h1,fun x y=>⟨w,hw,by rw[he];rfl,ht,(by simp[Ael]),.inl (by omega)⟩⟩
 ·rename_i h1 h2 h3;rw[if_neg h1,if_neg h2,if_neg h3]at h;exact absurd rfl h
theorem Aws{item:PS→Option (Qy × PS)}(hi:PlG W item):∀(m:Nat) (x:Qy) (s:PS) (y:Qy) (s':PS),Al0 W s→Kw L item m x s=some (y,s')→Al0 W s'∧(s'.bad=none→s.bad=none∧(Aem (Alt W) x→Aem (Alt W) y))
 |0,x,s,y,s',_,h=>by simp[Kw]at h
 |m+1,x,s,y,s',hS,h=>by
  unfold Kw at h;split at h
  ·cases h;exact⟨hS,fun hb=>⟨hb,id⟩⟩
  ·rename_i hs;obtain⟨_,hb,hn⟩:=Bhx hS hs;split at h
   ·cases h
   ·rename_i z s2 hz;obtain⟨h1,h2⟩:=hi _ _ _ hS.tail hz;obtain⟨h3,h4⟩:=Aws hi m _ _ _ _ h1 h;refine⟨h3,fun hb'=>?_⟩;obtain⟨h5,h6⟩:=h4 hb';obtain⟨_,h8⟩:=h2 h5;exact⟨hb,fun hx=>h6 ⟨hn _ _,hx,h8⟩⟩
theorem Bc0{q:PS→Option (Qy × PS)}(hq:PlG W q){a:Nat}{t:List UInt8}(hw:∃w,w∈W∧w.at_=a∧w.tx=t∧w.k=1)(ht:t∈Bl.tail):PlG W (Q7 L gn q a t):=by
 intro s x s' hS h;obtain⟨w,w1,w2,w3,w4⟩:=hw;unfold Q7 at h;split at h
 ·rename_i e;cases hz:q s with
  |none=>rw[hz]at h;cases h
  |some p=>
   obtain⟨z,s1⟩:=p;rw[hz]at h;obtain⟨h1,h2⟩:=hq _ _ _ hS hz;simp only at h;have hn:∀n,Alt W (.un 6 a [] n z):=fun n=>⟨w,w1,w2,w3.trans e,(by simp[Ael,Aj1]),.inl w4⟩
   split at h
   ·cases h;refine⟨h1.must.next,fun hb=>?_⟩;obtain⟨_,h3,_⟩:=Aek hb;obtain⟨_,h4⟩:=Aac h3;exact⟨(h2 h4).1,hn _,(h2 h4).2⟩
   ·cases h;exact⟨h1,fun hb=>⟨(h2 hb).1,hn _,(h2 hb).2⟩⟩
 split at h
 ·rename_i e;cases hz:q s with
  |none=>rw[hz]at h;cases h
  |some p=>obtain⟨z,s1⟩:=p;rw[hz]at h;obtain⟨h1,h2⟩:=hq _ _ _ hS hz;simp only at h;cases h;exact⟨h1,fun hb=>⟨(h2 hb).1,⟨w,w1,w2,w3.trans e,(by simp[Ael,Abt]),.inl w4⟩,(h2 hb).2⟩⟩
 split at h
 ·rename_i e;cases hz:q s with
  |none=>rw[hz]at h;cases h
  |some p=>
   obtain⟨z,s1⟩:=p;rw[hz]at h;simp only at h;obtain⟨h1,h2⟩:=hq _ _ _ hS hz;cases hz2:q (A8 L s1 3 [44])with
   |none=>rw[hz2]at h;cases h
   |some p2=>
    obtain⟨z2,s2⟩:=p2;rw[hz2]at h;simp only at h;cases h;obtain⟨h3,h4⟩:=hq _ _ _ h1.must hz2;refine⟨h3,fun hb=>?_⟩;obtain⟨h5,h6⟩:=h4 hb;obtain⟨_,h7⟩:=Aac h5;refine⟨(h2 h7).1,⟨w,w1,w2,?_,?_,.inl w4⟩,(h2 h7).2,h6⟩
    ·rcases e with e|e<;>subst e<;>rw[w3]<;>simp[Ael,Afo,Zq]
    ·rcases e with e|e<;>subst e<;>simp[Ael,Afo,Zq]
 split at h
 ·rename_i e;cases hz:q (A8 L (Bb L s 1 Jd).2 3 [44])with
  |none=>rw[hz]at h;cases h
  |some p=>obtain⟨z,s1⟩:=p;rw[hz]at h;obtain⟨h1,h2⟩:=hq _ _ _ hS.next.must hz;simp only at h;cases h;refine⟨h1,fun hb=>?_⟩;obtain⟨h3,h4⟩:=h2 hb;obtain⟨_,h5⟩:=Aac h3;obtain⟨_,h6,_⟩:=Aek h5;exact⟨h6,⟨w,w1,w2,w3.trans e,(by simp[Ael,Ake]),.inl w4⟩,h4⟩
 split at h
 ·rename_i e;cases hz:q (A8 L (Bb L s 2 (fun _=>true)).2 3 [44])with
  |none=>rw[hz]at h;cases h
  |some p=>obtain⟨z,s1⟩:=p;rw[hz]at h;obtain⟨h1,h2⟩:=hq _ _ _ hS.next.must hz;simp only at h;cases h;refine⟨h1,fun hb=>?_⟩;obtain⟨h3,h4⟩:=h2 hb;obtain⟨_,h5⟩:=Aac h3;obtain⟨_,h6,_⟩:=Aek h5;exact⟨h6,⟨w,w1,w2,w3.trans e,(by simp[Ael,X5]),.inl w4⟩,h4⟩
 ·rename_i n1 n2 n3 n4 n5;cases h;have e:t=A76:=by
   simp only[Bl,List.tail_cons,List.mem_cons,List.not_mem_nil,or_false]at ht;rcases ht with ht|ht|ht|ht|ht|ht|ht
   ·exact absurd ht n1
   ·exact absurd ht n2
   ·exact absurd (.inl ht) n3
   ·exact absurd (.inr ht) n3
   ·exact absurd ht n4
   ·exact absurd ht n5
   ·exact ht
  exact⟨hS,fun hb=>⟨hb,w,w1,w2,w3.trans e,(by simp[Ael,A76]),.inl w4⟩⟩
theorem Bf9(hm:may []=false):∀n:Nat,PlG W (Fe L may gn n)∧PlG W (Uv L may gn n)∧PlG W (Jv L may gn n)∧∀s x s' a,Al0 W s→Ij L s=true→a=(Cn L s.ws).at_→Py L may gn n s a=some (x,s')→Al0 W s'∧(s'.bad=none→s.bad=none∧Aem (Alt W) x)
 |0=>⟨fun s x s' _ h=>by simp[Fe]at h,fun s x s' _ h=>by simp[Uv]at h,fun s x s' _ h=>by simp[Jv]at h,fun s x s' a _ _ _ h=>by simp[Py]at h⟩
 |n+1=>by
  obtain⟨i1,i2,i3,i4⟩:=Bf9 hm n;refine⟨fun s x s' hS h=>?_,fun s x s' hS h=>?_,fun s x s' hS h=>?_,fun s x s' a hS hc ha h=>?_⟩
  ·unfold Fe at h;split at h
   ·rename_i hl;obtain⟨w,w1,w2,w3,w4⟩:=Anl (by decide) hS hl
    cases hz:Fe L may gn n (A8 L (Bb L (A8 L s 1 Ib) 1 may).2 3 [61])with
    |none=>rw[hz]at h;cases h
    |some p=>
     obtain⟨z,s4⟩:=p;rw[hz]at h;simp only at h;obtain⟨h1,h2⟩:=i1 _ _ _ hS.must.next.must hz;cases hz2:Fe L may gn n (A8 L s4 1 Vx)with
     |none=>rw[hz2]at h;cases h
     |some p2=>obtain⟨z2,s6⟩:=p2;rw[hz2]at h;simp only at h;cases h;obtain⟨h3,h4⟩:=i1 _ _ _ h1.must hz2;refine⟨h3,fun hb=>?_⟩;obtain⟨h5,h6⟩:=h4 hb;obtain⟨_,h7⟩:=Aac h5;obtain⟨h8,h9⟩:=h2 h7;obtain⟨_,h10⟩:=Aac h8;obtain⟨_,h11,_⟩:=Aek h10;obtain⟨_,h12⟩:=Aac h11;exact⟨h12,⟨w,w1,by rw[w2];rfl,w4,(by simp[Ael,Ib]),.inl (by omega)⟩,h9,h6⟩
   ·exact i2 _ _ _ hS h
  ·unfold Uv at h;cases hz:Jv L may gn n s with
   |none=>rw[hz]at h;cases h
   |some p=>obtain⟨z,s1⟩:=p;rw[hz]at h;simp only at h;obtain⟨h1,h2⟩:=i3 _ _ _ hS hz;obtain⟨h3,h4⟩:=Aws i3 _ _ _ _ _ h1 h;refine⟨h3,fun hb=>?_⟩;obtain⟨h5,h6⟩:=h4 hb;exact⟨(h2 h5).1,h6 (h2 h5).2⟩
  ·unfold Jv at h;split at h
   ·rename_i hl;obtain⟨w,w1,w2,w3,w4⟩:=Anl (by decide) hS hl
    cases h;refine⟨hS.must.next,fun hb=>?_⟩;obtain⟨_,h5,_⟩:=Aek hb;obtain⟨_,h6⟩:=Aac h5;exact⟨h6,w,w1,by rw[w2];rfl,w4,(by simp[Ael]),.inr (by omega)⟩
   split at h
   ·rename_i hl;obtain⟨w,w1,w2,w3,w4⟩:=Anl (by decide) hS hl
    cases h;refine⟨hS.must.next,fun hb=>?_⟩;obtain⟨_,h5,_⟩:=Aek hb;obtain⟨_,h6⟩:=Aac h5;exact⟨h6,w,w1,by rw[w2];rfl,w4,(by simp[Ael]),.inr (by omega)⟩
   split at h
   ·cases hz:Fe L may gn n (A8 L s 3 [40])with
    |none=>rw[hz]at h;cases h
    |some p=>obtain⟨z,s1⟩:=p;rw[hz]at h;simp only at h;cases h;obtain⟨h1,h2⟩:=i1 _ _ _ hS.must hz;refine⟨h1.must,fun hb=>?_⟩;obtain⟨_,h3⟩:=Aac hb;obtain⟨h4,h5⟩:=h2 h3;exact⟨(Aac h4).2,h5⟩
   split at h
   ·rename_i hc;exact i4 _ _ _ _ hS hc rfl h
   ·cases h;refine⟨hS.next,fun hb=>?_⟩;obtain⟨h5,h6,h7⟩:=Aek hb;obtain⟨w,w1,w2,w3,w4⟩:=Bf1 (by decide) hS h5
    refine⟨h6,w,w1,by rw[w2];rfl,?_,?_,.inl (by omega)⟩
    ·show w.tx=(Bb L s 1 may).1;rw[h7,w2]
    ·show(Bb L s 1 may).1≠ [];rw[h7,w2];intro h8;rw[h8,hm]at w4;cases w4
  ·unfold Py at h;have hc':=hc;unfold Ij at hc';simp only[Bool.and_eq_true,Option.isNone_iff_eq_none,beq_iff_eq,List.contains_iff_mem]at hc';obtain⟨c1,c2,c3⟩:=hc';have hw:∃w,w∈W∧w.at_=a∧w.tx=(Cn L s.ws).tx∧w.k=1:=by
    cases hs:s.ws with
    |nil=>rw[hs]at c2;exact absurd (show((4:Nat):Int)=1 from c2) (by decide)
    |cons w ws=>rw[hs]at c2 ha;exact⟨w,hS w (by rw[hs];simp),by rw[ha];rfl,rfl,by have:(w.k:Int)=1:=c2;omega⟩
   cases hz:Q7 L gn (Fe L may gn n) a (Cn L s.ws).tx (A8 L ⟨s.ws.tail,s.bad⟩ 3 [40])with
   |none=>rw[hz]at h;cases h
   |some p=>obtain⟨z,s1⟩:=p;rw[hz]at h;simp only at h;cases h;obtain⟨h1,h2⟩:=Bc0 i1 hw c3 _ _ _ hS.tail.must hz;refine⟨h1.must,fun hb=>?_⟩;obtain⟨_,h3⟩:=Aac hb;exact⟨c1,(h2 h3).2⟩
end
def Bkw(s:List UInt8)(w:Wd):Prop:=w.k=1∨w.k=3→w.at_+w.tx.length≤s.length∧(s.drop w.at_).take w.tx.length=w.tx
theorem Bf5{s:List UInt8}{i e:Nat}{w:Wd}(hi:i<s.length)(h:Fq s i=some (w,e)):Bkw s w:=by
 unfold Fq at h;split at h
 ·cases h;intro _;have:=Aaz (s.drop i);rw[List.length_drop]at this;have hl:((s.drop i).take (D7 (s.drop i))).length=D7 (s.drop i):=by
   rw[List.length_take,List.length_drop];omega
  refine⟨?_,?_⟩
  ·show i+((s.drop i).take (D7 (s.drop i))).length≤_;rw[hl];omega
  ·show(s.drop i).take ((s.drop i).take (D7 (s.drop i))).length=_;rw[hl]
 ·split at h
  ·cases h
  ·rename_i c hc;split at h
   ·simp only[Option.map_eq_some_iff,Prod.mk.injEq]at h;obtain⟨⟨t,k⟩,_,rfl,_⟩:=h;intro hk;rcases hk with hk|hk<;>cases hk
   ·split at h
    ·cases h;intro _;refine⟨by simp only[List.length_cons,List.length_nil];omega,?_⟩
     show(s.drop i).take 1= [c];obtain⟨h1,h2⟩:=List.getElem?_eq_some_iff.1 hc;rw[List.drop_eq_getElem_cons h1,h2];rfl
    ·cases h
theorem A6i{s:List UInt8}:∀(n i:Nat) (ws:List Wd),M6 n s i= .ok ws→∀w∈ws,Bkw s w
 |0,i,ws,h=>by simp[M6]at h
 |n+1,i,ws,h=>by
  unfold M6 at h;split at h
  ·rename_i hlt;cases hw:Fq s i with
   |none=>rw[hw]at h;cases h
   |some p=>
    obtain⟨w,e⟩:=p;rw[hw]at h;simp only at h;cases hr:M6 n s (e+Db false (s.drop e))with
    |error j=>rw[hr]at h;cases h
    |ok l=>
     rw[hr]at h;cases h;intro v hv;rcases List.mem_cons.1 hv with rfl|hv
     ·exact Bf5 hlt hw
     ·exact A6i n _ l hr v hv
  ·cases h;intro w hw;cases hw
def Bgc(s:List UInt8)(q:Qy):Prop:=atQ q+(Ael q).length≤s.length∧(s.drop (atQ q)).take (Ael q).length=Ael q∧Ael q≠ []
theorem Bc4{s:List UInt8}{ws:List Wd}(h:Y8 s= .ok ws){q:Qy}(hq:Alt ws q):Bgc s q:=by obtain⟨w,h1,h2,h3,h4,h5⟩:=hq;obtain⟨h6,h7⟩:=A6i _ _ _ h w h1 h5;rw[h2,h3]at h6 h7;exact⟨h6,h7,h4⟩
theorem Bi0{may:List UInt8→Bool}{gn:List UInt8→Int × Bool}(hm:may []=false){s:List UInt8}{x:Qy}(h:Qx may gn s= .ok x):Aem (Bgc s) x:=by
 unfold Qx at h;split at h
 ·cases h
 split at h
 ·cases h
 ·rename_i ws hw;split at h
  ·cases h
  ·rename_i y s1 hq;obtain⟨_,h2⟩:=(Bf9 (W:=ws) hm _).1 _ _ _ (fun w hw=>hw) hq;unfold U1 at h;cases hb:(Ah1 s.length s1).bad with
   |some b=>rw[hb]at h;cases h
   |none=>
    rw[hb]at h;simp only at h;have hx:y=x:=by
     split at h
     ·cases h
     ·cases h;rfl
    subst hx;have hb1:s1.bad=none:=by
     unfold Ah1 at hb;split at hb
     ·exact absurd hb (Akn s1)
     ·exact hb
    exact Aem.mono (fun q hq=>Bc4 hw hq) (h2 hb1).2
section
variable{st:St}{id:Nat}{k:Int}{a:Nat}{r:Bool}{ln nm:List UInt8}{n:Int}{rows:List (List D)}
end
theorem Boa(t:List UInt8)(st:St):Ny prog 9 (.str t) st=some (.int .i64 (t.length:Int),.pure):=by unfold Ny;rfl
theorem Bli{may:List UInt8→Bool}{gn:List UInt8→Int × Bool}{s:List UInt8}{c a:Int}(h:Qx may gn s= .error (c,a)):c≠0:=by
 unfold Qx at h;split at h
 ·cases h;decide
 ·rename_i hl;split at h
  ·cases h;decide
  ·rename_i ws hw;split at h
   ·rename_i hq;obtain⟨x,s1,h1,_⟩:=Aae may gn s.length (ws:=ws) (by have:=(Awq (by omega) hw).1;omega)
    rw[h1]at hq;cases hq
   ·unfold U1 at h;split at h
    ·cases h;decide
    ·split at h
     ·cases h;decide
     ·cases h
theorem Bnh:zeroOf prog 29=some [.int .i64 0,.int .i64 0,.bool false,.str [],.str [],.int .i64 0,.nilsl]:=by kernel_rfl
theorem Bns:zeroOf prog 32=some [.int .i64 0,.int .i64 0]:=by kernel_rfl
theorem Boc:Bw prog 32=some 2:=by kernel_rfl
theorem Bo2:Bw prog 30=some 1:=by kernel_rfl
theorem Bpj:Jg prog 30=false:=by kernel_rfl
theorem Bo7{id:Nat}:Eh prog 32 (.ptr id 0) 0=some (.ptr id 0,.pure):=by kernel_rfl
def shW(k:Nat→Nat)(w:Wd):Wd:=⟨w.k,k w.at_,w.tx⟩
def shS(k:Nat→Nat)(s:PS):PS:=⟨s.ws.map (shW k),s.bad.map k⟩
def shQ(k:Nat→Nat):Qy→Qy
 | .label a r ln=> .label (k a) r ln
 | .var a nm=> .var (k a) nm
 | .bin c a x y=> .bin c (k a) (shQ k x) (shQ k y)
 | .un c a nm n x=> .un c (k a) nm n (shQ k x)
 | .lt a nm x y=> .lt (k a) nm (shQ k x) (shQ k y)
 | .whole a=> .whole (k a)
def shO(k:Nat→Nat)(o:Option (Qy × PS)):Option (Qy × PS):=o.map fun p=>(shQ k p.1,shS k p.2)
section
variable{L:Nat}{may:List UInt8→Bool}{gn:List UInt8→Int × Bool}{k:Nat→Nat}
theorem Bqe(ws:List Wd):Cn (k L) (ws.map (shW k))=shW k (Cn L ws):=by cases ws<;>rfl
theorem Boj(s:PS)(K:Int)(tx:List UInt8):Ry (k L) (shS k s) K tx=Ry L s K tx:=by unfold Ry shS;simp only[Bqe];cases s.bad<;>rfl
theorem Bm8(s:PS):(⟨(shS k s).ws.tail,(shS k s).bad⟩:PS)=shS k ⟨s.ws.tail,s.bad⟩:=by unfold shS;simp
theorem Bof(s:PS):Hf (k L) (shS k s)=shS k (Hf L s):=by unfold Hf shS;simp only[Bqe];cases s.bad<;>rfl
theorem Bex(s:PS)(K:Int)(tx:List UInt8):A8 (k L) (shS k s) K tx=shS k (A8 L s K tx):=by
 unfold A8;rw[Boj];split
 ·exact Bm8 s
 ·exact Bof s
theorem Bpq(s:PS)(K:Int)(m:List UInt8→Bool):M9 (k L) (shS k s) K m=M9 L s K m:=by unfold M9 shS;simp only[Bqe];cases s.bad<;>rfl
theorem Bkq(s:PS):Cn (k L) (shS k s).ws=shW k (Cn L s.ws):=Bqe s.ws
theorem Blp(s:PS)(K:Int)(m:List UInt8→Bool):(Bb (k L) (shS k s) K m).1=(Bb L s K m).1:=by
 unfold Bb;rw[Bpq];split
 ·rw[Bkq];rfl
 ·rfl
theorem Bl2(s:PS)(K:Int)(m:List UInt8→Bool):(Bb (k L) (shS k s) K m).2=shS k (Bb L s K m).2:=by
 unfold Bb;rw[Bpq];split
 ·exact Bm8 s
 ·exact Bof s
theorem Brs(s:PS):(Zk (k L) gn (shS k s)).1=(Zk L gn s).1:=by unfold Zk;rw[Blp]
theorem Bry(s:PS):(Zk (k L) gn (shS k s)).2=shS k (Zk L gn s).2:=by unfold Zk;exact Bl2 _ _ _
theorem Bru(s:PS):Hz (k L) (shS k s)=Hz L s:=by unfold Hz;simp only[Boj]
theorem Brg(s:PS):Ij (k L) (shS k s)=Ij L s:=by unfold Ij;rw[Bkq];unfold shS;cases s.bad<;>rfl
theorem Bp4{f g:PS→Option (Qy × PS)}(h:∀s,g (shS k s)=shO k (f s)):∀(m:Nat) (x:Qy) (s:PS),Kw (k L) g m (shQ k x) (shS k s)=shO k (Kw L f m x s)
 |0,_,_=>rfl
 |m+1,x,s=>by
  unfold Kw;rw[Bru,Bm8,h];split
  ·rfl
  ·cases f ⟨s.ws.tail,s.bad⟩with
   |none=>rfl
   |some p=>obtain⟨y,s2⟩:=p;show Kw (k L) g m (.bin (Hz L s) (Cn (k L) (shS k s).ws).at_ (shQ k x) (shQ k y)) (shS k s2)=_;rw[Bkq];exact Bp4 h m (.bin (Hz L s) (Cn L s.ws).at_ x y) s2
theorem Bqt{f g:PS→Option (Qy × PS)}(h:∀s,g (shS k s)=shO k (f s))(a:Nat)(t:List UInt8)(s:PS):Q7 (k L) gn g (k a) t (shS k s)=shO k (Q7 L gn f a t s):=by
 unfold Q7;simp only[Blp,Bl2,Bex,h];split
 ·cases f s with
  |none=>rfl
  |some p=>obtain⟨x,s1⟩:=p;simp only[shO,Option.map_some,Boj,Bex,Brs,Bry];split<;>rfl
 split
 ·cases f s<;>rfl
 split
 ·cases f s with
  |none=>rfl
  |some p=>obtain⟨x,s1⟩:=p;simp only[shO,Option.map_some,Bex,h];cases f (A8 L s1 3 [44])<;>rfl
 split
 ·cases f (A8 L (Bb L s 1 Jd).2 3 [44])<;>rfl
 split
 ·cases f (A8 L (Bb L s 2 (fun _=>true)).2 3 [44])<;>rfl
 ·rfl
theorem Bqc:∀n:Nat,(∀s,Fe (k L) may gn n (shS k s)=shO k (Fe L may gn n s))∧(∀s,Uv (k L) may gn n (shS k s)=shO k (Uv L may gn n s))∧(∀s,Jv (k L) may gn n (shS k s)=shO k (Jv L may gn n s))∧∀s a,Py (k L) may gn n (shS k s) (k a)=shO k (Py L may gn n s a)
 |0=>⟨fun _=>rfl,fun _=>rfl,fun _=>rfl,fun _ _=>rfl⟩
 |n+1=>by
  obtain⟨h1,h2,h3,h4⟩:=Bqc n;refine⟨fun s=>?_,fun s=>?_,fun s=>?_,fun s a=>?_⟩
  ·unfold Fe;simp only[Boj,Bex,Blp,Bl2,h1,h2,Bkq];split
   ·cases Fe L may gn n (A8 L (Bb L (A8 L s 1 Ib) 1 may).2 3 [61])with
    |none=>rfl
    |some p=>obtain⟨x,s4⟩:=p;simp only[shO,Option.map_some,Bex,h1];cases Fe L may gn n (A8 L s4 1 Vx)<;>rfl
   ·rfl
  ·unfold Uv;rw[h3];cases Jv L may gn n s with
   |none=>rfl
   |some p=>obtain⟨x,s1⟩:=p;exact Bp4 h3 1900 x s1
  ·unfold Jv;simp only[Boj,Bex,Blp,Bl2,h1,Brg,Bkq];split
   ·rfl
   split
   ·rfl
   split
   ·cases Fe L may gn n (A8 L s 3 [40])with
    |none=>rfl
    |some p=>obtain⟨x,s2⟩:=p;simp only[shO,Option.map_some,Bex]
   split
   ·exact h4 s _
   ·rfl
  ·unfold Py;rw[Bm8,Bex,Bkq];rw[show(shW k (Cn L s.ws)).tx=(Cn L s.ws).tx from rfl,Bqt h1];cases Q7 L gn (Fe L may gn n) a (Cn L s.ws).tx (A8 L ⟨s.ws.tail,s.bad⟩ 3 [40])with
   |none=>rfl
   |some p=>obtain⟨x,s1⟩:=p;simp only[shO,Option.map_some,Bex]
theorem Bq8(g s:List UInt8)(i:Nat):Fq (g++s) (i+g.length)=(Fq s i).map fun p=>(shW (· +g.length) p.1,p.2+g.length):=by
 have hd:∀j,(g++s).drop (j+g.length)=s.drop j:=fun j=>by rw[Nat.add_comm,List.drop_append];simp
 have hi:(g++s)[i+g.length]?=s[i]?:=by rw[List.getElem?_append_right (by omega),Nat.add_sub_cancel]
 unfold Fq;rw[hd,hi,show i+g.length+1=(i+1)+g.length from by omega,hd,List.length_append,show g.length+s.length - (i+1+g.length)+1=s.length - (i+1)+1 from by omega]
 split
 ·simp only[Option.map_some,shW];congr 2;omega
 ·cases s[i]? with
  |none=>rfl
  |some c=>
   dsimp only;split
   ·cases Dv (s.length - (i+1)+1) (s.drop (i+1))with
    |none=>rfl
    |some p=>simp only[Option.map_some,shW];congr 2;omega
   ·split<;>rfl
def shL(k:Nat→Nat)(o:Except Nat (List Wd)):Except Nat (List Wd):=match o with
 | .ok ws=> .ok (ws.map (shW k))
 | .error i=> .error (k i)
theorem Bny(g s:List UInt8):∀n i,M6 n (g++s) (i+g.length)=shL (· +g.length) (M6 n s i)
 |0,i=>rfl
 |n+1,i=>by
  unfold M6;rw[Bq8,List.length_append];by_cases hlt:i<s.length
  ·rw[if_pos hlt,if_pos (show i+g.length<g.length+s.length by omega)]
   cases Fq s i with
   |none=>rfl
   |some p=>
    obtain⟨w,e⟩:=p;simp only[Option.map_some];rw[show(g++s).drop (e+g.length)=s.drop e from by rw[Nat.add_comm,List.drop_append];simp]
    rw[show e+g.length+Db false (s.drop e)=e+Db false (s.drop e)+g.length from by omega,Bny g s n]
    cases M6 n s (e+Db false (s.drop e))<;>rfl
  ·rw[if_neg hlt,if_neg (show ¬ i+g.length<g.length+s.length by omega)]
   rfl
theorem Bpd(s:List UInt8):∀n m i,s.length - i<n→s.length - i<m→M6 n s i=M6 m s i
 |0,_,_,h,_=>by omega
 |_,0,_,_,h=>by omega
 |n+1,m+1,i,h1,h2=>by
  unfold M6;by_cases hlt:i<s.length
  ·rw[if_pos hlt,if_pos hlt];cases hw:Fq s i with
   |none=>rfl
   |some p=>obtain⟨w,e⟩:=p;obtain⟨h3,h4⟩:=Mq hlt hw;simp only;rw[Bpd s n m _ (by omega) (by omega)]
  ·rw[if_neg hlt,if_neg hlt]
def Bqw:List UInt8:= [32,35,32,97,32,114,101,109,97,114,107,32,40,10,9]
theorem Bre(s:List UInt8):Db false (Bqw++s)=Db false s+Bqw.length:=by show 1+(1+(1+(1+(1+(1+(1+(1+(1+(1+(1+(1+(1+(1+(1+Db false s))))))))))))))=Db false s+15;omega
theorem Brr(s:List UInt8):Y8 (Bqw++s)=shL (· +15) (Y8 s):=by
 unfold Y8;rw[Bre,Bny];have:=O7 false s;rw[Bpd s ((Bqw++s).length+1) (s.length+1) _ (by rw[List.length_append];omega) (by omega)]
 rfl
def shE(k:Nat)(o:Except (Int × Int) Qy):Except (Int × Int) Qy:=match o with
 | .ok x=> .ok (shQ (· +k) x)
 | .error (c,a)=> .error (c,if a<0 then a else a+(k:Int))
theorem Bjr:∀x:Qy,Df (shQ k x)=Df x
 | .label _ _ _=>rfl
 | .var _ _=>rfl
 | .bin _ _ x y=>by simp only[shQ,Df,Bjr x,Bjr y]
 | .un _ _ _ _ x=>by simp only[shQ,Df,Bjr x]
 | .lt _ _ x y=>by simp only[shQ,Df,Bjr x,Bjr y]
 | .whole _=>rfl
theorem Brv(x:Qy)(s:PS):U1 (k L) (shQ k x) (shS k s)=match(Ah1 L s).bad with
  |some b=> .error (1,(k b:Int))
  |none=>if 30<Df x then .error (4,-1)else .ok (shQ k x):=by
 have he:Ah1 (k L) (shS k s)=shS k (Ah1 L s):=by
  unfold Ah1;rw[Bkq,Bof];have:(shS k s).bad.isNone=s.bad.isNone:=by unfold shS;cases s.bad<;>rfl
  rw[this];show(if s.bad.isNone && ((Cn L s.ws).k !=4)then shS k (Hf L s)else shS k s)=_;split<;>rfl
 unfold U1;rw[he];cases hb:(Ah1 L s).bad with
 |some b=>rw[show(shS k (Ah1 L s)).bad=some (k b)from by unfold shS;rw[hb];rfl]
 |none=>
  rw[show(shS k (Ah1 L s)).bad=none from by unfold shS;rw[hb];rfl]
  simp only[Bjr]
theorem Bsk{s:List UInt8}(hs:s.length≤300):Qx may gn (Bqw++s)=shE 15 (Qx may gn s):=by
 unfold Qx;have hl:(Bqw++s).length=s.length+15:=by rw[List.length_append,Nat.add_comm];rfl
 rw[if_neg (by omega),if_neg (by omega),Brr,hl]
 cases hw:Y8 s with
 |error i=>
  simp only[shL,shE];rw[if_neg (by omega)]
  simp
 |ok ws=>
  obtain⟨x,s1,hq,_⟩:=Aae may gn s.length (ws:=ws) (by have:=(Awq (by omega) hw).1;omega)
  simp only[shL,List.length_map];have h1:=(Bqc (L:=s.length) (may:=may) (gn:=gn) (k:=(· +15)) (4*ws.length+4)).1 ⟨ws,none⟩;rw[hq]at h1 ⊢;have h2:shS (· +15) ⟨ws,none⟩=⟨ws.map (shW (· +15)),none⟩:=rfl;rw[h2]at h1;rw[h1];have h3:=Brv (L:=s.length) (k:=(· +15)) x s1;show U1 (s.length+15) (shQ (· +15) x) (shS (· +15) s1)=_;refine h3.trans ?_;show _=shE 15 (match(Ah1 s.length s1).bad with
   |some b=> .error (1,(b:Int))
   |none=>if 30<Df x then .error (4,-1)else .ok x)
  cases hb:(Ah1 s.length s1).bad with
  |some b=>
   simp only[hb,shE];rw[if_neg (by omega)]
   simp
  |none=>simp only[hb];split<;>rfl
end
theorem Bus(x0 x1:D):Hd C1 17 Tryz.f17 (bd Tryz.f17) [] [.dyn x0,.dyn x1] []=
 .bind (.agg 7 x0) fun x2=>
 .bind (.agg 7 x1) fun x3=>
 .bind (.bin .eql 3 (gc x2 0) (gc x3 0)) fun x4=>
 .ite x4 (
  .bind (.bin .eql 26 (.agg [(gc x2 2),(gc x2 3)]) (.agg [(gc x3 2),(gc x3 3)])) fun x5=>
  .ite x5 (
  .bind (.bin .eql 9 (gc x2 4) (gc x3 4)) fun x6=>
  .ite x6 (
   .bind (.bin .eql 3 (gc x2 5) (gc x3 5)) fun x7=>
   .ite x7 (
   .call 43 [] [(gc x2 6),(gc x3 6),(.func 17 [] [])] [] fun x8=>
   .leaf [x8] []) (
   .leaf [bf] [])) (
   .leaf [bf] [])) (
  .leaf [bf] [])) (
  .leaf [bf] []):=by kernel_rfl
theorem Bva(x0 x1:D):Hd C1 43 f43 (bd f43) [] [.dyn x0,.dyn x1,.lit (.func 17 [] [])] []=
 .bind (.ln 27 x0) fun x2=>
 .bind (.ln 27 x1) fun x3=>
 .bind (.bin .neq 3 x2 x3) fun x4=>
 .ite x4 (
  .leaf [bf] []) (
  .bind (.ln 27 x0) fun x5=>
  .loop 0 0 [bf,i0] (Ca [fun x6=>
  .bind (.bin .lss 3 (hv x6 1) x5) fun x7=>
  .ite x7 (
   .bind (.ia 27 x0 (hv x6 1)) fun x8=>
   .bind (.ld 29 x8) fun x9=>
   .bind (.agg 7 x9) fun x10=>
   .chk (cl x10 7) (
   .bind (.ia 27 x1 (hv x6 1)) fun x11=>
   .bind (.ld 29 x11) fun x12=>
   .bind (.agg 7 x12) fun x13=>
   .chk (cl x13 7) (
   .call 17 [] [(.agg (cl x10 7)),(.agg (cl x13 7))] [] fun x14=>
   .bind (.un .not x14) fun x15=>
   .ite x15 (
   .leaf [bf] []) (
   .bind (.bin .add 3 (hv x6 1) i1) fun x16=>
   .again 0 0 [(hv x6 0),x16])))) (
   .leaf [bt] [])])):=by kernel_rfl
def Bc5:Qy→Int × Bool × List UInt8 × List UInt8 × Int
 | .label _ r ln=>(1,r,ln,[],0)
 | .var _ nm=>(2,false,[],nm,0)
 | .bin k _ _ _=>(k,false,[],[],0)
 | .un k _ nm n _=>(k,false,[],nm,n)
 | .lt _ nm _ _=>(12,false,[],nm,0)
 | .whole _=>(13,false,[],[],0)
theorem Bs2(x:Qy):Br x=qc (Bc5 x).1 (atQ x) (Bc5 x).2.1 (Bc5 x).2.2.1 (Bc5 x).2.2.2.1 (Bc5 x).2.2.2.2 (.sl ((L9 x).map Br) .none):=by cases x<;>rfl
def eqQ:Qy→Qy→Bool
 | .label a r ln,y=>(Bc5 (.label a r ln) == Bc5 y) && (match L9 y with
  | []=>true
  |_=>false)
 | .var a nm,y=>(Bc5 (.var a nm) == Bc5 y) && (match L9 y with
  | []=>true
  |_=>false)
 | .whole a,y=>(Bc5 (.whole a) == Bc5 y) && (match L9 y with
  | []=>true
  |_=>false)
 | .bin k a x1 x2,y=>(Bc5 (.bin k a x1 x2) == Bc5 y) && (match L9 y with
  | [y1,y2]=>eqQ x1 y1 && (eqQ x2 y2 && true)
  |y1::_=>eqQ x1 y1 && false
  |_=>false)
 | .lt a nm x1 x2,y=>(Bc5 (.lt a nm x1 x2) == Bc5 y) && (match L9 y with
  | [y1,y2]=>eqQ x1 y1 && (eqQ x2 y2 && true)
  |y1::_=>eqQ x1 y1 && false
  |_=>false)
 | .un k a nm n x1,y=>(Bc5 (.un k a nm n x1) == Bc5 y) && (match L9 y with
  | [y1]=>eqQ x1 y1 && true
  |y1::_=>eqQ x1 y1 && false
  |_=>false)
def Bmh:List Qy→List Qy→Bool
 | [],[]=>true
 |x::l,y::m=>eqQ x y && Bmh l m
 |_,_=>false
theorem Bpi:∀{l m:List Qy},l.length≠m.length→Bmh l m=false
 | [],[],h=>absurd rfl h
 | [],_::_,_=>rfl
 |_::_,[],_=>rfl
 |x::l,y::m,h=>by unfold Bmh;rw[Bpi (l:=l) (m:=m) (by simpa using h),Bool.and_false]
theorem Bc7(x y:Qy):eqQ x y=((Bc5 x == Bc5 y) && Bmh (L9 x) (L9 y)):=by
 have hy:(L9 y= [])∨(∃a,L9 y= [a])∨∃a b,L9 y= [a,b]:=by cases y<;>simp[L9]
 cases x<;>unfold eqQ<;>rcases hy with h|⟨a,h⟩|⟨a,b,h⟩<;>rw[h]<;>simp[L9,Bmh]
theorem Bos:∀{x y:Qy},shQ (fun _=>0) x=shQ (fun _=>0) y→eqQ x y=true
 | .label _ _ _,y,h=>by cases y<;>simp[shQ]at h;obtain⟨rfl,rfl⟩:=h;simp[eqQ,Bc5,L9]
 | .var _ _,y,h=>by cases y<;>simp[shQ]at h;subst h;simp[eqQ,Bc5,L9]
 | .whole _,y,h=>by cases y<;>simp[shQ]at h;simp[eqQ,Bc5,L9]
 | .bin _ _ x1 x2,y,h=>by cases y<;>simp[shQ]at h;obtain⟨rfl,h1,h2⟩:=h;simp[eqQ,Bc5,L9,Bos h1,Bos h2]
 | .lt _ _ x1 x2,y,h=>by cases y<;>simp[shQ]at h;obtain⟨rfl,h1,h2⟩:=h;simp[eqQ,Bc5,L9,Bos h1,Bos h2]
 | .un _ _ _ _ x1,y,h=>by cases y<;>simp[shQ]at h;obtain⟨rfl,rfl,rfl,h1⟩:=h;simp[eqQ,Bc5,L9,Bos h1]
theorem Bo4(k l:Nat→Nat):∀x:Qy,shQ k (shQ l x)=shQ (fun a=>k (l a)) x
 | .label _ _ _=>rfl
 | .var _ _=>rfl
 | .whole _=>rfl
 | .bin _ _ x y=>by simp only[shQ,Bo4 k l x,Bo4 k l y]
 | .lt _ _ x y=>by simp only[shQ,Bo4 k l x,Bo4 k l y]
 | .un _ _ _ _ x=>by simp only[shQ,Bo4 k l x]
theorem Br9(l:Nat→Nat)(x:Qy):eqQ x (shQ l x)=true:=Bos (Bo4 (fun _=>0) l x).symm
theorem Bt4(l:Nat→Nat)(x:Qy):atQ (shQ l x)=l (atQ x):=by cases x<;>rfl
def Btm(b c:Bool):Option Bool:=match b with
 |true=>(match c with
  |true=>some true
  |false=>some false)
 |false=>some false
theorem Brl{b c:Bool}:Btm b c=some (b && c):=by cases b<;>cases c<;>rfl
theorem Bsx(r s:Bool)(l m:List UInt8):eqD prog 26 (.agg [.bool r,.str l]) (.agg [.bool s,.str m])=Btm (r == s) (l == m):=by kernel_rfl
theorem Bql(r s:Bool)(l m:List UInt8):(Av.bin .eql 26 (.agg [.bool r,.str l]) (.agg [.bool s,.str m])).sem prog=some (.bool ((r == s) && (l == m))):=by simp only[Av.sem,Bo,Bsx,Brl,Option.map_some]
theorem Bqi{l m:List Qy}{i:Nat}{y z:Qy}(hy:l[i]?=some y)(hz:m[i]?=some z):Bmh (l.drop i) (m.drop i)=(eqQ y z && Bmh (l.drop (i+1)) (m.drop (i+1))):=by obtain⟨h1,h2⟩:=List.getElem?_eq_some_iff.1 hy;obtain⟨h3,h4⟩:=List.getElem?_eq_some_iff.1 hz;rw[List.drop_eq_getElem_cons h1,List.drop_eq_getElem_cons h3,h2,h4];rfl
theorem Brc{l m:List Qy}(h:l.length=m.length):Bmh (l.drop l.length) (m.drop l.length)=true:=by rw[List.drop_length,h,List.drop_length];rfl
section
variable{cf:Ah}{N:Nat}(hK:∀f,Ba (cf f))
include hK
theorem Buk(l m:List Qy)(hl:l.length≤2)(hN:1000<N)(h17:∀x∈l,∀y∈m,Ao cf 17 [.agg (Br x),.agg (Br y)] (.bool (eqQ x y))):
  Ao (run C1 cf N) 43 [.sl (l.map Br) .none,.sl (m.map Br) .none,.func 17 [] []] (.bool (Bmh l m)):=by
 refine run_pure hK func43 bdy rfl rfl rfl (hs:= []) (args:= [.dyn (.sl (l.map Br) .none),.dyn (.sl (m.map Br) .none),.lit (.func 17 [] [])]) rfl ?_;rw[Bva];show wp prog cf N _ _ _;simp only[Aa,Ahj,List.length_map,Nn,Ac];by_cases hlen:l.length=m.length
 ·rw[show((l.length:Int) !=(m.length:Int))=false from by simp[hlen]]
  simp only[BF];refine wp_loop (fun n a ds=>a=0∧∃(i:Nat) (x:D),ds= [x,.int .i64 (i:Int)]∧i≤l.length∧n=l.length - i∧Bmh (l.drop i) (m.drop i)=Bmh l m) l.length (by omega) ⟨rfl,0,_,rfl,Nat.zero_le _,rfl,rfl⟩ ?_
  rintro n a ds ⟨rfl,i,x,rfl,hi,rfl,he⟩;simp only[Ca,hv,tails,List.tail_cons,List.headD_cons,Aa,Da,Vz,Ac];by_cases hlt:i<l.length
  ·obtain⟨y,hy⟩:∃y,l[i]?=some y:=⟨_,List.getElem?_eq_getElem hlt⟩;obtain⟨z,hz⟩:∃z,m[i]?=some z:=⟨_,List.getElem?_eq_getElem (by omega)⟩
   simp only[hlt,decide_true,if_true,Amw hy,Amw hz,Anv,Hl,Aa,Ae,Hm];refine⟨Kq y,Kq z,?_⟩;refine Aw (bs:= [.agg (Br y),.agg (Br z)]) (by simp[Eb,Md]) (h17 y (List.mem_of_getElem? hy) z (List.mem_of_getElem? hz)) ?_
   have hd:=Bqi hy hz;simp only[Aa,K5,Ac];cases hb:eqQ y z with
   |false=>simp only[Bool.not_false,if_true,Ab];rw[← he,hd,hb];exact Bf rfl
   |true=>
    simp only[Bool.not_true,BF,Aa,Bt,wrapN (show i<1000000 by omega),Az]
    refine⟨l.length - (i+1),by omega,rfl,i+1,x,rfl,hlt,rfl,?_⟩
    rw[← he,hd,hb,Bool.true_and]
  ·have hie:i=l.length:=by omega
   subst hie;simp only[hlt,decide_false,BF,Ab];rw[← he,Brc hlen];exact Bf rfl
 ·rw[show((l.length:Int) !=(m.length:Int))=true from by rw[bne_iff_ne];omega]
  simp only[if_true,Ab];rw[Bpi hlen];exact Bf rfl
theorem Buu(x y:Qy)(h43:Ao cf 43 [.sl ((L9 x).map Br) .none,.sl ((L9 y).map Br) .none,.func 17 [] []] (.bool (Bmh (L9 x) (L9 y)))):Ao (run C1 cf N) 17 [.agg (Br x),.agg (Br y)] (.bool (eqQ x y)):=by
 refine Cg hK func17 bdy rfl rfl rfl (Bus _ _) ?_;rw[Bc7];simp only[Aa,Hl];rw[Bs2 x,Bs2 y];generalize Bc5 x=kx;generalize Bc5 y=ky;obtain⟨k,r,ln,nm,n⟩:=kx;obtain⟨k',r',ln',nm',n'⟩:=ky;obtain⟨g0,g1,g2,g3,g4,g5,g6⟩:= @Al7 k (atQ x) r ln nm n (.sl ((L9 x).map Br) .none);obtain⟨f0,f1,f2,f3,f4,f5,f6⟩:= @Al7 k' (atQ y) r' ln' nm' n' (.sl ((L9 y).map Br) .none);rw[show((k,r,ln,nm,n) == (k',r',ln',nm',n'))=((k == k') && ((r == r') && ((ln == ln') && ((nm == nm') && (n == n')))))from rfl];simp only[g0,g2,g3,g4,g5,g6,f0,f2,f3,f4,f5,f6,En,Di,Bql,Ac];cases k == k' with
 |false=>simp only[BF,Ab];exact Bf rfl
 |true=>
 simp only[if_true,Aa,Bql,Di,En,Ac];cases r == r' with
 |false=>simp only[Bool.false_and,BF,Ab];exact Bf rfl
 |true=>
 cases ln == ln' with
 |false=>simp only[Bool.and_false,BF,Ab];exact Bf rfl
 |true=>
 simp only[Bool.and_self,if_true,Aa,Di,En,Ac];cases nm == nm' with
 |false=>simp only[BF,Ab];exact Bf rfl
 |true=>
 simp only[if_true,Aa,En,Ac];cases n == n' with
 |false=>simp only[BF,Ab];exact Bf rfl
 |true=>
 simp only[if_true];refine Aw (bs:= [.sl ((L9 x).map Br) .none,.sl ((L9 y).map Br) .none,.func 17 [] []]) rfl h43 ?_;simp only[Ab,Bool.true_and];exact Bf rfl
end
section
variable{L:Nat}{may:List UInt8→Bool}{gn:List UInt8→Int × Bool}
def Bn(L:Nat)(s:PS):Prop:=(∀w∈s.ws,w.at_≤L)∧∀b,s.bad=some b→b≤L
theorem Bn.hd{s:PS}(h:Bn L s):(Cn L s.ws).at_≤L:=by
 cases hs:s.ws with
 |nil=>exact Nat.le_refl L
 |cons w ws=>exact h.1 w (by rw[hs];simp)
theorem Bn.tail{s:PS}(h:Bn L s):Bn L ⟨s.ws.tail,s.bad⟩:=⟨fun w hw=>h.1 w (List.mem_of_mem_tail hw),h.2⟩
theorem Bn.fails{s:PS}(h:Bn L s):Bn L (Hf L s):=by
 refine⟨h.1,fun b hb=>?_⟩;unfold Hf at hb;cases hs:s.bad with
 |none=>rw[hs]at hb;cases hb;exact h.hd
 |some c=>rw[hs]at hb;cases hb;exact h.2 _ hs
theorem Bn.must{s:PS}{K:Int}{tx:List UInt8}(h:Bn L s):Bn L (A8 L s K tx):=by
 unfold A8;split
 ·exact h.tail
 ·exact h.fails
theorem Bn.next{s:PS}{K:Int}{m:List UInt8→Bool}(h:Bn L s):Bn L (Bb L s K m).2:=by
 unfold Bb;split
 ·exact h.tail
 ·exact h.fails
theorem Bn.num{s:PS}{gn:List UInt8→Int × Bool}(h:Bn L s):Bn L (Zk L gn s).2:=Bn.next h
def BnG(L:Nat)(f:PS→Option (Qy × PS)):Prop:=∀(s:PS) (x:Qy) (s':PS),Bn L s→f s=some (x,s')→Bn L s'
theorem Brt{item:PS→Option (Qy × PS)}(hi:BnG L item):∀(m:Nat) (x:Qy) (s:PS) (y:Qy) (s':PS),Bn L s→Kw L item m x s=some (y,s')→Bn L s'
 |0,x,s,y,s',_,h=>by simp[Kw]at h
 |m+1,x,s,y,s',hS,h=>by
  unfold Kw at h;split at h
  ·cases h;exact hS
  ·split at h
   ·cases h
   ·rename_i z s2 hz;exact Brt hi m _ s2 y s' (hi _ _ _ hS.tail hz) h
theorem Bsh{q:PS→Option (Qy × PS)}(hq:BnG L q)(a:Nat)(w:List UInt8):BnG L (Q7 L gn q a w):=by
 intro s x s' hS h;unfold Q7 at h;split at h
 ·split at h
  ·cases h
  ·rename_i y s1 hy;split at h
   ·cases h;exact(Bn.must (hq _ _ _ hS hy)).num
   ·cases h;exact hq _ _ _ hS hy
 split at h
 ·split at h
  ·cases h
  ·rename_i y s1 hy;cases h;exact hq _ _ _ hS hy
 split at h
 ·split at h
  ·cases h
  ·rename_i y s1 hy;split at h
   ·cases h
   ·rename_i z s2 hz;cases h;exact hq _ _ _ (Bn.must (hq _ _ _ hS hy)) hz
 split at h
 ·split at h
  ·cases h
  ·rename_i y s1 hy;cases h;exact hq _ _ _ (Bn.must (Bn.next hS)) hy
 split at h
 ·split at h
  ·cases h
  ·rename_i y s1 hy;cases h;exact hq _ _ _ (Bn.must (Bn.next hS)) hy
 ·cases h;exact hS
theorem Bs3:∀n:Nat,BnG L (Fe L may gn n)∧BnG L (Uv L may gn n)∧BnG L (Jv L may gn n)∧∀a,BnG L (fun s=>Py L may gn n s a)
 |0=>⟨fun s x s' _ h=>by simp[Fe]at h,fun s x s' _ h=>by simp[Uv]at h,fun s x s' _ h=>by simp[Jv]at h,fun a s x s' _ h=>by simp[Py]at h⟩
 |n+1=>by
  obtain⟨h1,h2,h3,h4⟩:=Bs3 n;refine⟨fun s x s' hS h=>?_,fun s x s' hS h=>?_,fun s x s' hS h=>?_,fun a s x s' hS h=>?_⟩
  ·unfold Fe at h;split at h
   ·split at h
    ·cases h
    ·rename_i y s4 hy;split at h
     ·cases h
     ·rename_i z s6 hz;cases h;exact h1 _ _ _ (Bn.must (h1 _ _ _ (Bn.must (Bn.next (Bn.must hS))) hy)) hz
   ·exact h2 _ _ _ hS h
  ·unfold Uv at h;split at h
   ·cases h
   ·rename_i y s1 hy;exact Brt h3 _ _ _ _ _ (h3 _ _ _ hS hy) h
  ·unfold Jv at h;split at h
   ·cases h;exact Bn.next (Bn.must hS)
   split at h
   ·cases h;exact Bn.next (Bn.must hS)
   split at h
   ·split at h
    ·cases h
    ·rename_i y s2 hy;cases h;exact Bn.must (h1 _ _ _ (Bn.must hS) hy)
   split at h
   ·exact h4 _ _ _ _ hS h
   ·cases h;exact Bn.next hS
  ·simp only[Py]at h;split at h
   ·cases h
   ·rename_i y s1 hy;cases h;exact Bn.must (Bsh h1 _ _ _ _ _ (Bn.must hS.tail) hy)
theorem Bsf{s:List UInt8}{i e:Nat}{w:Wd}(h:Fq s i=some (w,e)):w.at_=i:=by
 unfold Fq at h;split at h
 ·cases h;rfl
 ·split at h
  ·cases h
  ·split at h
   ·simp only[Option.map_eq_some_iff,Prod.mk.injEq]at h;obtain⟨p,_,rfl,_⟩:=h;rfl
   ·split at h
    ·cases h;rfl
    ·cases h
theorem Bq1{s:List UInt8}:∀(n i:Nat),i≤s.length→(∀ws,M6 n s i= .ok ws→∀w∈ws,w.at_≤s.length)∧∀j,M6 n s i= .error j→j≤s.length
 |0,i,hi=>⟨fun ws h=>by simp[M6]at h,fun j h=>by simp only[M6,Except.error.injEq]at h;omega⟩
 |n+1,i,hi=>by
  unfold M6;by_cases hlt:i<s.length
  ·rw[if_pos hlt];cases hw:Fq s i with
   |none=>
    refine⟨fun ws h=>(by cases h),fun j h=>?_⟩
    simp only[Except.error.injEq]at h;omega
   |some p=>
    obtain⟨w,e⟩:=p;obtain⟨h1,h2⟩:=Mq hlt hw;have h3:=O7 false (s.drop e);rw[List.length_drop]at h3;obtain⟨h4,h5⟩:=Bq1 (s:=s) n (e+Db false (s.drop e)) (by omega)
    simp only;cases hr:M6 n s (e+Db false (s.drop e))with
    |error k=>
     refine⟨fun ws h=>(by cases h),fun j h=>?_⟩
     cases h;exact h5 _ hr
    |ok l=>
     refine⟨fun ws h v hv=>?_,fun j h=>(by cases h)⟩
     cases h;rcases List.mem_cons.1 hv with rfl|hv
     ·rw[Bsf hw];omega
     ·exact h4 _ hr v hv
  ·rw[if_neg hlt];refine⟨fun ws h w hw=>?_,fun j h=>(by cases h)⟩
   cases h;cases hw
theorem Bsg{s:List UInt8}{c a:Int}(h:Qx may gn s= .error (c,a)):a≤s.length:=by
 unfold Qx at h;split at h
 ·cases h;omega
 split at h
 ·rename_i i hw;cases h;have:=(Bq1 (s:=s) _ _ (O7 false s)).2 _ hw;omega
 ·rename_i ws hw;split at h
  ·cases h;omega
  ·rename_i y s1 hq;have h0:Bn s.length (⟨ws,none⟩:PS):=⟨(Bq1 (s:=s) _ _ (O7 false s)).1 _ hw,fun b hb=>(by cases hb)⟩
   have h1:=(Bs3 _).1 _ _ _ h0 hq;have h2:Bn s.length (Ah1 s.length s1):=by
    unfold Ah1;split
    ·exact h1.fails
    ·exact h1
   unfold U1 at h;cases hb:(Ah1 s.length s1).bad with
   |some b=>rw[hb]at h;cases h;have:=h2.2 _ hb;omega
   |none=>
    rw[hb]at h;simp only at h;split at h
    ·cases h;omega
    ·cases h
end
theorem Bvm(hK:∀n f,Ba (CF n f)):∀(n m:Nat) (x y:Qy),Df x≤n→Ao (CF (m+2*n)) 17 [.agg (Br x),.agg (Br y)] (.bool (eqQ x y))
 |0,m,x,y,h=>absurd (Xv x) (by omega)
 |n+1,m,x,y,h=>pS rfl (Buu (hK _) x y (pS rfl (Buk (hK _) (L9 x) (L9 y) (Aco x) (by decide) fun a ha b hb=>by have hd:=Ms x;have:Df a≤dmax (L9 x):=Ah4 ha;exact Bvm hK n m a b (by omega))))
theorem Bvi(x y:Qy)(st:St):Cw st [.agg (Br x),.agg (Br y)]=some ([.agg (Br x),.agg (Br y)],st):=by have h1:frz Gu st (.agg (Br x))=some (.agg (Br x),st):=Ait (Md x);have h2:frz Gu st (.agg (Br y))=some (.agg (Br y),st):=Ait (Md y);unfold Cw;simp[Eu,h1,h2]
section
variable{st:St}
theorem ln1(a:Obj):(st++ [a]).length=st.length+1:=by simp
theorem ln2(a b:Obj):(st++ [a,b]).length=st.length+2:=by simp
theorem ln3(a b c:Obj):(st++ [a,b,c]).length=st.length+3:=by simp
theorem ap2(a b:Obj):st++ [a]++ [b]=st++ [a,b]:=by simp
theorem ap3(a b c:Obj):st++ [a,b]++ [c]=st++ [a,b,c]:=by simp
theorem ap4(a b c d:Obj):st++ [a,b,c]++ [d]=st++ [a,b,c,d]:=by simp
theorem Btk{cs z:List D}{os:List Obj}(hz:z.length=7)(h:cs.length=7)(h2:cs.all Al=true):I4 prog 29 (.ptr st.length 0) (.agg cs) (st++ .cells z::os)=some (.undef,st++ .cells cs::os,[st.length]):=by unfold I4;simp[Wp,h,h2,hz,D.cells,List.set_append]
theorem Btp{c a:Int}{z:List D}{o:Obj}{os:List Obj}(hz:z.length=2):I4 prog 32 (.ptr (st.length+1) 0) (.agg [.int .i64 c,.int .i64 a]) (st++o:: .cells z::os)=some (.undef,st++o:: .cells [.int .i64 c,.int .i64 a]::os,[st.length+1]):=by unfold I4;simp[Boc,hz,D.cells,Al,List.getElem?_append_right,List.set_append_right]
theorem Btn{cs z:List D}{o p:Obj}{os:List Obj}(hz:z.length=7)(h:cs.length=7)(h2:cs.all Al=true):I4 prog 29 (.ptr (st.length+2) 0) (.agg cs) (st++o::p:: .cells z::os)=some (.undef,st++o::p:: .cells cs::os,[st.length+2]):=by unfold I4;simp[Wp,h,h2,hz,D.cells,List.getElem?_append_right,List.set_append_right]
theorem Btq{c a:Int}{z:List D}{o p q:Obj}{os:List Obj}(hz:z.length=2):I4 prog 32 (.ptr (st.length+3) 0) (.agg [.int .i64 c,.int .i64 a]) (st++o::p::q:: .cells z::os)=some (.undef,st++o::p::q:: .cells [.int .i64 c,.int .i64 a]::os,[st.length+3]):=by unfold I4;simp[Boc,hz,D.cells,Al,List.getElem?_append_right,List.set_append_right]
theorem Bs4{c a:Int}{o:Obj}{os:List Obj}:Fp prog 30 (.ptr (st.length+1) 0) (st++o:: .cells [.int .i64 c,.int .i64 a]::os)=some (.int .i64 c,.rd [st.length+1]):=by unfold Fp Dk;simp[Bo2,Bpj,List.getElem?_append_right]
theorem Bvh{c a:Int}{o:Obj}{os:List Obj}:Fp prog 3 (.ptr (st.length+1) 1) (st++o:: .cells [.int .i64 c,.int .i64 a]::os)=some (.int .i64 a,.rd [st.length+1]):=by unfold Fp Dk;simp[Auu,A59,List.getElem?_append_right]
theorem Bs5{c a:Int}{o p q:Obj}{os:List Obj}:Fp prog 30 (.ptr (st.length+3) 0) (st++o::p::q:: .cells [.int .i64 c,.int .i64 a]::os)=some (.int .i64 c,.rd [st.length+3]):=by unfold Fp Dk;simp[Bo2,Bpj,List.getElem?_append_right]
theorem Bvo{c a:Int}{o p q:Obj}{os:List Obj}:Fp prog 3 (.ptr (st.length+3) 1) (st++o::p::q:: .cells [.int .i64 c,.int .i64 a]::os)=some (.int .i64 a,.rd [st.length+3]):=by unfold Fp Dk;simp[Auu,A59,List.getElem?_append_right]
theorem Bvj{cs:List D}{os:List Obj}(h:cs.length=7):Fp prog 29 (.ptr st.length 0) (st++ .cells cs::os)=some (.agg cs,.rd [st.length]):=by unfold Fp Dk;simp[Wp,Bb3,h];rw[List.take_of_length_le (by omega)]
theorem Bu6{cs:List D}{o p:Obj}{os:List Obj}(h:cs.length=7):Fp prog 29 (.ptr (st.length+2) 0) (st++o::p:: .cells cs::os)=some (.agg cs,.rd [st.length+2]):=by unfold Fp Dk;simp[Wp,Bb3,h,List.getElem?_append_right];rw[List.take_of_length_le (by omega)]
theorem Bwb{x y:D}{cs:List D}{os:List Obj}(hc:y.cells= [y]):Fp prog 3 (.ptr st.length 1) (st++ .cells (x::y::cs)::os)=some (y,.rd [st.length]):=by unfold Fp Dk;simp[Auu,A59]
theorem Bv9{x y:D}{cs:List D}{o p:Obj}{os:List Obj}(hc:y.cells= [y]):Fp prog 3 (.ptr (st.length+2) 1) (st++o::p:: .cells (x::y::cs)::os)=some (y,.rd [st.length+2]):=by unfold Fp Dk;simp[Auu,A59,List.getElem?_append_right]
end
theorem Btl{id:Nat}:Eh prog 32 (.ptr id 0) 1=some (.ptr id 1,.pure):=by kernel_rfl
theorem Bt1{id:Nat}:Eh prog 29 (.ptr id 0) 1=some (.ptr id 1,.pure):=by kernel_rfl
theorem lnG(st:St):Ny prog 9 (.str [32,35,32,97,32,114,101,109,97,114,107,32,40,10,9]) st=some (.int .i64 15,.pure):=Boa _ st
theorem Br2{a:Int}{n:Nat}(h:a≤1000000)(h2: -1000000≤a)(hn:n≤1000000):Bo prog .add 3 (.int .i64 a) (.int .i64 (n:Int))=some (.int .i64 (a+n)):=by show some (D.int .i64 (IntKind.i64.wrap (a+(n:Int))))=_;rw[Go.IntWalk.i64_in _ (by omega)]
theorem Br6(a:Int)(t:TypeId):Bo prog .eql t (.int .i64 a) (.int .i64 a)=some (.bool true):=by show some (D.bool (a == a))=_;simp
set_option maxHeartbeats 8000000 in
theorem Bvp{cf:Ah}{N:Nat}(h9:Ao cf 9 [] (.bool true))(h11:∀t:List UInt8,Ao cf 11 [.str t,.int .i64 300] (.str (t.take 300)))(h12:∀t:List UInt8,Ao cf 12 [.str t] (Aaw (Qx nmP gnP t)))
  (h17:∀(t:List UInt8) (x y:Qy),Qx nmP gnP t= .ok x→Ao cf 17 [.agg (Br x),.agg (Br y)] (.bool (eqQ x y)))(s:List UInt8):Ao (run C1 cf N) 6 [.str s] (.bool true):=fun st=>by
 have hP:C1.P=prog:=rfl;have hc9:∀st,G6 C1 cf 9 [] [] [] st=some (.bool true,st,[]):=fun st=>Amz (by kernel_rfl) rfl rfl (h9 st)
 have hc11:∀st,G6 C1 cf 11 [] [] [.str s,.int .i64 300] st=some (.str (s.take 300),st,[]):=fun st=>Amz (by kernel_rfl) rfl rfl (h11 s st)
 have htl:(s.take 300).length≤300:=by rw[List.length_take];omega
 generalize s.take 300=t at hc11 htl;have hcA:∀st,G6 C1 cf 12 [] [] [.str t] st=some (Aaw (Qx nmP gnP t),st,[]):=fun st=>Amz (by kernel_rfl) rfl rfl (h12 _ st)
 have hcB:∀st,G6 C1 cf 12 [] [] [.str ([32,35,32,97,32,114,101,109,97,114,107,32,40,10,9]++t)] st=some (Aaw (shE 15 (Qx nmP gnP t)),st,[]):=fun st=>by rw[← Bsk htl];exact Amz (by kernel_rfl) rfl rfl (h12 _ st)
 have b0:Bo prog .add 9 (.str [32,35,32,97,32,114,101,109,97,114,107,32,40,10,9]) (.str t)=some (.str ([32,35,32,97,32,114,101,109,97,114,107,32,40,10,9]++t)):=by show(if([32,35,32,97,32,114,101,109,97,114,107,32,40,10,9]:List UInt8).length+t.length<2 ^ 40 then some (D.str (_++t))else none)=_;rw[if_pos (by simp only[List.length_cons,List.length_nil];omega)]
 have lnT:∀st,Ny prog 9 (.str t) st=some (.int .i64 (t.length:Int),.pure):=fun st=>Boa t st;have b1:Bo prog .add 3 (.int .i64 15) (.int .i64 (t.length:Int))=some (.int .i64 (15+(t.length:Int))):=Br2 (by omega) (by omega) (by omega)
 have b2:Bo prog .gtr 3 (.int .i64 (15+(t.length:Int))) (.int .i64 400)=some (.bool false):=by show some (D.bool (decide ((15+(t.length:Int))>400)))=_;rw[decide_eq_false (by omega)]
 refine Bj9 func6 (bdy (by kernel_rfl)) rfl rfl rfl ?_
 generalize he:(([.str s]:List D)++List.replicate (Tryz.f6.ntmps - ([.str s]:List D).length) .undef)=e;have hl:e.length=81:=by rw[← he];rfl
 have e0:e.getD 0 .undef= .str s:=by rw[← he];rfl
 clear he;refine Bj8 ?_;obtain⟨code,hcode⟩:∃code,code=strip (bd Tryz.f6):=⟨_,rfl⟩;rw[← hcode];simp only[bd,Tryz.f6,strip,Dl,List.map_toArray,MC]at hcode;subst hcode;have hV1:∀id∈ [st.length],st.length≤id:=by simp
 have hV2:∀id∈ [st.length+1],st.length≤id:=by simp
 have hV3:∀id∈ [st.length+2],st.length≤id:=by simp
 have hV4:∀id∈ [st.length+3],st.length≤id:=by simp
 cases ho:Qx nmP gnP t with
 |error ca=>
  obtain⟨c,a⟩:=ca;have hc:=Bli ho;have ha:=Bsg ho;rw[ho]at hcA hcB;have b3:Bo prog .neq 30 (.int .i64 c) (.int .i64 0)=some (.bool true):=by show some (D.bool (c !=0))=_;simp[hc]
  have v1:= @Btk st (qc 0 0 false [] [] 0 (.sl [] .none)) [.int .i64 0,.int .i64 0,.bool false,.str [],.str [],.int .i64 0,.nilsl] [.cells [.int .i64 0,.int .i64 0]] rfl rfl rfl;have v2:=fun o=> @Btp st c a [.int .i64 0,.int .i64 0] o [] rfl;have v3:=fun o p=> @Btn st (qc 0 0 false [] [] 0 (.sl [] .none)) [.int .i64 0,.int .i64 0,.bool false,.str [],.str [],.int .i64 0,.nilsl] o p [.cells [.int .i64 0,.int .i64 0]] rfl rfl rfl;have v4:=fun a o p q=> @Btq st c a [.int .i64 0,.int .i64 0] o p q [] rfl;by_cases h0:a<0
  ·have b4:Bo prog .lss 3 (.int .i64 a) (.int .i64 0)=some (.bool true):=by
    show some (D.bool (decide (a<0)))=_;rw[decide_eq_true h0]
   simp only[shE,Aaw,if_pos h0]at hcA hcB
   repeat (first
    |refine A00 ?_|refine Asu ?_|refine Bkx ?_|refine Awr ?_|refine Avq ?_|refine Ay7 ?_|refine Bq (by decide) ?_|refine Eg rfl rfl ?_|refine Zc (by first|exact hV1|exact hV2|exact hV3|exact hV4|(simp;done)) ?_
    |((first|refine Ei rfl rfl rfl rfl ?_|refine Ee rfl rfl ?_|refine Ed rfl rfl ?_|refine Bni ?_);refine⟨_,by simp only[Bj,BB,Af,ev,Am,Ak,Ag,Gc,Ai,↓reduceIte,Nat.reduceEqDiff,Nat.reduceLT,Aj,hP,hl,e0,lnG,lnT,hc9,hc11,hcA,hcB,Apq,Bnh,Bns,ln1,ln2,ln3,ap2,ap3,ap4,v1,v2,v3,v4,Bs4,Bvh,Bs5,Bvo,Bo7,Btl,b0,b1,b2,b3,b4,Br6];first|done|rfl,?_⟩)
    |dsimp only)
   refine⟨rfl,?_,[_,_,_,_],rfl⟩;show Gm C1.P _ _ [.tmp 2]=_;simp only[Gm,BB,Am,hl,Nat.reduceEqDiff,↓reduceIte,Nat.reduceLT]
  ·have b4:Bo prog .lss 3 (.int .i64 a) (.int .i64 0)=some (.bool false):=by
    show some (D.bool (decide (a<0)))=_;rw[decide_eq_false h0]
   have b5:Bo prog .add 3 (.int .i64 a) (.int .i64 15)=some (.int .i64 (a+15)):=Br2 (n:=15) (by omega) (by omega) (by omega)
   simp only[shE,Aaw,if_neg h0]at hcA hcB;have hcB2:∀st,G6 C1 cf 12 [] [] [.str ([32,35,32,97,32,114,101,109,97,114,107,32,40,10,9]++t)] st=some (.tup [.agg Apq,.agg [.int .i64 c,.int .i64 (a+15)]],st,[]):=hcB;clear hcB
   repeat (first
    |refine A00 ?_|refine Asu ?_|refine Bkx ?_|refine Awr ?_|refine Avq ?_|refine Ay7 ?_|refine Bq (by decide) ?_|refine Eg rfl rfl ?_|refine Zc (by first|exact hV1|exact hV2|exact hV3|exact hV4|(simp;done)) ?_
    |((first|refine Ei rfl rfl rfl rfl ?_|refine Ee rfl rfl ?_|refine Ed rfl rfl ?_|refine Bni ?_);refine⟨_,by simp only[Bj,BB,Af,ev,Am,Ak,Ag,Gc,Ai,↓reduceIte,Nat.reduceEqDiff,Nat.reduceLT,Aj,hP,hl,e0,lnG,lnT,hc9,hc11,hcA,hcB2,Apq,Bnh,Bns,ln1,ln2,ln3,ap2,ap3,ap4,v1,v2,v3,v4,Bs4,Bvh,Bs5,Bvo,Bo7,Btl,b0,b1,b2,b3,b4,b5,Br6];first|done|rfl,?_⟩)
    |dsimp only)
   refine⟨rfl,?_,[_,_,_,_],rfl⟩;show Gm C1.P _ _ [.tmp 2]=_;simp only[Gm,BB,Am,hl,Nat.reduceEqDiff,↓reduceIte,Nat.reduceLT]
 |ok x=>
  have hpl:=(Bi0 (by kernel_rfl) ho).top
  have hax:atQ x≤300:=by have:=hpl.1;omega
  have hc17:∀st,G6 C1 cf 17 [] [] [.agg (Br x),.agg (Br (shQ (fun a=>a+15) x))] st=some (.bool true,st,[]):=fun st=>by have h:=h17 t x (shQ (fun a=>a+15) x) ho st;rw[Br9]at h;exact Amz (by kernel_rfl) rfl (Bvi _ _ st) h
  rw[ho]at hcA hcB;simp only[shE,Aaw]at hcA hcB;have b3:Bo prog .neq 30 (.int .i64 0) (.int .i64 0)=some (.bool false):=rfl;have hat:=Bt4 (fun a=>a+15) x;generalize hy:shQ (fun a=>a+15) x=y at hc17 hcB hat;obtain⟨k,r,ln,nm,n,hk⟩:∃k r ln nm n,Br x= .int .i64 k:: .int .i64 (atQ x:Int):: [.bool r,.str ln,.str nm,.int .i64 n,.sl ((L9 x).map Br) .none]:=⟨_,_,_,_,_,Bs2 x⟩;obtain⟨k',r',ln',nm',n',hk'⟩:∃k r ln nm n,Br y= .int .i64 k:: .int .i64 (atQ y:Int):: [.bool r,.str ln,.str nm,.int .i64 n,.sl ((L9 y).map Br) .none]:=⟨_,_,_,_,_,Bs2 y⟩;have v1:= @Btk st (Br x) [.int .i64 0,.int .i64 0,.bool false,.str [],.str [],.int .i64 0,.nilsl] [.cells [.int .i64 0,.int .i64 0]] rfl (Su x) (Kq x);have v2:=fun o=> @Btp st 0 0 [.int .i64 0,.int .i64 0] o [] rfl;have v3:=fun o p=> @Btn st (Br y) [.int .i64 0,.int .i64 0,.bool false,.str [],.str [],.int .i64 0,.nilsl] o p [.cells [.int .i64 0,.int .i64 0]] rfl (Su y) (Kq y);have v4:=fun o p q=> @Btq st 0 0 [.int .i64 0,.int .i64 0] o p q [] rfl;have v5:=fun os=> @Bvj st (Br x) os (Su x);have v6:=fun o p os=> @Bu6 st (Br y) o p os (Su y);have v7:∀os,Fp prog 3 (.ptr st.length 1) (st++ .cells (Br x)::os)=some (.int .i64 (atQ x:Int),.rd [st.length]):=fun os=>by rw[hk];exact Bwb rfl
  have v8:∀o p os,Fp prog 3 (.ptr (st.length+2) 1) (st++o::p:: .cells (Br y)::os)=some (.int .i64 ((atQ x:Int)+15),.rd [st.length+2]):=fun o p os=>by rw[hk',hat];exact Bv9 rfl
  have b5:Bo prog .add 3 (.int .i64 (atQ x:Int)) (.int .i64 15)=some (.int .i64 ((atQ x:Int)+15)):=Br2 (n:=15) (by omega) (by omega) (by omega)
  clear hk hk'
  repeat (first
   |refine A00 ?_|refine Asu ?_|refine Bkx ?_|refine Awr ?_|refine Avq ?_|refine Ay7 ?_|refine Bq (by decide) ?_|refine Eg rfl rfl ?_|refine Zc (by first|exact hV1|exact hV2|exact hV3|exact hV4|(simp;done)) ?_
   |((first|refine Ei rfl rfl rfl rfl ?_|refine Ee rfl rfl ?_|refine Ed rfl rfl ?_|refine Bni ?_);refine⟨_,by simp only[Bj,BB,Af,ev,Am,Ak,Ag,Gc,Ai,↓reduceIte,Nat.reduceEqDiff,Nat.reduceLT,Aj,hP,hl,e0,lnG,lnT,hc9,hc11,hcA,hcB,hc17,Bnh,Bns,ln1,ln2,ln3,ap2,ap3,ap4,v1,v2,v3,v4,v5,v6,v7,v8,Bs4,Bs5,Bt1,Bo7,b0,b1,b2,b3,b5,Br6];first|done|rfl,?_⟩)
   |dsimp only)
  refine⟨rfl,?_,[_,_,_,_],rfl⟩;show Gm C1.P _ _ [.tmp 2]=_;simp only[Gm,BB,Am,hl,Nat.reduceEqDiff,↓reduceIte,Nat.reduceLT]
theorem Bvk(hK:∀n f,Ba (CF n f))(s:List UInt8):Ao (CF 4009) 6 [.str s] (.bool true):=
 pS rfl (Bvp (Bdq _) (fun t=>pS rfl (A8a (hK _) t 300)) (A8v hK) (fun t x y hx=>Bvm hK 30 3948 x y (Arn hx)) s)
theorem Bwe{W:World}(hL:A6p W)(s:ByteArray):Calls prog 6 #[.string s] W fun e W'=>e= .returned (.bool true)∧Aps W W':=by refine(At2 hL (fun hK=>Bvk hK s.data.toList) (Bgm s)).mono ?_;rintro e W' ⟨r,g',rfl,hv,hk⟩;cases hv;exact⟨rfl,hk⟩
end Go.Vam
