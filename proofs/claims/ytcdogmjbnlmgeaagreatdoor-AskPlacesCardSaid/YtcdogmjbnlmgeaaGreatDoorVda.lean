/- P. -/
import Derived.Test.YtcdogmjbnlmgeaaGreatDoorVci
set_option linter.unusedSimpArgs false
set_option linter.unusedVariables false
noncomputable section
set_option maxRecDepth 1000000
namespace Go.Vam
open Go.Proofs Go.Proofs.Tryz
section
variable{C:Eo}{hh:Bool}{od:Nat→Option (List Nat × Bool)}{cf:Ah}{N:Nat}{Pw:Nat→Prop}{e:Env}{st st':St}{Q:Ex→Env→St→Prop}{R:Env→St→Prop}{ops:Array Oper}{l:List Nat}
theorem Bni{c:Operand}{a b:Code}(h:∃d,ev e c=d∧match d with
  | .bool true=>ExO C hh od cf N Pw a e st Q
  | .bool false=>ExO C hh od cf N Pw b e st Q
  |_=>False):ExO C hh od cf N Pw (.cond c a b) e st Q:=by
 obtain⟨d,hc,h⟩:=h;cases d with
 |bool b=>cases b<;>first|exact Ak5 hc h|exact Afn hc h
 |_=>exact h.elim
end
theorem Bj9{cf:Ah}{N:Nat}{f:FuncId}{fn:Func}{c:Code}{args:List D}{st:St}{b:Bool}(hfn:prog.funcs[f]?=some fn)(hb:fn.body=some c)(hh:C1.hnd.contains f=false)(hk:C1.keepArr.contains f=false)(hk2:C1.keepNil.contains f=false)
  (h:ExO C1 false (C1.ords f) cf N (fun id=>st.length≤id) c (args++List.replicate (fn.ntmps - args.length) .undef) st (fun y e' st'=>y= .ret∧Gm C1.P e' st' fn.results.toList=some [.bool b]∧∃more,st'=st++more)):run C1 cf N f args st=some (.bool b,st,[]):=by
 obtain⟨y,e',st',V,h1,h2,rfl,h3,more,rfl⟩:=h.ex;have hfil:V.filter (· <st.length)= []:=by rw[List.filter_eq_nil_iff];intro id hid;have:=h2 id hid;simp;omega
 have hfin:finish st.length (.bool b) (st++more) V=some (.bool b,st,[]):=by rw[Rm rfl hfil];simp
 unfold run;have hP:C1.P=prog:=rfl;rw[hP,hfn];dsimp only;rw[hb];dsimp only;rw[hh,h1];dsimp only;rw[hP]at h3;rw[h3];dsimp only;have hz:Ls C1 f [.bool b] (st++more)=some ([.bool b],st++more):=by unfold Ls;rw[hk,hk2];rfl
 rw[hz];dsimp only;rw[Du];exact hfin
def Ael:Qy→List UInt8
 | .label _ r ln=>if r then[58]else ln
 | .var _ _=> [36]
 | .bin k _ _ _=>if k=3 then[43]else if k=4 then[94]else if k=5 then[45]else if k=8 then Afo else if k=9 then Zq else[]
 | .un k _ _ _ _=>if k=6 then Aj1 else if k=7 then Abt else if k=10 then Ake else if k=11 then X5 else[]
 | .lt _ _ _ _=>Ib
 | .whole _=>A76
def atQ:Qy→Nat
 | .label a _ _=>a
 | .var a _=>a
 | .bin _ a _ _=>a
 | .un _ a _ _ _=>a
 | .lt a _ _ _=>a
 | .whole a=>a
def Aem(p:Qy→Prop):Qy→Prop
 | .bin k a x y=>p (.bin k a x y)∧Aem p x∧Aem p y
 | .lt a nm x y=>p (.lt a nm x y)∧Aem p x∧Aem p y
 | .un k a nm n x=>p (.un k a nm n x)∧Aem p x
 | .label a r ln=>p (.label a r ln)
 | .var a nm=>p (.var a nm)
 | .whole a=>p (.whole a)
theorem Aem.top{p:Qy→Prop}{x:Qy}(h:Aem p x):p x:=by cases x<;>first|exact h|exact h.1
theorem Aem.mono{p q:Qy→Prop}(hp:∀x,p x→q x):∀{x:Qy},Aem p x→Aem q x
 | .bin _ _ _ _,h=>⟨hp _ h.1,Aem.mono hp h.2.1,Aem.mono hp h.2.2⟩
 | .lt _ _ _ _,h=>⟨hp _ h.1,Aem.mono hp h.2.1,Aem.mono hp h.2.2⟩
 | .un _ _ _ _ _,h=>⟨hp _ h.1,Aem.mono hp h.2⟩
 | .label _ _ _,h=>hp _ h
 | .var _ _,h=>hp _ h
 | .whole _,h=>hp _ h
def Alt(W:List Wd)(q:Qy):Prop:=∃w,w∈W∧w.at_=atQ q∧w.tx=Ael q∧Ael q≠ []∧(w.k=1∨w.k=3)
section
variable{L:Nat}{may:List UInt8→Bool}{gn:List UInt8→Int × Bool}{W:List Wd}
theorem Akn(s:PS):(Hf L s).bad≠none:=by unfold Hf;cases s.bad<;>simp
theorem Aac{s:PS}{K:Int}{tx:List UInt8}(h:(A8 L s K tx).bad=none):Ry L s K tx=true∧s.bad=none:=by
 unfold A8 at h;split at h
 ·rename_i hb;exact⟨hb,h⟩
 ·exact absurd h (Akn s)
theorem Aek{s:PS}{K:Int}{m:List UInt8→Bool}(h:(Bb L s K m).2.bad=none):M9 L s K m=true∧s.bad=none∧(Bb L s K m).1=(Cn L s.ws).tx:=by
 unfold Bb at h ⊢;split at h
 ·rename_i hb;rw[if_pos hb];exact⟨hb,h,rfl⟩
 ·exact absurd h (Akn s)
def Al0(W:List Wd)(s:PS):Prop:=∀w∈s.ws,w∈W
theorem Al0.tail{s:PS}{b:Option Nat}(h:Al0 W s):Al0 W ⟨s.ws.tail,b⟩:=fun w hw=>h w (List.mem_of_mem_tail hw)
theorem Al0.fails{s:PS}(h:Al0 W s):Al0 W (Hf L s):=h
theorem Al0.must{s:PS}{K:Int}{tx:List UInt8}(h:Al0 W s):Al0 W (A8 L s K tx):=by
 unfold A8;split
 ·exact h.tail
 ·exact h.fails
theorem Al0.next{s:PS}{K:Int}{m:List UInt8→Bool}(h:Al0 W s):Al0 W (Bb L s K m).2:=by
 unfold Bb;split
 ·exact h.tail
 ·exact h.fails
theorem Anl{s:PS}{K:Int}{tx:List UInt8}(hK:K≠4)(hS:Al0 W s)(h:Ry L s K tx=true):∃w,w∈W∧Cn L s.ws=w∧(w.k:Int)=K∧w.tx=tx:=by obtain⟨w,ws,h1,_,h2,h3⟩:=X0 hK h;exact⟨w,hS w (by rw[h1];simp),by rw[h1];rfl,h2,h3⟩
theorem Bf1{s:PS}{K:Int}{m:List UInt8→Bool}(hK:K≠4)(hS:Al0 W s)(h:M9 L s K m=true):∃w,w∈W∧Cn L s.ws=w∧(w.k:Int)=K∧m w.tx=true:=by obtain⟨w,ws,h1,_,h2,h3⟩:=Am0 hK h;exact⟨w,hS w (by rw[h1];simp),by rw[h1];rfl,h2,h3⟩
def PlG(W:List Wd)(f:PS→Option (Qy × PS)):Prop:=∀(s:PS) (x:Qy) (s':PS),Al0 W s→f s=some (x,s')→Al0 W s'∧(s'.bad=none→s.bad=none∧Aem (Alt W) x)
theorem Bhx{s:PS}(hS:Al0 W s)(h:Hz L s≠0):(Hz L s=3∨Hz L s=4∨Hz L s=5)∧s.bad=none∧∀x y,Alt W (.bin (Hz L s) (Cn L s.ws).at_ x y):=by
 unfold Hz at h ⊢;have hb:∀{K:Int} {tx:List UInt8},Ry L s K tx=true→s.bad=none:=fun h=>by unfold Ry at h;simp only[Bool.and_eq_true,Option.isNone_iff_eq_none]at h;exact h.1
 split
 ·rename_i h1;obtain⟨w,hw,he,hk,ht⟩:=Anl (by decide) hS h1
  exact⟨.inl rfl,hb h1,fun x y=>⟨w,hw,by rw[he];rfl,ht,(by simp[Ael]),.inr (by omega)⟩⟩
 split
 ·rename_i h1;obtain⟨w,hw,he,hk,ht⟩:=Anl (by decide) hS h1
  exact⟨.inr (.inl rfl),hb h1,fun x y=>⟨w,hw,by rw[he];rfl,ht,(by simp[Ael]),.inr (by omega)⟩⟩
 split
 ·rename_i h1;obtain⟨w,hw,he,hk,ht⟩:=Anl (by decide) hS h1
  exact⟨.inr (.inr rfl),hb h1,fun x y=>⟨w,hw,by rw[he];rfl,ht,(by simp[Ael]),.inl (by omega)⟩⟩
 ·rename_i h1 h2 h3;rw[if_neg h1,if_neg h2,if_neg h3]at h;exact absurd rfl h
theorem Aws{item:PS→Option (Qy × PS)}(hi:PlG W item):∀(m:Nat) (x:Qy) (s:PS) (y:Qy) (s':PS),Al0 W s→Kw L item m x s=some (y,s')→Al0 W s'∧(s'.bad=none→s.bad=none∧(Aem (Alt W) x→Aem (Alt W) y))
 |0,x,s,y,s',_,h=>by simp[Kw]at h
 |m+1,x,s,y,s',hS,h=>by
  unfold Kw at h;split at h
  ·cases h;exact⟨hS,fun hb=>⟨hb,id⟩⟩
  ·rename_i hs;obtain⟨_,hb,hn⟩:=Bhx hS hs;split at h
   ·cases h
   ·rename_i z s2 hz;obtain⟨h1,h2⟩:=hi _ _ _ hS.tail hz;obtain⟨h3,h4⟩:=Aws hi m _ _ _ _ h1 h;refine⟨h3,fun hb'=>?_⟩;obtain⟨h5,h6⟩:=h4 hb';obtain⟨_,h8⟩:=h2 h5;exact⟨hb,fun hx=>h6 ⟨hn _ _,hx,h8⟩⟩
theorem Bc0{q:PS→Option (Qy × PS)}(hq:PlG W q){a:Nat}{t:List UInt8}(hw:∃w,w∈W∧w.at_=a∧w.tx=t∧w.k=1)(ht:t∈Bl.tail):PlG W (Q7 L gn q a t):=by
 intro s x s' hS h;obtain⟨w,w1,w2,w3,w4⟩:=hw;unfold Q7 at h;split at h
 ·rename_i e;cases hz:q s with
  |none=>rw[hz]at h;cases h
  |some p=>
   obtain⟨z,s1⟩:=p;rw[hz]at h;obtain⟨h1,h2⟩:=hq _ _ _ hS hz;simp only at h;have hn:∀n,Alt W (.un 6 a [] n z):=fun n=>⟨w,w1,w2,w3.trans e,(by simp[Ael,Aj1]),.inl w4⟩
   split at h
   ·cases h;refine⟨h1.must.next,fun hb=>?_⟩;obtain⟨_,h3,_⟩:=Aek hb;obtain⟨_,h4⟩:=Aac h3;exact⟨(h2 h4).1,hn _,(h2 h4).2⟩
   ·cases h;exact⟨h1,fun hb=>⟨(h2 hb).1,hn _,(h2 hb).2⟩⟩
 split at h
 ·rename_i e;cases hz:q s with
  |none=>rw[hz]at h;cases h
  |some p=>obtain⟨z,s1⟩:=p;rw[hz]at h;obtain⟨h1,h2⟩:=hq _ _ _ hS hz;simp only at h;cases h;exact⟨h1,fun hb=>⟨(h2 hb).1,⟨w,w1,w2,w3.trans e,(by simp[Ael,Abt]),.inl w4⟩,(h2 hb).2⟩⟩
 split at h
 ·rename_i e;cases hz:q s with
  |none=>rw[hz]at h;cases h
  |some p=>
   obtain⟨z,s1⟩:=p;rw[hz]at h;simp only at h;obtain⟨h1,h2⟩:=hq _ _ _ hS hz;cases hz2:q (A8 L s1 3 [44])with
   |none=>rw[hz2]at h;cases h
   |some p2=>
    obtain⟨z2,s2⟩:=p2;rw[hz2]at h;simp only at h;cases h;obtain⟨h3,h4⟩:=hq _ _ _ h1.must hz2;refine⟨h3,fun hb=>?_⟩;obtain⟨h5,h6⟩:=h4 hb;obtain⟨_,h7⟩:=Aac h5;refine⟨(h2 h7).1,⟨w,w1,w2,?_,?_,.inl w4⟩,(h2 h7).2,h6⟩
    ·rcases e with e|e<;>subst e<;>rw[w3]<;>simp[Ael,Afo,Zq]
    ·rcases e with e|e<;>subst e<;>simp[Ael,Afo,Zq]
 split at h
 ·rename_i e;cases hz:q (A8 L (Bb L s 1 Jd).2 3 [44])with
  |none=>rw[hz]at h;cases h
  |some p=>obtain⟨z,s1⟩:=p;rw[hz]at h;obtain⟨h1,h2⟩:=hq _ _ _ hS.next.must hz;simp only at h;cases h;refine⟨h1,fun hb=>?_⟩;obtain⟨h3,h4⟩:=h2 hb;obtain⟨_,h5⟩:=Aac h3;obtain⟨_,h6,_⟩:=Aek h5;exact⟨h6,⟨w,w1,w2,w3.trans e,(by simp[Ael,Ake]),.inl w4⟩,h4⟩
 split at h
 ·rename_i e;cases hz:q (A8 L (Bb L s 2 (fun _=>true)).2 3 [44])with
  |none=>rw[hz]at h;cases h
  |some p=>obtain⟨z,s1⟩:=p;rw[hz]at h;obtain⟨h1,h2⟩:=hq _ _ _ hS.next.must hz;simp only at h;cases h;refine⟨h1,fun hb=>?_⟩;obtain⟨h3,h4⟩:=h2 hb;obtain⟨_,h5⟩:=Aac h3;obtain⟨_,h6,_⟩:=Aek h5;exact⟨h6,⟨w,w1,w2,w3.trans e,(by simp[Ael,X5]),.inl w4⟩,h4⟩
 ·rename_i n1 n2 n3 n4 n5;cases h;have e:t=A76:=by
   simp only[Bl,List.tail_cons,List.mem_cons,List.not_mem_nil,or_false]at ht;rcases ht with ht|ht|ht|ht|ht|ht|ht
   ·exact absurd ht n1
   ·exact absurd ht n2
   ·exact absurd (.inl ht) n3
   ·exact absurd (.inr ht) n3
   ·exact absurd ht n4
   ·exact absurd ht n5
   ·exact ht
  exact⟨hS,fun hb=>⟨hb,w,w1,w2,w3.trans e,(by simp[Ael,A76]),.inl w4⟩⟩
theorem Bf9(hm:may []=false):∀n:Nat,PlG W (Fe L may gn n)∧PlG W (Uv L may gn n)∧PlG W (Jv L may gn n)∧∀s x s' a,Al0 W s→Ij L s=true→a=(Cn L s.ws).at_→Py L may gn n s a=some (x,s')→Al0 W s'∧(s'.bad=none→s.bad=none∧Aem (Alt W) x)
 |0=>⟨fun s x s' _ h=>by simp[Fe]at h,fun s x s' _ h=>by simp[Uv]at h,fun s x s' _ h=>by simp[Jv]at h,fun s x s' a _ _ _ h=>by simp[Py]at h⟩
 |n+1=>by
  obtain⟨i1,i2,i3,i4⟩:=Bf9 hm n;refine⟨fun s x s' hS h=>?_,fun s x s' hS h=>?_,fun s x s' hS h=>?_,fun s x s' a hS hc ha h=>?_⟩
  ·unfold Fe at h;split at h
   ·rename_i hl;obtain⟨w,w1,w2,w3,w4⟩:=Anl (by decide) hS hl
    cases hz:Fe L may gn n (A8 L (Bb L (A8 L s 1 Ib) 1 may).2 3 [61])with
    |none=>rw[hz]at h;cases h
    |some p=>
     obtain⟨z,s4⟩:=p;rw[hz]at h;simp only at h;obtain⟨h1,h2⟩:=i1 _ _ _ hS.must.next.must hz;cases hz2:Fe L may gn n (A8 L s4 1 Vx)with
     |none=>rw[hz2]at h;cases h
     |some p2=>obtain⟨z2,s6⟩:=p2;rw[hz2]at h;simp only at h;cases h;obtain⟨h3,h4⟩:=i1 _ _ _ h1.must hz2;refine⟨h3,fun hb=>?_⟩;obtain⟨h5,h6⟩:=h4 hb;obtain⟨_,h7⟩:=Aac h5;obtain⟨h8,h9⟩:=h2 h7;obtain⟨_,h10⟩:=Aac h8;obtain⟨_,h11,_⟩:=Aek h10;obtain⟨_,h12⟩:=Aac h11;exact⟨h12,⟨w,w1,by rw[w2];rfl,w4,(by simp[Ael,Ib]),.inl (by omega)⟩,h9,h6⟩
   ·exact i2 _ _ _ hS h
  ·unfold Uv at h;cases hz:Jv L may gn n s with
   |none=>rw[hz]at h;cases h
   |some p=>obtain⟨z,s1⟩:=p;rw[hz]at h;simp only at h;obtain⟨h1,h2⟩:=i3 _ _ _ hS hz;obtain⟨h3,h4⟩:=Aws i3 _ _ _ _ _ h1 h;refine⟨h3,fun hb=>?_⟩;obtain⟨h5,h6⟩:=h4 hb;exact⟨(h2 h5).1,h6 (h2 h5).2⟩
  ·unfold Jv at h;split at h
   ·rename_i hl;obtain⟨w,w1,w2,w3,w4⟩:=Anl (by decide) hS hl
    cases h;refine⟨hS.must.next,fun hb=>?_⟩;obtain⟨_,h5,_⟩:=Aek hb;obtain⟨_,h6⟩:=Aac h5;exact⟨h6,w,w1,by rw[w2];rfl,w4,(by simp[Ael]),.inr (by omega)⟩
   split at h
   ·rename_i hl;obtain⟨w,w1,w2,w3,w4⟩:=Anl (by decide) hS hl
    cases h;refine⟨hS.must.next,fun hb=>?_⟩;obtain⟨_,h5,_⟩:=Aek hb;obtain⟨_,h6⟩:=Aac h5;exact⟨h6,w,w1,by rw[w2];rfl,w4,(by simp[Ael]),.inr (by omega)⟩
   split at h
   ·cases hz:Fe L may gn n (A8 L s 3 [40])with
    |none=>rw[hz]at h;cases h
    |some p=>obtain⟨z,s1⟩:=p;rw[hz]at h;simp only at h;cases h;obtain⟨h1,h2⟩:=i1 _ _ _ hS.must hz;refine⟨h1.must,fun hb=>?_⟩;obtain⟨_,h3⟩:=Aac hb;obtain⟨h4,h5⟩:=h2 h3;exact⟨(Aac h4).2,h5⟩
   split at h
   ·rename_i hc;exact i4 _ _ _ _ hS hc rfl h
   ·cases h;refine⟨hS.next,fun hb=>?_⟩;obtain⟨h5,h6,h7⟩:=Aek hb;obtain⟨w,w1,w2,w3,w4⟩:=Bf1 (by decide) hS h5
    refine⟨h6,w,w1,by rw[w2];rfl,?_,?_,.inl (by omega)⟩
    ·show w.tx=(Bb L s 1 may).1;rw[h7,w2]
    ·show(Bb L s 1 may).1≠ [];rw[h7,w2];intro h8;rw[h8,hm]at w4;cases w4
  ·unfold Py at h;have hc':=hc;unfold Ij at hc';simp only[Bool.and_eq_true,Option.isNone_iff_eq_none,beq_iff_eq,List.contains_iff_mem]at hc';obtain⟨c1,c2,c3⟩:=hc';have hw:∃w,w∈W∧w.at_=a∧w.tx=(Cn L s.ws).tx∧w.k=1:=by
    cases hs:s.ws with
    |nil=>rw[hs]at c2;exact absurd (show((4:Nat):Int)=1 from c2) (by decide)
    |cons w ws=>rw[hs]at c2 ha;exact⟨w,hS w (by rw[hs];simp),by rw[ha];rfl,rfl,by have:(w.k:Int)=1:=c2;omega⟩
   cases hz:Q7 L gn (Fe L may gn n) a (Cn L s.ws).tx (A8 L ⟨s.ws.tail,s.bad⟩ 3 [40])with
   |none=>rw[hz]at h;cases h
   |some p=>obtain⟨z,s1⟩:=p;rw[hz]at h;simp only at h;cases h;obtain⟨h1,h2⟩:=Bc0 i1 hw c3 _ _ _ hS.tail.must hz;refine⟨h1.must,fun hb=>?_⟩;obtain⟨_,h3⟩:=Aac hb;exact⟨c1,(h2 h3).2⟩
end
def Bkw(s:List UInt8)(w:Wd):Prop:=w.k=1∨w.k=3→w.at_+w.tx.length≤s.length∧(s.drop w.at_).take w.tx.length=w.tx
theorem Bf5{s:List UInt8}{i e:Nat}{w:Wd}(hi:i<s.length)(h:Fq s i=some (w,e)):Bkw s w:=by
 unfold Fq at h;split at h
 ·cases h;intro _;have:=Aaz (s.drop i);rw[List.length_drop]at this;have hl:((s.drop i).take (D7 (s.drop i))).length=D7 (s.drop i):=by
   rw[List.length_take,List.length_drop];omega
  refine⟨?_,?_⟩
  ·show i+((s.drop i).take (D7 (s.drop i))).length≤_;rw[hl];omega
  ·show(s.drop i).take ((s.drop i).take (D7 (s.drop i))).length=_;rw[hl]
 ·split at h
  ·cases h
  ·rename_i c hc;split at h
   ·simp only[Option.map_eq_some_iff,Prod.mk.injEq]at h;obtain⟨⟨t,k⟩,_,rfl,_⟩:=h;intro hk;rcases hk with hk|hk<;>cases hk
   ·split at h
    ·cases h;intro _;refine⟨by simp only[List.length_cons,List.length_nil];omega,?_⟩
     show(s.drop i).take 1= [c];obtain⟨h1,h2⟩:=List.getElem?_eq_some_iff.1 hc;rw[List.drop_eq_getElem_cons h1,h2];rfl
    ·cases h
theorem A6i{s:List UInt8}:∀(n i:Nat) (ws:List Wd),M6 n s i= .ok ws→∀w∈ws,Bkw s w
 |0,i,ws,h=>by simp[M6]at h
 |n+1,i,ws,h=>by
  unfold M6 at h;split at h
  ·rename_i hlt;cases hw:Fq s i with
   |none=>rw[hw]at h;cases h
   |some p=>
    obtain⟨w,e⟩:=p;rw[hw]at h;simp only at h;cases hr:M6 n s (e+Db false (s.drop e))with
    |error j=>rw[hr]at h;cases h
    |ok l=>
     rw[hr]at h;cases h;intro v hv;rcases List.mem_cons.1 hv with rfl|hv
     ·exact Bf5 hlt hw
     ·exact A6i n _ l hr v hv
  ·cases h;intro w hw;cases hw
def Bgc(s:List UInt8)(q:Qy):Prop:=atQ q+(Ael q).length≤s.length∧(s.drop (atQ q)).take (Ael q).length=Ael q∧Ael q≠ []
theorem Bc4{s:List UInt8}{ws:List Wd}(h:Y8 s= .ok ws){q:Qy}(hq:Alt ws q):Bgc s q:=by obtain⟨w,h1,h2,h3,h4,h5⟩:=hq;obtain⟨h6,h7⟩:=A6i _ _ _ h w h1 h5;rw[h2,h3]at h6 h7;exact⟨h6,h7,h4⟩
theorem Bi0{may:List UInt8→Bool}{gn:List UInt8→Int × Bool}(hm:may []=false){s:List UInt8}{x:Qy}(h:Qx may gn s= .ok x):Aem (Bgc s) x:=by
 unfold Qx at h;split at h
 ·cases h
 split at h
 ·cases h
 ·rename_i ws hw;split at h
  ·cases h
  ·rename_i y s1 hq;obtain⟨_,h2⟩:=(Bf9 (W:=ws) hm _).1 _ _ _ (fun w hw=>hw) hq;unfold U1 at h;cases hb:(Ah1 s.length s1).bad with
   |some b=>rw[hb]at h;cases h
   |none=>
    rw[hb]at h;simp only at h;have hx:y=x:=by
     split at h
     ·cases h
     ·cases h;rfl
    subst hx;have hb1:s1.bad=none:=by
     unfold Ah1 at hb;split at hb
     ·exact absurd hb (Akn s1)
     ·exact hb
    exact Aem.mono (fun q hq=>Bc4 hw hq) (h2 hb1).2
def As1(ln:List UInt8):List (D × D):= [(.int .i64 1,.str ln),(.int .i64 2,.str [36]),(.int .i64 3,.str [43]),(.int .i64 4,.str [94]),(.int .i64 5,.str [45]),(.int .i64 6,.str Aj1),(.int .i64 7,.str Abt),(.int .i64 8,.str Afo),(.int .i64 9,.str Zq),(.int .i64 10,.str Ake),(.int .i64 11,.str X5),(.int .i64 12,.str Ib),(.int .i64 13,.str A76)]
theorem Bkr:Aar prog 87=some (3,9):=by kernel_rfl
theorem Bi2(n:Int):Xo prog 3 (.int .i64 n)=true:=by kernel_rfl
theorem Blm(s:List UInt8)(st:St):frz Gu st (.str s)=some (.str s,st):=rfl
theorem Bnq{st:St}{id:Nat}{es:List (D × D)}{k:Int}{v:List UInt8}(h:st[id]?=some (.map es))(hf:Jc prog 3 (.int .i64 k) es 0=some none):
  Hq prog 87 (.map id) (.int .i64 k) (.str v) st=some (.undef,st.set id (.map (es++ [(.int .i64 k,.str v)])),[id]):=by
 unfold Hq;rw[Bkr];dsimp only;rw[Bi2,if_pos rfl,Blm];dsimp only;rw[h];dsimp only;rw[hf];dsimp only;rw[Du];rfl
theorem Boh{st:St}{id:Nat}{es:List (D × D)}{k:Int}{j:Nat}{v:D}(h:st[id]?=some (.map es))(hf:Jc prog 3 (.int .i64 k) es 0=some (some (j,v))):
  Io prog 87 (.map id) (.int .i64 k) false st=some (v,.rd [id]):=by
 unfold Io;rw[Bkr];dsimp only;rw[Bi2,if_pos rfl];simp only[h,hf];rfl
theorem Bk7{st:St}{c:Obj}{a b:List (D × D)}:(st++ [c,.map a]).set (st.length+1) (.map b)=st++ [c,.map b]:=by
 rw[List.set_append_right _ _ (by omega)]
 simp
theorem Bgb(ln:List UInt8)(i:Nat)(hi:i<13):Jc prog 3 (.int .i64 ((i:Int)+1)) ((As1 ln).take i) 0=some none:=by
 match i,hi with
 |0,_=>rfl
 |1,_=>exact(by kernel_rfl:Jc prog 3 (.int .i64 2) ((As1 ln).take 1) 0=some none)
 |2,_=>exact(by kernel_rfl:Jc prog 3 (.int .i64 3) ((As1 ln).take 2) 0=some none)
 |3,_=>exact(by kernel_rfl:Jc prog 3 (.int .i64 4) ((As1 ln).take 3) 0=some none)
 |4,_=>exact(by kernel_rfl:Jc prog 3 (.int .i64 5) ((As1 ln).take 4) 0=some none)
 |5,_=>exact(by kernel_rfl:Jc prog 3 (.int .i64 6) ((As1 ln).take 5) 0=some none)
 |6,_=>exact(by kernel_rfl:Jc prog 3 (.int .i64 7) ((As1 ln).take 6) 0=some none)
 |7,_=>exact(by kernel_rfl:Jc prog 3 (.int .i64 8) ((As1 ln).take 7) 0=some none)
 |8,_=>exact(by kernel_rfl:Jc prog 3 (.int .i64 9) ((As1 ln).take 8) 0=some none)
 |9,_=>exact(by kernel_rfl:Jc prog 3 (.int .i64 10) ((As1 ln).take 9) 0=some none)
 |10,_=>exact(by kernel_rfl:Jc prog 3 (.int .i64 11) ((As1 ln).take 10) 0=some none)
 |11,_=>exact(by kernel_rfl:Jc prog 3 (.int .i64 12) ((As1 ln).take 11) 0=some none)
 |12,_=>exact(by kernel_rfl:Jc prog 3 (.int .i64 13) ((As1 ln).take 12) 0=some none)
theorem Boy(st:St)(c:Obj)(ln:List UInt8)(i:Nat)(hi:i<13)(v:List UInt8)(hkv:(As1 ln)[i]?=some (.int .i64 ((i:Int)+1),.str v)):Hq prog 87 (.map (st.length+1)) (.int .i64 ((i:Int)+1)) (.str v) (st++ [c,.map ((As1 ln).take i)])=
  some (.undef,st++ [c,.map ((As1 ln).take (i+1))],[st.length+1]):=by
 have h1:(st++ [c,Obj.map ((As1 ln).take i)])[st.length+1]?=some (.map ((As1 ln).take i)):=by
  rw[List.getElem?_append_right (by omega)]
  simp
 rw[Bnq h1 (Bgb ln i hi),Bk7];rw[List.take_add_one,hkv];rfl
def hdK(k:Int)(ln:List UInt8):List UInt8:=if k=1 then ln else if k=2 then[36]else if k=3 then[43]else if k=4 then[94]else if k=5 then[45]else if k=6 then Aj1 else if k=7 then Abt else if k=8 then Afo else if k=9 then Zq else if k=10 then Ake else if k=11 then X5 else if k=12 then Ib else A76
theorem Bnk(k:Int)(ln:List UInt8)(h:1≤k∧k≤13):∃j,Jc prog 3 (.int .i64 k) (As1 ln) 0=some (some (j,.str (hdK k ln))):=by
 obtain⟨n,rfl⟩:∃n:Nat,k=n:=⟨k.toNat,by omega⟩
 obtain⟨h1,h2⟩:=h
 match n with
 |0=>omega
 |1=>exact⟨0,by kernel_rfl⟩
 |2=>exact⟨1,by kernel_rfl⟩
 |3=>exact⟨2,by kernel_rfl⟩
 |4=>exact⟨3,by kernel_rfl⟩
 |5=>exact⟨4,by kernel_rfl⟩
 |6=>exact⟨5,by kernel_rfl⟩
 |7=>exact⟨6,by kernel_rfl⟩
 |8=>exact⟨7,by kernel_rfl⟩
 |9=>exact⟨8,by kernel_rfl⟩
 |10=>exact⟨9,by kernel_rfl⟩
 |11=>exact⟨10,by kernel_rfl⟩
 |12=>exact⟨11,by kernel_rfl⟩
 |13=>exact⟨12,by kernel_rfl⟩
 |n+14=>omega
theorem Bn8(x:Qy)(hne:Ael x≠ []):∃(k:Int) (r:Bool) (ln nm:List UInt8) (n:Int),Br x=qc k (atQ x) r ln nm n (.sl ((L9 x).map Br) .none)∧(1≤k∧k≤13)∧Ael x=(if k=1∧r=true then[58]else hdK k ln):=by
 cases x with
 |label a r ln=>
  refine⟨1,r,ln,[],0,rfl,by omega,?_⟩
  cases r<;>simp[Ael,hdK]
 |var a nm=>exact⟨2,false,[],nm,0,rfl,by omega,by simp[Ael,hdK]⟩
 |bin k a x y=>
  have hh:Ael (.bin k a x y)=if k=3 then[43]else if k=4 then[94]else if k=5 then[45]else if k=8 then Afo else if k=9 then Zq else[]:=rfl;rw[hh]at hne ⊢;refine⟨k,false,[],[],0,rfl,?_,?_⟩
  ·split at hne
   ·omega
   split at hne
   ·omega
   split at hne
   ·omega
   split at hne
   ·omega
   split at hne
   ·omega
   ·exact absurd rfl hne
  ·simp only[Bool.false_eq_true,and_false,if_false];split at hne
   ·rename_i h;subst h;simp[hdK]
   split at hne
   ·rename_i h;subst h;simp[hdK]
   split at hne
   ·rename_i h;subst h;simp[hdK]
   split at hne
   ·rename_i h;subst h;simp[hdK]
   split at hne
   ·rename_i h;subst h;simp[hdK]
   ·exact absurd rfl hne
 |un k a nm n x=>
  have hh:Ael (.un k a nm n x)=if k=6 then Aj1 else if k=7 then Abt else if k=10 then Ake else if k=11 then X5 else[]:=rfl;rw[hh]at hne ⊢;refine⟨k,false,[],nm,n,rfl,?_,?_⟩
  ·split at hne
   ·omega
   split at hne
   ·omega
   split at hne
   ·omega
   split at hne
   ·omega
   ·exact absurd rfl hne
  ·simp only[Bool.false_eq_true,and_false,if_false];split at hne
   ·rename_i h;subst h;simp[hdK]
   split at hne
   ·rename_i h;subst h;simp[hdK]
   split at hne
   ·rename_i h;subst h;simp[hdK]
   split at hne
   ·rename_i h;subst h;simp[hdK]
   ·exact absurd rfl hne
 |lt a nm x y=>exact⟨12,false,[],nm,0,rfl,by omega,by simp[Ael,hdK]⟩
 |whole a=>exact⟨13,false,[],[],0,rfl,by omega,by simp[Ael,hdK]⟩
def Ary(k:Int)(a:Nat)(r:Bool)(ln nm:List UInt8)(n:Int)(rows:List (List D)):List D:=qc k a r ln nm n (.sl rows .none)
section
variable{st:St}{id:Nat}{k:Int}{a:Nat}{r:Bool}{ln nm:List UInt8}{n:Int}{rows:List (List D)}
theorem Bor:Eh prog 29 (.ptr id 0) 0=some (.ptr id 0,.pure):=by kernel_rfl
theorem Boo:Eh prog 29 (.ptr id 0) 1=some (.ptr id 1,.pure):=by kernel_rfl
theorem Bo3:Eh prog 29 (.ptr id 0) 2=some (.ptr id 2,.pure):=by kernel_rfl
theorem Bol:Eh prog 29 (.ptr id 0) 5=some (.ptr id 6,.pure):=by kernel_rfl
theorem Bo1:Eh prog 26 (.ptr id 2) 0=some (.ptr id 2,.pure):=by kernel_rfl
theorem Bok:Eh prog 26 (.ptr id 2) 1=some (.ptr id 3,.pure):=by kernel_rfl
theorem Bqj:Bw prog 27=some 1:=by kernel_rfl
theorem Bqa:prog.underlying 27=some (.slice 29):=underlying27
theorem Bqr:Jg prog 27=false:=by kernel_rfl
theorem Bmn:Bw prog 4=some 1:=by kernel_rfl
theorem Bnx:Jg prog 4=false:=by kernel_rfl
theorem Bpf(h:st[id]?=some (.cells (Ary k a r ln nm n rows))):Fp prog 3 (.ptr id 0) st=some (.int .i64 k,.rd [id]):=by unfold Fp Dk;simp[h,A6a,Bhh,Ary,qc]
theorem Bph(h:st[id]?=some (.cells (Ary k a r ln nm n rows))):Fp prog 3 (.ptr id 1) st=some (.int .i64 (a:Int),.rd [id]):=by unfold Fp Dk;simp[h,A6a,Bhh,Ary,qc]
theorem Bpe(h:st[id]?=some (.cells (Ary k a r ln nm n rows))):Fp prog 4 (.ptr id 2) st=some (.bool r,.rd [id]):=by unfold Fp Dk;simp[h,Bmn,Bnx,Ary,qc]
theorem Bo5(h:st[id]?=some (.cells (Ary k a r ln nm n rows))):Fp prog 9 (.ptr id 3) st=some (.str ln,.rd [id]):=by unfold Fp Dk;simp[h,Zt,Bgn,Ary,qc]
theorem Bop(h:st[id]?=some (.cells (Ary k a r ln nm n rows))):Fp prog 27 (.ptr id 6) st=some (.sl rows .none,.rd [id]):=by unfold Fp Dk;simp[h,Bqj,Bqr,Ary,qc]
end
theorem Boa(t:List UInt8)(st:St):Ny prog 9 (.str t) st=some (.int .i64 (t.length:Int),.pure):=by unfold Ny;rfl
theorem Bnz(x:Qy)(s:List UInt8)(st:St):Cw st [.agg (Br x),.str s]=some ([.agg (Br x),.str s],st):=by have h1:frz Gu st (.agg (Br x))=some (.agg (Br x),st):=Ait (Md x);unfold Cw;simp[Eu,h1,Blm]
set_option maxHeartbeats 4000000 in
theorem Bod{cf:Ah}{N:Nat}(x:Qy)(s:List UInt8)(hs:s.length≤1000)(hx:Bgc s x)(hN:3<N)(hk:∀y∈L9 x,Ao cf 22 [.agg (Br y),.str s] (.bool true)):Ao (run C1 cf N) 22 [.agg (Br x),.str s] (.bool true):=fun st=>by
 obtain⟨k,r,ln,nm,n,he,hk1,hd⟩:=Bn8 x hx.2.2;obtain⟨h1,h2,h3⟩:=hx;rw[hd]at h1 h2 h3;have hc22:∀y∈L9 x,∀st,G6 C1 cf 22 [] [] [.agg (Br y),.str s] st=some (.bool true,st,[]):=fun y hy st=>Amz (by kernel_rfl) rfl (Bnz y s st) (hk y hy st)
 have hkl:=Aco x;generalize L9 x=ks at he hc22 hkl;generalize atQ x=a at he h1 h2;rw[he];clear he hd hk;have hP:C1.P=prog:=rfl;refine Bj9 func22 (bdy (by kernel_rfl)) rfl rfl rfl ?_
 generalize hcd:qc k a r ln nm n (.sl (ks.map Br) .none)=cs;generalize he:(([.agg cs,.str s]:List D)++List.replicate (Tryz.f22.ntmps - ([.agg cs,.str s]:List D).length) .undef)=e;have hl:e.length=68:=by rw[← he];rfl
 have e0:e.getD 0 .undef= .agg cs:=by rw[← he];rfl
 have e1:e.getD 1 .undef= .str s:=by rw[← he];rfl
 clear he;refine Bj8 ?_;obtain⟨code,hcode⟩:∃code,code=strip (bd Tryz.f22):=⟨_,rfl⟩;rw[← hcode];simp only[bd,Tryz.f22,strip,Dl,List.map_toArray,MC]at hcode;subst hcode;have hV:∀id∈ [st.length+1],st.length≤id:=by simp
 have q1:((st++ [Obj.cells cs]).length)=st.length+1:=by simp
 have q2:st++ [Obj.cells cs]++ [Obj.map []]=st++ [Obj.cells cs,.map ((As1 ln).take 0)]:=by simp
 have q3:(st++ [Obj.cells cs,.map ((As1 ln).take 0)])[st.length]?=some (.cells (Ary k a r ln nm n (ks.map Br))):=by rw[← hcd];simp[Ary]
 have q4:(st++ [Obj.cells cs,.map ((As1 ln).take 13)])[st.length]?=some (.cells (Ary k a r ln nm n (ks.map Br))):=by rw[← hcd];simp[Ary]
 have q5:(st++ [Obj.cells cs,.map ((As1 ln).take 13)])[st.length+1]?=some (.map (As1 ln)):=by
  rw[List.getElem?_append_right (by omega)]
  simp[As1]
 obtain⟨j,hj⟩:=Bnk k ln hk1;have q6:=Boh q5 hj;have q7:=Bo5 q3;have m1:=Bpf q4;have m2:=Bph q4;have m3:=Bpe q4;have m4:=Bop q4;have i1:Hq prog 87 (.map (st.length+1)) (.int .i64 1) (.str ln) (st++ [Obj.cells cs,.map ((As1 ln).take 0)])=some (.undef,st++ [Obj.cells cs,.map ((As1 ln).take 1)],[st.length+1]):=Boy st (Obj.cells cs) ln 0 (by omega) ln rfl
 have i2:Hq prog 87 (.map (st.length+1)) (.int .i64 2) (.str [36]) (st++ [Obj.cells cs,.map ((As1 ln).take 1)])=some (.undef,st++ [Obj.cells cs,.map ((As1 ln).take 2)],[st.length+1]):=Boy st (Obj.cells cs) ln 1 (by omega) [36] rfl
 have i3:Hq prog 87 (.map (st.length+1)) (.int .i64 3) (.str [43]) (st++ [Obj.cells cs,.map ((As1 ln).take 2)])=some (.undef,st++ [Obj.cells cs,.map ((As1 ln).take 3)],[st.length+1]):=Boy st (Obj.cells cs) ln 2 (by omega) [43] rfl
 have i4:Hq prog 87 (.map (st.length+1)) (.int .i64 4) (.str [94]) (st++ [Obj.cells cs,.map ((As1 ln).take 3)])=some (.undef,st++ [Obj.cells cs,.map ((As1 ln).take 4)],[st.length+1]):=Boy st (Obj.cells cs) ln 3 (by omega) [94] rfl
 have i5:Hq prog 87 (.map (st.length+1)) (.int .i64 5) (.str [45]) (st++ [Obj.cells cs,.map ((As1 ln).take 4)])=some (.undef,st++ [Obj.cells cs,.map ((As1 ln).take 5)],[st.length+1]):=Boy st (Obj.cells cs) ln 4 (by omega) [45] rfl
 have i6:Hq prog 87 (.map (st.length+1)) (.int .i64 6) (.str [100,101,112,115]) (st++ [Obj.cells cs,.map ((As1 ln).take 5)])=some (.undef,st++ [Obj.cells cs,.map ((As1 ln).take 6)],[st.length+1]):=Boy st (Obj.cells cs) ln 5 (by omega) [100,101,112,115] rfl
 have i7:Hq prog 87 (.map (st.length+1)) (.int .i64 7) (.str [114,100,101,112,115]) (st++ [Obj.cells cs,.map ((As1 ln).take 6)])=some (.undef,st++ [Obj.cells cs,.map ((As1 ln).take 7)],[st.length+1]):=Boy st (Obj.cells cs) ln 6 (by omega) [114,100,101,112,115] rfl
 have i8:Hq prog 87 (.map (st.length+1)) (.int .i64 8) (.str [115,111,109,101,112,97,116,104]) (st++ [Obj.cells cs,.map ((As1 ln).take 7)])=some (.undef,st++ [Obj.cells cs,.map ((As1 ln).take 8)],[st.length+1]):=Boy st (Obj.cells cs) ln 7 (by omega) [115,111,109,101,112,97,116,104] rfl
 have i9:Hq prog 87 (.map (st.length+1)) (.int .i64 9) (.str [97,108,108,112,97,116,104,115]) (st++ [Obj.cells cs,.map ((As1 ln).take 8)])=some (.undef,st++ [Obj.cells cs,.map ((As1 ln).take 9)],[st.length+1]):=Boy st (Obj.cells cs) ln 8 (by omega) [97,108,108,112,97,116,104,115] rfl
 have i10:Hq prog 87 (.map (st.length+1)) (.int .i64 10) (.str [107,105,110,100]) (st++ [Obj.cells cs,.map ((As1 ln).take 9)])=some (.undef,st++ [Obj.cells cs,.map ((As1 ln).take 10)],[st.length+1]):=Boy st (Obj.cells cs) ln 9 (by omega) [107,105,110,100] rfl
 have i11:Hq prog 87 (.map (st.length+1)) (.int .i64 11) (.str [102,105,108,116,101,114]) (st++ [Obj.cells cs,.map ((As1 ln).take 10)])=some (.undef,st++ [Obj.cells cs,.map ((As1 ln).take 11)],[st.length+1]):=Boy st (Obj.cells cs) ln 10 (by omega) [102,105,108,116,101,114] rfl
 have i12:Hq prog 87 (.map (st.length+1)) (.int .i64 12) (.str [108,101,116]) (st++ [Obj.cells cs,.map ((As1 ln).take 11)])=some (.undef,st++ [Obj.cells cs,.map ((As1 ln).take 12)],[st.length+1]):=Boy st (Obj.cells cs) ln 11 (by omega) [108,101,116] rfl
 have i13:Hq prog 87 (.map (st.length+1)) (.int .i64 13) (.str [97,108,108]) (st++ [Obj.cells cs,.map ((As1 ln).take 12)])=some (.undef,st++ [Obj.cells cs,.map ((As1 ln).take 13)],[st.length+1]):=Boy st (Obj.cells cs) ln 12 (by omega) [97,108,108] rfl
 obtain⟨p,hp⟩:∃p,p=decide (k=1):=⟨_,rfl⟩;have b0:Bo prog .eql 3 (.int .i64 k) (.int .i64 1)=some (.bool p):=by rw[hp];rfl
 generalize hT:(if k=1∧r=true then[58]else hdK k ln)=T at h1 h2 h3;have hT2:T=if p && r then[58]else hdK k ln:=by rw[← hT,hp];by_cases h:k=1<;>cases r<;>simp[h]
 have b1:Bo prog .lss 3 (.int .i64 (a:Int)) (.int .i64 0)=some (.bool false):=by show some (D.bool (decide ((a:Int)<0)))=_;rw[decide_eq_false (by omega)]
 have b2:Bo prog .add 3 (.int .i64 (a:Int)) (.int .i64 (T.length:Int))=some (.int .i64 ((a+T.length:Nat):Int)):=by
  show some (D.int .i64 (IntKind.i64.wrap ((a:Int)+(T.length:Int))))=_;rw[Go.IntWalk.i64_in _ (by omega)]
  rfl
 have b3:Bo prog .gtr 3 (.int .i64 ((a+T.length:Nat):Int)) (.int .i64 (s.length:Int))=some (.bool false):=by show some (D.bool (decide (((a+T.length:Nat):Int)>(s.length:Int))))=_;rw[decide_eq_false (by omega)]
 have b4:Lu prog 9 (.str s) (some a) (some (a+T.length)) none=some (.str T,.pure):=by
  unfold Lu;rw[A9e];have:(s.take (a+T.length)).drop a=T:=by rw[List.drop_take,Nat.add_sub_cancel_left,h2]
  simp[this,h1]
 have b5:Bo prog .neq 9 (.str T) (.str T)=some (.bool false):=by show some (D.bool (!(T == T)))=_;simp
 have b6:Bo prog .eql 9 (.str T) (.str [])=some (.bool false):=by show some (D.bool (T == []))=_;rw[beq_false_of_ne h3]
 clear hT hcd hp h1 h2 h3 hj q3 q4;have hrow:∀i,i<ks.length→∃y,y∈ks∧Cf prog 27 (.sl (ks.map Br) .none) (.int .i64 (i:Int))=some (.eptr (Br y),.pure)∧∀st,Fp prog 29 (.eptr (Br y)) st=some (.agg (Br y),.pure):=fun i hi=>by
  refine⟨ks[i],List.getElem_mem hi,?_,fun st=>?_⟩
  ·have hr:(ks.map Br)[i]?=some (Br ks[i]):=by simp[hi]
   obtain⟨k',a',r',ln',nm',n',he'⟩:=Adv ks[i];unfold Cf;rw[Ash,Bqa];dsimp only;rw[hr];dsimp only;rw[he'];simp[Wp,qc]
  ·obtain⟨k',a',r',ln',nm',n',he'⟩:=Adv ks[i];rw[he'];unfold Fp Dk;simp[Wp,Bb3,qc]
 have hln:∀st,Ny prog 27 (.sl (ks.map Br) .none) st=some (.int .i64 (ks.length:Int),.pure):=fun st=>by unfold Ny;simp
 clear q5;cases p<;>cases r
 all_goals
  simp only[Bool.and_self,Bool.true_and,Bool.false_and,Bool.and_false,Bool.and_true,BF,if_true]at hT2;subst hT2
  repeat (first
   |refine A00 ?_|refine Asu ?_|refine Bkx ?_|refine Awr ?_|refine Avq ?_|refine Ay7 ?_|refine Bq (by decide) ?_|refine Eg rfl rfl ?_|refine Zc (by first|exact hV|(simp;done)) ?_
   |((first|refine Ei rfl rfl rfl rfl ?_|refine Ee rfl rfl ?_|refine Ed rfl rfl ?_|refine Bni ?_);refine⟨_,by simp only[Bj,BB,Af,ev,Am,Ak,Ag,Gc,Ai,↓reduceIte,Nat.reduceEqDiff,Nat.reduceLT,Aj,hP,hl,Boa,Bkr,e0,e1,D.known,D.cells,Bor,Boo,Bo3,Bol,Bo1,Bok,q1,q2,q6,q7,m1,m2,m3,m4,hln,i1,i2,i3,i4,i5,i6,i7,i8,i9,i10,i11,i12,i13,b0,b1,b2,b3,b4,b5,b6,Vg,Ash];first|done|rfl,?_⟩)
   |dsimp only)
  refine Awv (fun j e' st'=>∃i,i≤ks.length∧j=ks.length - i∧st'=st++ [Obj.cells cs,.map ((As1 ln).take 13)]∧e'.length=68∧e'.getD 1 .undef= .str s∧e'.getD 2 .undef= .ptr st.length 0∧e'.getD 55 .undef= .int .i64 (ks.length:Int)∧e'.getD 56 .undef= .int .i64 (i:Int)) ks.length (by omega) ⟨0,by omega,by omega,rfl,?_,?_,?_,?_,?_⟩ ?_
  rotate_left 5
  rintro j e' st' ⟨i,hi,rfl,rfl,l',g1,g2,g5,g6⟩;by_cases hik:i<ks.length
  ·obtain⟨y,hy,r1,r2⟩:=hrow i hik;have r3:=hc22 y hy;have r4:Bo prog .lss 3 (.int .i64 (i:Int)) (.int .i64 (ks.length:Int))=some (.bool true):=by
    show some (D.bool (decide ((i:Int)<(ks.length:Int))))=_;rw[decide_eq_true (by omega)]
   have r5:Bo prog .add 3 (.int .i64 (i:Int)) (.int .i64 1)=some (.int .i64 ((i+1:Nat):Int)):=by
    show some (D.int .i64 (IntKind.i64.wrap ((i:Int)+1)))=_;rw[Go.IntWalk.i64_in _ (by omega)]
    rfl
   repeat (first
    |refine A00 ?_|refine Asu ?_|refine Bkx ?_|refine Awr ?_|refine Avq ?_|refine Ay7 ?_|refine Bq (by decide) ?_|refine Eg rfl rfl ?_|refine Zc (by first|exact hV|(simp;done)) ?_
    |((first|refine Ei rfl rfl rfl rfl ?_|refine Ee rfl rfl ?_|refine Ed rfl rfl ?_|refine Bni ?_);refine⟨_,by simp only[Bj,BB,Af,ev,Am,Ak,Ag,Gc,Ai,↓reduceIte,Nat.reduceEqDiff,Nat.reduceLT,Aj,hP,l',Boa,g1,g2,g5,g6,Bol,m4,r1,r2,r3,r4,r5];first|done|rfl,?_⟩)
    |dsimp only)
   refine⟨ks.length - (i+1),by omega,i+1,by omega,rfl,rfl,?_,?_,?_,?_,?_⟩
   all_goals simp only[BB,Am,l',Nat.reduceEqDiff,↓reduceIte,Nat.reduceLT,g1,g2,g5]
  ·have r4:Bo prog .lss 3 (.int .i64 (i:Int)) (.int .i64 (ks.length:Int))=some (.bool false):=by
    show some (D.bool (decide ((i:Int)<(ks.length:Int))))=_;rw[decide_eq_false (by omega)]
   repeat (first
    |refine A00 ?_|refine Asu ?_|refine Bkx ?_|refine Awr ?_|refine Avq ?_|refine Ay7 ?_|refine Bq (by decide) ?_|refine Eg rfl rfl ?_|refine Zc (by first|exact hV|(simp;done)) ?_
    |((first|refine Ei rfl rfl rfl rfl ?_|refine Ee rfl rfl ?_|refine Ed rfl rfl ?_|refine Bni ?_);refine⟨_,by simp only[Bj,BB,Af,ev,Am,Ak,Ag,Gc,Ai,↓reduceIte,Nat.reduceEqDiff,Nat.reduceLT,Aj,hP,l',Boa,g1,g2,g5,g6,r4];first|done|rfl,?_⟩)
    |dsimp only)
   refine⟨rfl,?_,[_,_],rfl⟩;show Gm C1.P _ _ [.tmp 4]=_;simp only[Gm,BB,Am,l',Nat.reduceEqDiff,↓reduceIte,Nat.reduceLT]
  all_goals
   simp only[BB,Am,hl,Nat.reduceEqDiff,↓reduceIte,Nat.reduceLT,e1]
   first|done|rfl
theorem Bli{may:List UInt8→Bool}{gn:List UInt8→Int × Bool}{s:List UInt8}{c a:Int}(h:Qx may gn s= .error (c,a)):c≠0:=by
 unfold Qx at h;split at h
 ·cases h;decide
 ·rename_i hl;split at h
  ·cases h;decide
  ·rename_i ws hw;split at h
   ·rename_i hq;obtain⟨x,s1,h1,_⟩:=Aae may gn s.length (ws:=ws) (by have:=(Awq (by omega) hw).1;omega)
    rw[h1]at hq;cases hq
   ·unfold U1 at h;split at h
    ·cases h;decide
    ·split at h
     ·cases h;decide
     ·cases h
theorem Be6{hK:∀n f,Ba (CF n f)}{s:List UInt8}(hs:s.length≤1000):∀(n m:Nat) (x:Qy),Df x≤n→Aem (Bgc s) x→Ao (CF (m+n)) 22 [.agg (Br x),.str s] (.bool true)
 |0,m,x,h,_=>absurd (Xv x) (by omega)
 |n+1,m,x,h,hp=>pS rfl (Bod x s hs hp.top (by decide) fun y hy=>by
  have hd:=Ms x;have:Df y≤dmax (L9 x):=Ah4 hy;have hpy:Aem (Bgc s) y:=by
   cases x<;>simp[L9]at hy
   ·rcases hy with rfl|rfl
    ·exact hp.2.1
    ·exact hp.2.2
   ·subst hy;exact hp.2
   ·rcases hy with rfl|rfl
    ·exact hp.2.1
    ·exact hp.2.2
  exact Be6 (hK:=hK) hs n m y (by omega) hpy)
theorem Bnh:zeroOf prog 29=some [.int .i64 0,.int .i64 0,.bool false,.str [],.str [],.int .i64 0,.nilsl]:=by kernel_rfl
theorem Bns:zeroOf prog 32=some [.int .i64 0,.int .i64 0]:=by kernel_rfl
theorem Boc:Bw prog 32=some 2:=by kernel_rfl
theorem Bo2:Bw prog 30=some 1:=by kernel_rfl
theorem Bpj:Jg prog 30=false:=by kernel_rfl
theorem Bo7{id:Nat}:Eh prog 32 (.ptr id 0) 0=some (.ptr id 0,.pure):=by kernel_rfl
set_option maxHeartbeats 4000000 in
theorem Bpg{cf:Ah}{N:Nat}(h9:Ao cf 9 [] (.bool true))(h11:∀t:List UInt8,Ao cf 11 [.str t,.int .i64 300] (.str (t.take 300)))(h12:∀t:List UInt8,Ao cf 12 [.str t] (Aaw (Qx nmP gnP t)))
  (h22:∀(t:List UInt8) (x:Qy),t.length≤300→Qx nmP gnP t= .ok x→Ao cf 22 [.agg (Br x),.str t] (.bool true))(s:List UInt8):Ao (run C1 cf N) 8 [.str s] (.bool true):=fun st=>by
 have hP:C1.P=prog:=rfl;have hc9:∀st,G6 C1 cf 9 [] [] [] st=some (.bool true,st,[]):=fun st=>Amz (by kernel_rfl) rfl rfl (h9 st)
 have hc11:∀st,G6 C1 cf 11 [] [] [.str s,.int .i64 300] st=some (.str (s.take 300),st,[]):=fun st=>Amz (by kernel_rfl) rfl rfl (h11 s st)
 have hc12:∀st,G6 C1 cf 12 [] [] [.str (s.take 300)] st=some (Aaw (Qx nmP gnP (s.take 300)),st,[]):=fun st=>Amz (by kernel_rfl) rfl rfl (h12 _ st)
 have htl:(s.take 300).length≤300:=by rw[List.length_take];omega
 have hc22:=fun x=>h22 (s.take 300) x htl;generalize s.take 300=t at hc11 hc12 htl hc22;refine Bj9 func8 (bdy (by kernel_rfl)) rfl rfl rfl ?_
 generalize he:(([.str s]:List D)++List.replicate (f8.ntmps - ([.str s]:List D).length) .undef)=e;have hl:e.length=24:=by rw[← he];rfl
 have e0:e.getD 0 .undef= .str s:=by rw[← he];rfl
 clear he;refine Bj8 ?_;obtain⟨code,hcode⟩:∃code,code=strip (bd f8):=⟨_,rfl⟩;rw[← hcode];simp only[bd,f8,strip,Dl,List.map_toArray,MC]at hcode;subst hcode;have hV1:∀id∈ [st.length],st.length≤id:=by simp
 have hV2:∀id∈ [st.length+1],st.length≤id:=by simp
 have q1:∀o:Obj,(st++ [o]).length=st.length+1:=fun o=>by simp
 have q2:∀o o':Obj,st++ [o]++ [o']=st++ [o,o']:=fun o o'=>by simp
 have w1:∀cs cs':List D,cs.length=7→cs.all Al=true→I4 prog 29 (.ptr st.length 0) (.agg cs) (st++ [.cells [.int .i64 0,.int .i64 0,.bool false,.str [],.str [],.int .i64 0,.nilsl],.cells cs'])=some (.undef,st++ [.cells cs,.cells cs'],[st.length]):=fun cs cs' h h2=>by unfold I4;simp[Wp,h,h2,D.cells,List.set_append]
 have w2:∀(cs:List D) (c a:Int),I4 prog 32 (.ptr (st.length+1) 0) (.agg [.int .i64 c,.int .i64 a]) (st++ [.cells cs,.cells [.int .i64 0,.int .i64 0]])=some (.undef,st++ [.cells cs,.cells [.int .i64 c,.int .i64 a]],[st.length+1]):=fun cs c a=>by unfold I4;simp[Boc,D.cells,Al,List.getElem?_append_right,List.set_append_right]
 have w3:∀(cs:List D) (c a:Int),Fp prog 30 (.ptr (st.length+1) 0) (st++ [.cells cs,.cells [.int .i64 c,.int .i64 a]])=some (.int .i64 c,.rd [st.length+1]):=fun cs c a=>by unfold Fp Dk;simp[Bo2,Bpj,List.getElem?_append_right]
 have w4:∀(cs cs':List D),cs.length=7→Fp prog 29 (.ptr st.length 0) (st++ [.cells cs,.cells cs'])=some (.agg cs,.rd [st.length]):=fun cs cs' h=>by unfold Fp Dk;simp[Wp,Bb3,h];rw[List.take_of_length_le (by omega)]
 cases ho:Qx nmP gnP t with
 |error ca=>
  obtain⟨c,a⟩:=ca;have hc:=Bli ho;rw[ho]at hc12;have b1:Bo prog .neq 30 (.int .i64 c) (.int .i64 0)=some (.bool true):=by show some (D.bool (c !=0))=_;simp[hc]
  have v1:=w1 (qc 0 0 false [] [] 0 (.sl [] .none)) [.int .i64 0,.int .i64 0] rfl rfl
  repeat (first
   |refine A00 ?_|refine Asu ?_|refine Bkx ?_|refine Awr ?_|refine Avq ?_|refine Ay7 ?_|refine Bq (by decide) ?_|refine Eg rfl rfl ?_|refine Zc (by first|exact hV1|exact hV2|(simp;done)) ?_
   |((first|refine Ei rfl rfl rfl rfl ?_|refine Ee rfl rfl ?_|refine Ed rfl rfl ?_|refine Bni ?_);refine⟨_,by simp only[Bj,BB,Af,ev,Am,Ak,Ag,Gc,Ai,↓reduceIte,Nat.reduceEqDiff,Nat.reduceLT,Aj,hP,hl,Boa,e0,hc9,hc11,hc12,Aaw,Apq,Bnh,Bns,q1,q2,v1,w2,w3,Bo7,b1];first|done|rfl,?_⟩)
   |dsimp only)
  refine⟨rfl,?_,[_,_],rfl⟩;show Gm C1.P _ _ [.tmp 2]=_;simp only[Gm,BB,Am,hl,Nat.reduceEqDiff,↓reduceIte,Nat.reduceLT]
 |ok x=>
  have hc:=hc22 x ho;rw[ho]at hc12;have hc2:∀st,G6 C1 cf 22 [] [] [.agg (Br x),.str t] st=some (.bool true,st,[]):=fun st=>Amz (by kernel_rfl) rfl (Bnz x t st) (hc st)
  have b1:Bo prog .neq 30 (.int .i64 0) (.int .i64 0)=some (.bool false):=rfl;obtain⟨k,a,r,ln,nm,n,he⟩:=Adv x;have v1:=w1 (Br x) [.int .i64 0,.int .i64 0] (by rw[he];rfl) (by rw[he];rfl)
  have v4:=w4 (Br x) [.int .i64 0,.int .i64 0] (by rw[he];rfl)
  clear he
  repeat (first
   |refine A00 ?_|refine Asu ?_|refine Bkx ?_|refine Awr ?_|refine Avq ?_|refine Ay7 ?_|refine Bq (by decide) ?_|refine Eg rfl rfl ?_|refine Zc (by first|exact hV1|exact hV2|(simp;done)) ?_
   |((first|refine Ei rfl rfl rfl rfl ?_|refine Ee rfl rfl ?_|refine Ed rfl rfl ?_|refine Bni ?_);refine⟨_,by simp only[Bj,BB,Af,ev,Am,Ak,Ag,Gc,Ai,↓reduceIte,Nat.reduceEqDiff,Nat.reduceLT,Aj,hP,hl,Boa,e0,hc9,hc11,hc12,Aaw,Bnh,Bns,q1,q2,v1,v4,w2,w3,Bo7,b1,hc2];first|done|rfl,?_⟩)
   |dsimp only)
  refine⟨rfl,?_,[_,_],rfl⟩;show Gm C1.P _ _ [.tmp 2]=_;simp only[Gm,BB,Am,hl,Nat.reduceEqDiff,↓reduceIte,Nat.reduceLT]
theorem Bp3(hK:∀n f,Ba (CF n f))(s:List UInt8):Ao (CF 4009) 8 [.str s] (.bool true):=
 pS rfl (Bpg (Bdq _) (fun t=>pS rfl (A8a (hK _) t 300)) (A8v hK) (fun t x hl hx=>Be6 (hK:=hK) (by omega) 30 3978 x (Arn hx) (Bi0 (by kernel_rfl) hx)) s)
theorem Bnl{W:World}(hL:A6p W)(s:ByteArray):Calls prog 8 #[.string s] W fun e W'=>e= .returned (.bool true)∧Aps W W':=by refine(At2 hL (fun hK=>Bp3 hK s.data.toList) (Bgm s)).mono ?_;rintro e W' ⟨r,g',rfl,hv,hk⟩;cases hv;exact⟨rfl,hk⟩
end Go.Vam
