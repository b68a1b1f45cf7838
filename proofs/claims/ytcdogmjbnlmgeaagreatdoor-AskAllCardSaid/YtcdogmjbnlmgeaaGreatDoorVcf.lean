/-
  The reader takes what the parser takes.
-/
import Derived.Test.YtcdogmjbnlmgeaaGreatDoorVce
set_option linter.unusedSimpArgs false
set_option linter.unusedVariables false
set_option linter.unusedSectionVars false
set_option maxRecDepth 1000000
namespace Go.Vam
open Go.Proofs
section
variable{L:Nat}{may:List UInt8→Bool}{gn:List UInt8→Int × Bool}
theorem Xc{s:PS}{b:Nat}(h:s.bad=some b)(K:Int)(t:List UInt8):Ry L s K t=false:=by unfold Ry;rw[h];rfl
theorem Afr{s:PS}{b:Nat}(h:s.bad=some b):Hf L s=s:=by obtain⟨ws,bad⟩:=s;cases h;rfl
theorem Adu{s:PS}{b:Nat}(h:s.bad=some b)(K:Int)(t:List UInt8):A8 L s K t=s:=by unfold A8;rw[Xc h];exact Afr h
theorem Auo{s:PS}{b:Nat}(h:s.bad=some b)(K:Int)(m:List UInt8→Bool):(Bb L s K m).2=s:=by unfold Bb M9;rw[h];exact Afr h
def Vb(g:PS→Option (Qy × PS)):Prop:=∀(s:PS) (b:Nat) (x:Qy) (s1:PS),s.bad=some b→g s=some (x,s1)→s1=s
theorem Ai4{s:PS}{b:Nat}(h:s.bad=some b):Hz L s=0:=by unfold Hz;simp[Xc h]
theorem Tj:∀n:Nat,Vb (Fe L may gn n)∧Vb (Uv L may gn n)∧Vb (Jv L may gn n)
 |0=>⟨fun s b x s1 _ h=>by simp[Fe]at h,fun s b x s1 _ h=>by simp[Uv]at h,fun s b x s1 _ h=>by simp[Jv]at h⟩
 |n+1=>by
  obtain⟨h1,h2,h3⟩:=Tj n;refine⟨fun s b x s1 hb h=>?_,fun s b x s1 hb h=>?_,fun s b x s1 hb h=>?_⟩
  ·unfold Fe at h;rw[Xc hb]at h;exact h2 s b x s1 hb h
  ·unfold Uv at h;split at h
   ·cases h
   ·rename_i y s2 hy;have:=h3 s b y s2 hb hy;subst this;have hz:∀m,Kw L (Jv L may gn n) m y s2=some (x,s1)→s1=s2:=fun m hm=>by
     cases m with
     |zero=>simp[Kw]at hm
     |succ m=>unfold Kw at hm;rw[if_pos (Ai4 hb)]at hm;cases hm;rfl
    exact hz _ h
  ·unfold Jv at h;have hc:Ij L s=false:=by unfold Ij;rw[hb];rfl
   simp only[Xc hb,hc,BF]at h;cases h;exact Auo hb 1 may
theorem Sq(n:Nat):Vb (Fe L may gn n):=(Tj n).1
theorem Amk(n:Nat):Vb (Jv L may gn n):=(Tj n).2.2
theorem Asi(n:Nat):Vb (Uv L may gn n):=(Tj n).2.1
end
section
variable{L:Nat}{W:List Wd}(hW:Ng W)
include hW in
theorem Vr{s:RS}{c:UInt8}(hc:c≠45):Ry L (Gw W s) 3 [c]=(s.bad.isNone && Pg L W s [c]):=by
 unfold Ry Pg Gw;have h1:(([c]:List UInt8) == [45])=false:=by simpa using hc
 have h2:(([c]:List UInt8) == Vx)=false:=by simp[Vx]
 have h3:(([c]:List UInt8) == Ib)=false:=by simp[Ib]
 simp[h1,h2,h3]
theorem no3{s:RS}{t:List UInt8}(hW:Ng W)(ht:t= [45]∨t=Vx∨t=Ib):(((Cn L (W.drop s.k)).k:Int) == 3 && (Cn L (W.drop s.k)).tx == t)=false:=by
 cases hk:((Cn L (W.drop s.k)).k:Int) == 3 with
 |false=>rfl
 |true=>
  rw[beq_iff_eq]at hk;obtain⟨c,hc,he⟩:=(hW.hd (L:=L) s.k).2 (by omega)
  rw[he];rcases ht with rfl|rfl|rfl
  ·have:c≠45:=by
    rintro rfl;revert hc;decide
   simpa using this
  ·simp[Vx]
  ·simp[Ib]
include hW in
theorem A38{s:RS}{t:List UInt8}(ht:t= [45]∨t=Vx∨t=Ib):Ry L (Gw W s) 1 t=(s.bad.isNone && Pg L W s t):=by
 unfold Pg;rw[no3 hW ht];have:(t == [45] || (t == Vx || t == Ib))=true:=by rcases ht with rfl|rfl|rfl<;>rfl
 rw[this];simp[Ry,Gw]
theorem Pz{s:RS}(b:Option Nat):(⟨(Gw W s).ws.tail,b⟩:PS)=Gw W ⟨s.k+1,b⟩:=by unfold Gw;simp
include hW in
theorem Gb{s:RS}{K:Int}{t:List UInt8}(h:Ry L (Gw W s) K t=(s.bad.isNone && Pg L W s t)):A8 L (Gw W s) K t=Gw W (Bg L W s t):=by
 unfold A8 Bg;rw[h];split
 ·exact Pz _
 ·rfl
theorem P5(may:List UInt8→Bool)(s:RS):Bb L (Gw W s) 1 may=((Dw L may W s).1,Gw W (Dw L may W s).2):=by
 unfold Bb Dw M9;rw[show(Gw W s).bad=s.bad from rfl,show(Gw W s).ws=W.drop s.k from rfl];by_cases h:(s.bad.isNone && (((Cn L (W.drop s.k)).k:Int) == 1 && may (Cn L (W.drop s.k)).tx))=true
 ·rw[if_pos h,if_pos h];rw[show(W.drop s.k)=(Gw W s).ws from rfl,Pz]
 ·rw[if_neg h,if_neg h];rfl
end
section
variable{L:Nat}{W:List Wd}{may:List UInt8→Bool}{gr:List UInt8→Int × Bool}
theorem Abd(n:Nat)(s:RS):Xr L may gr W (n+1) s=Ak2 L may W (H5 L may gr W n) (U0 L may gr W n) s:=by rw[Xr];rfl
theorem Yt(n:Nat)(s:RS):H5 L may gr W (n+1) s=Abf L may W (H5 L may gr W n) (Ae3 L may gr W n) s:=by rw[H5];rfl
theorem Am9(hW:Ng W){q:RS→Option (List D × RS)}(hq:Nj W q)(w:Wd):Nj W (Ab6 L gr W q w):=by
 intro s cs s' hs h;have hkid:∀(n:Nat) (t:RS) (rows:List (List D)) (s1:RS),t.k≤W.length→Ey L W q n true t []=some (rows,s1)→(∀r∈rows,QJ r)∧s1.k≤W.length:=fun n t rows s1 ht hk=>by
  obtain⟨a,b,_⟩:=Mm hq ht (by simp) hk
  exact⟨a,b⟩
 have hfin:∀{k:Int} {nm:List UInt8} {m:Int} {rows:List (List D)} {t:RS},(∀r∈rows,QJ r)→t.k≤W.length→some (qc k w.at_ false [] nm m (.sl rows .none),Bg L W t [41])=some (cs,s')→QJ cs∧s'.k≤W.length:=fun hr ht h=>by obtain⟨rfl,rfl⟩:=Yr h;exact⟨QJ.mk (Gx hr),Dc ht⟩
 have hone:∀(n:Nat) (k:Int) (nm:List UInt8) (t:RS),t.k≤W.length→(match Ey L W q n true t []with
   |none=>none
   |some (rows,s1)=>some (qc k w.at_ false [] nm 0 (.sl rows .none),Bg L W s1 [41]))=some (cs,s')→QJ cs∧s'.k≤W.length:=fun n k nm t ht h=>by
  split at h
  ·cases h
  rename_i rows s1 hk;obtain⟨a,b⟩:=hkid n t rows s1 ht hk;exact hfin a b h
 have hstep:∀(K:Int),K≠4→((Cn L (W.drop s.k)).k:Int)=K→s.k+1≤W.length:=fun K hK hk=>Er (L:=L) hs (by omega)
 unfold Ab6 at h;dsimp only at h;split at h
 ·split at h
  ·cases h
  rename_i rows s1 hk;obtain⟨a,b⟩:=hkid 1 s rows s1 hs hk;split at h
  ·rename_i hc;rw[Bool.and_eq_true]at hc;have hlt:=Em b hc.2;split at h
   ·rename_i hk1;rw[Bool.and_eq_true,beq_iff_eq]at hk1;have:s1.k+1<W.length:=Er (L:=L) (s:=⟨s1.k+1,s1.bad⟩) hlt (by
     show(Cn L (W.drop (s1.k+1))).k≠4;omega)
    exact hfin (t:=⟨s1.k+2,s1.bad⟩) a this h
   ·exact hfin (t:=Gg L W ⟨s1.k+1,s1.bad⟩) a hlt h
  ·exact hfin a b h
 split at h
 ·exact hone 1 7 [] s hs h
 split at h
 ·exact hone 2 8 [] s hs h
 split at h
 ·exact hone 2 9 [] s hs h
 split at h
 ·split at h
  ·rename_i hc;simp only[Bool.and_eq_true,beq_iff_eq]at hc;exact hone 1 10 _ _ (Dc (hstep 1 (by decide) hc.2.1)) h
  ·exact hone 1 10 _ _ (Dc (s:=Gg L W s) hs) h
 split at h
 ·split at h
  ·rename_i hc;simp only[Bool.and_eq_true,beq_iff_eq]at hc;exact hone 1 11 _ _ (Dc (hstep 2 (by decide) hc.2)) h
  ·exact hone 1 11 _ _ (Dc (s:=Gg L W s) hs) h
 ·exact hfin (rows:= []) (by simp) hs h
theorem Abw(hW:Ng W):∀n:Nat,Nj W (H5 L may gr W n)∧Nj W (Ae3 L may gr W n)∧Nj W (Xr L may gr W n)∧Nj W (U0 L may gr W n)
 |0=>⟨fun s cs s' _ h=>by simp[H5]at h,fun s cs s' _ h=>by simp[Ae3]at h,fun s cs s' _ h=>by simp[Xr]at h,fun s cs s' _ h=>by simp[U0]at h⟩
 |n+1=>by
  obtain⟨h1,h2,h3,h4⟩:=Abw hW n;refine⟨fun s cs s' hs h=>?_,fun s cs s' hs h=>?_,fun s cs s' hs h=>?_,fun s cs s' hs h=>?_⟩
  ·rw[Yt]at h;unfold Abf at h;dsimp only at h;split at h
   ·rename_i hc;rw[Bool.and_eq_true]at hc;have hlt:=Em hs hc.2;have hn1:(Dw L may W ⟨s.k+1,s.bad⟩).2.k≤W.length:=N9 (s:=⟨s.k+1,s.bad⟩) hlt;generalize Dw L may W ⟨s.k+1,s.bad⟩=nm at h hn1;have h5:=Dc (L:=L) (t:= [61]) hn1;generalize Bg L W nm.2 [61]=s3 at h h5;split at h
    ·cases h
    rename_i r1 s4 hr;have h6:(∀r∈r1,QJ r)∧s4.k≤W.length:=by
     unfold L6 at hr;split at hr
     ·split at hr
      ·cases hr
      ·rename_i c1 s5 hq;cases hr;obtain⟨a,b⟩:=h1 _ _ _ h5 hq;exact⟨by simpa using a,b⟩
     ·cases hr;exact⟨by simp,h5⟩
    split at h
    ·cases h
    rename_i r2 s6 hr2;cases h;have h7:(∀r∈r2,QJ r)∧s'.k≤W.length:=by
     unfold L6 at hr2;split at hr2
     ·split at hr2
      ·cases hr2
      ·rename_i c2 s5 hq;cases hr2;obtain⟨a,b⟩:=h1 _ _ _ (Dc h6.2) hq;refine⟨fun r hr=>?_,b⟩;rcases List.mem_append.1 hr with hr|hr
       ·exact h6.1 r hr
       ·rw[List.mem_singleton]at hr;rw[hr];exact a
     ·cases hr2;exact⟨h6.1,Dc h6.2⟩
    exact⟨QJ.mk (Gx h7.1),h7.2⟩
   ·split at h
    ·exact h2 _ _ _ hs h
    ·cases h;exact⟨QJ.mk rfl,hs⟩
  ·unfold Ae3 at h;split at h
   ·cases h
   ·rename_i c1 s1 hi;obtain⟨a,b⟩:=h3 _ _ _ hs hi;exact Ve h3 a b h
  ·rw[Abd]at h;unfold Ak2 at h;dsimp only at h;have hlab:∀{k:Int} {r:Bool} {ln nm:List UInt8} {t:RS},t.k≤W.length→some (qc k (atR L W s) r ln nm 0 (.sl [] .none),(Dw L may W t).2)=some (cs,s')→QJ cs∧s'.k≤W.length:=fun ht h=>by
    cases h;exact⟨QJ.mk rfl,N9 ht⟩
   split at h
   ·split at h
    ·exact hlab (t:=⟨s.k+1,s.bad⟩) (Em hs (by assumption)) h
    split at h
    ·exact hlab (t:=⟨s.k+1,s.bad⟩) (Em hs (by assumption)) h
    split at h
    ·rename_i hi;split at h
     ·cases h
     ·rename_i c1 s2 hq;cases h;obtain⟨a,b⟩:=h1 _ _ _ (show(⟨s.k+1,s.bad⟩:RS).k≤W.length from Em hs hi) hq;exact⟨a,Dc b⟩
    split at h
    ·exact h4 _ _ _ hs h
    ·exact hlab hs h
   ·exact hlab hs h
  ·unfold U0 at h;split at h
   ·rename_i hlt;exact Am9 hW h1 _ _ _ _ (Dc (s:=⟨s.k+1,s.bad⟩) hlt) h
   ·cases h
def Al5(W:List Wd)(p:PS→Option (Qy × PS))(q:RS→Option (List D × RS)):Prop:=∀(s:RS) (x:Qy) (s1:PS),s.k≤W.length→p (Gw W s)=some (x,s1)→∃cs s',q s=some (cs,s')∧Gw W s'=s1∧s'.k≤W.length∧(s1.bad=none→cs=Br x)
theorem A6v{p:PS→Option (Qy × PS)}{q:RS→Option (List D × RS)}(hr:Al5 W p q)(hp:Vb p){s:RS}(hs:s.k≤W.length){x:Qy}{s1:PS}(h:p (Gw W s)=some (x,s1)):
  ∃rows s',Ey L W q 1 true s []=some (rows,s')∧Gw W s'=s1∧s'.k≤W.length∧(s1.bad=none→rows= [Br x]):=by
 cases hb:s.bad with
 |some b=>
  have:=hp (Gw W s) b x s1 hb h;refine⟨[],s,?_,this.symm,hs,fun hn=>?_⟩
  ·unfold Ey;rw[hb];rfl
  ·rw[this]at hn;rw[show(Gw W s).bad=s.bad from rfl,hb]at hn;cases hn
 |none=>
  obtain⟨cs,s',h1,h2,h3,h4⟩:=hr s x s1 hs h;refine⟨[cs],s',?_,h2,h3,fun hn=>by rw[h4 hn]⟩
  unfold Ey;rw[hb];simp only[Option.isNone_none,if_true,hb,h1];rfl
theorem Bea(hW:Ng W){p:PS→Option (Qy × PS)}{q:RS→Option (List D × RS)}(hr:Al5 W p q)(hp:Vb p){s:RS}(hs:s.k≤W.length){x y:Qy}{s1 s2:PS}(h:p (Gw W s)=some (x,s1))(h':p (A8 L s1 3 [44])=some (y,s2)):
  ∃rows s',Ey L W q 2 true s []=some (rows,s')∧Gw W s'=s2∧s'.k≤W.length∧(s2.bad=none→rows= [Br x,Br y]):=by
 have hst:∀{b:Nat},s1.bad=some b→s2=s1:=fun {b} hb=>by rw[Adu hb]at h';exact hp s1 b y s2 hb h'
 cases hb:s.bad with
 |some b=>
  have e1:=hp (Gw W s) b x s1 hb h;have e2:=hst (b:=b) (by rw[e1];exact hb)
  refine⟨[],s,?_,by rw[e2,e1],hs,fun hn=>?_⟩
  ·unfold Ey;rw[hb];rfl
  ·rw[e2,e1,show(Gw W s).bad=s.bad from rfl,hb]at hn;cases hn
 |none=>
  obtain⟨cs,t,h1,h2,h3,h4⟩:=hr s x s1 hs h;have hk:Ey L W q 2 true s []=Ey L W q 1 false t [cs]:=by rw[Ey];rw[hb];simp only[Option.isNone_none,if_true,hb,h1];rfl
  rw[hk];unfold Ey;subst h2;have hm:A8 L (Gw W t) 3 [44]=Gw W (Bg L W t [44]):=Gb hW (Vr hW (by decide))
  rw[hm]at h';cases hb2:t.bad with
  |some b=>have e2:=hst (b:=b) hb2;refine⟨[cs],t,rfl,e2.symm,h3,fun hn=>?_⟩;rw[e2,show(Gw W t).bad=t.bad from rfl,hb2]at hn;cases hn
  |none=>
   simp only[Option.isNone_none,if_true,BF];cases hb3:(Bg L W t [44]).bad with
   |some b=>have e2:=hp _ b y s2 hb3 h';refine⟨[cs],Bg L W t [44],rfl,e2.symm,Dc h3,fun hn=>?_⟩;rw[e2,show(Gw W (Bg L W t [44])).bad=(Bg L W t [44]).bad from rfl,hb3]at hn;cases hn
   |none=>obtain⟨c2,s6,q1,q2,q3,q4⟩:=hr _ y s2 (Dc h3) h';simp only[Option.isNone_none,if_true,q1];refine⟨[cs]++ [c2],s6,rfl,q2,q3,fun hn=>?_⟩;have hnb:(Gw W t).bad=none:=hb2;rw[q4 hn,h4 hnb];rfl
end
section
variable{L:Nat}{W:List Wd}{may:List UInt8→Bool}{gr:List UInt8→Int × Bool}
theorem Aul(hW:Ng W){p:PS→Option (Qy × PS)}{q:RS→Option (List D × RS)}(hr:Al5 W p q)(hp:Vb p)(w:Wd)(a:Nat)(ha:a=w.at_)(hwm:Bl.tail.contains w.tx=true){s:RS}(hs:s.k≤W.length){x:Qy}{s1:PS}(h:Q7 L gr p a w.tx (Gw W s)=some (x,s1)):
  ∃cs s',Ab6 L gr W q w s=some (cs,s')∧Gw W s'=A8 L s1 3 [41]∧s'.k≤W.length∧((A8 L s1 3 [41]).bad=none→cs=Br x):=by
 subst ha;have hfin:∀{cs:List D} {t:RS},t.k≤W.length→Gw W t=s1→(s1.bad=none→cs=Br x)→∃cs' s',some (cs,Bg L W t [41])=some (cs',s')∧Gw W s'=A8 L s1 3 [41]∧s'.k≤W.length∧((A8 L s1 3 [41]).bad=none→cs'=Br x):=fun {cs t} ht he hc=>by
  refine⟨cs,_,rfl,?_,Dc ht,fun hn=>hc ?_⟩
  ·rw[← he];exact(Gb hW (Vr hW (by decide))).symm
  ·cases hb:s1.bad with
   |none=>rfl
   |some b=>rw[Adu hb,hb]at hn;cases hn
 have hone:∀{k:Int} {nm:List UInt8} {t:RS} {y:Qy} {s2:PS},t.k≤W.length→p (Gw W t)=some (y,s2)→x= .un k w.at_ nm 0 y→s1=s2→∃cs' s',(match Ey L W q 1 true t []with
   |none=>none
   |some (rows,s1)=>some (qc k w.at_ false [] nm 0 (.sl rows .none),Bg L W s1 [41]))=some (cs',s')∧Gw W s'=A8 L s1 3 [41]∧s'.k≤W.length∧((A8 L s1 3 [41]).bad=none→cs'=Br x):=fun {k nm t y s2} ht hy hx he=>by
  obtain⟨rows,s',h1,h2,h3,h4⟩:=A6v (L:=L) hr hp ht hy;rw[h1];subst he;exact hfin h3 h2 fun hn=>by rw[h4 hn,hx];rfl
 have htwo:∀{k:Int} {y z:Qy} {s2 s3:PS},p (Gw W s)=some (y,s2)→p (A8 L s2 3 [44])=some (z,s3)→x= .bin k w.at_ y z→s1=s3→∃cs' s',(match Ey L W q 2 true s []with
   |none=>none
   |some (rows,s1)=>some (qc k w.at_ false [] [] 0 (.sl rows .none),Bg L W s1 [41]))=some (cs',s')∧Gw W s'=A8 L s1 3 [41]∧s'.k≤W.length∧((A8 L s1 3 [41]).bad=none→cs'=Br x):=fun {k y z s2 s3} hy hz hx he=>by
  obtain⟨rows,s',h1,h2,h3,h4⟩:=Bea (L:=L) hW hr hp hs hy hz;rw[h1];subst he;exact hfin h3 h2 fun hn=>by rw[h4 hn,hx];rfl
 unfold Q7 at h;unfold Ab6;dsimp only;by_cases h1:w.tx=Aj1
 ·rw[if_pos h1]at h;rw[if_pos h1];split at h
  ·cases h
  rename_i y s2 hy;obtain⟨rows,t,k1,k2,k3,k4⟩:=A6v (L:=L) hr hp hs hy;rw[k1];dsimp only;subst k2;rw[Vr hW (by decide)]at h
  by_cases hc:(t.bad.isNone && Pg L W t [44])=true
  ·rw[if_pos hc]at h;rw[if_pos hc];have hbn:t.bad=none:=by
    rw[Bool.and_eq_true]at hc;simpa using hc.1
   have hlt:=Em k3 (by rw[Bool.and_eq_true]at hc;exact hc.2)
   have hm:A8 L (Gw W t) 3 [44]=Gw W ⟨t.k+1,t.bad⟩:=by
    rw[Gb hW (Vr hW (by decide))]
    unfold Bg;rw[if_pos hc]
   rw[hm]at h;cases h;have hnb:M9 L (Gw W ⟨t.k+1,t.bad⟩) 1 (fun t=>(gr t).2)=(((Cn L (W.drop (t.k+1))).k:Int) == 1 && (gr (Cn L (W.drop (t.k+1))).tx).2):=by unfold M9 Gw;dsimp only;rw[hbn];rfl
   unfold Zk Bb;rw[hnb];by_cases hg:(((Cn L (W.drop (t.k+1))).k:Int) == 1 && (gr (Cn L (W.drop (t.k+1))).tx).2)=true
   ·rw[if_pos hg,if_pos hg];have hlt2:t.k+1<W.length:=Er (L:=L) (s:=⟨t.k+1,t.bad⟩) hlt (by
     rw[Bool.and_eq_true,beq_iff_eq]at hg;show(Cn L (W.drop (t.k+1))).k≠4;omega)
    unfold Zk Bb at hfin;rw[hnb,if_pos hg]at hfin;refine hfin (t:=⟨t.k+2,t.bad⟩) hlt2 ?_ fun hn=>?_
    ·rw[Pz];rfl
    ·rw[k4 hbn];rfl
   ·rw[if_neg hg,if_neg hg];unfold Zk Bb at hfin;rw[hnb,if_neg hg]at hfin;refine hfin (t:=Gg L W ⟨t.k+1,t.bad⟩) hlt rfl fun hn=>?_;unfold Hf Gw at hn;dsimp only at hn;rw[hbn]at hn;cases hn
  ·rw[if_neg hc]at h;rw[if_neg hc];cases h;exact hfin k3 rfl fun hn=>by rw[k4 hn];rfl
 rw[if_neg h1]at h;rw[if_neg h1];by_cases h2:w.tx=Abt
 ·rw[if_pos h2]at h;rw[if_pos h2];split at h
  ·cases h
  rename_i y s2 hy;cases h;exact hone hs hy rfl rfl
 rw[if_neg h2]at h;rw[if_neg h2];by_cases h3:w.tx=Afo
 ·rw[if_pos (.inl h3)]at h;rw[if_pos h3];split at h
  ·cases h
  rename_i y s2 hy;split at h
  ·cases h
  rename_i z s3 hz;cases h;refine htwo hy hz ?_ rfl;rw[if_neg];rw[h3];decide
 by_cases h4:w.tx=Zq
 ·rw[if_pos (.inr h4)]at h;rw[if_neg h3,if_pos h4];split at h
  ·cases h
  rename_i y s2 hy;split at h
  ·cases h
  rename_i z s3 hz;cases h;refine htwo hy hz ?_ rfl;rw[if_pos h4]
 rw[if_neg (by rintro(h|h);exact h3 h;exact h4 h)]at h
 rw[if_neg h3,if_neg h4];have hword:∀{k:Int} {K:Int} {m:List UInt8→Bool} {y:Qy} {s2:PS},K≠4→p (A8 L (Bb L (Gw W s) K m).2 3 [44])=some (y,s2)→x= .un k w.at_ (Bb L (Gw W s) K m).1 0 y→s1=s2→∃cs' s',(if(s.bad.isNone && (((Cn L (W.drop s.k)).k:Int) == K && m (Cn L (W.drop s.k)).tx))=true then match Ey L W q 1 true (Bg L W ⟨s.k+1,s.bad⟩ [44]) []with
    |none=>none
    |some (rows,s1)=>some (qc k w.at_ false [] (Cn L (W.drop s.k)).tx 0 (.sl rows .none),Bg L W s1 [41])
   else match Ey L W q 1 true (Bg L W (Gg L W s) [44]) []with
    |none=>none
    |some (rows,s1)=>some (qc k w.at_ false [] [] 0 (.sl rows .none),Bg L W s1 [41]))=some (cs',s')∧Gw W s'=A8 L s1 3 [41]∧s'.k≤W.length∧((A8 L s1 3 [41]).bad=none→cs'=Br x):=fun {k K m y s2} hK hy hx he=>by
  have hnb:M9 L (Gw W s) K m=(s.bad.isNone && (((Cn L (W.drop s.k)).k:Int) == K && m (Cn L (W.drop s.k)).tx)):=rfl;unfold Bb at hy hx;rw[hnb]at hy hx;by_cases hc:(s.bad.isNone && (((Cn L (W.drop s.k)).k:Int) == K && m (Cn L (W.drop s.k)).tx))=true
  ·rw[if_pos hc]at hy hx;rw[if_pos hc];have hlt:s.k<W.length:=Er (L:=L) hs (by
    simp only[Bool.and_eq_true,beq_iff_eq]at hc;have:=hc.2.1;omega)
   dsimp only at hy;rw[Pz,show(Gw W s).bad=s.bad from rfl,Gb hW (Vr hW (by decide))]at hy
   exact hone (Dc (s:=⟨s.k+1,s.bad⟩) hlt) hy hx he
  ·rw[if_neg hc]at hy hx;rw[if_neg hc];dsimp only at hy;rw[← Avl,Gb hW (Vr hW (by decide))]at hy
   exact hone (Dc (s:=Gg L W s) hs) hy hx he
 by_cases h5:w.tx=Ake
 ·rw[if_pos h5]at h;rw[if_pos h5];split at h
  ·cases h
  rename_i y s2 hy;cases h;exact hword (K:=1) (by decide) hy rfl rfl
 rw[if_neg h5]at h;rw[if_neg h5];by_cases h6:w.tx=X5
 ·rw[if_pos h6]at h;rw[if_pos h6];split at h
  ·cases h
  rename_i y s2 hy;cases h;have:=hword (K:=2) (m:=fun _=>true) (by decide) hy rfl rfl
  simp only[Bool.and_true]at this;exact this
 rw[if_neg h6]at h;rw[if_neg h6];cases h;exact hfin hs rfl fun _=>rfl
theorem Af5(hW:Ng W){p:PS→Option (Qy × PS)}{q:RS→Option (List D × RS)}(hr:Al5 W p q)(hp:Vb p):∀{m:Nat} {y:Qy} {cs:List D} {s:RS} {x:Qy} {s1:PS},s.k≤W.length→(s.bad=none→cs=Br y)→Kw L p m y (Gw W s)=some (x,s1)→∃cs' s',Li L W q m cs s=some (cs',s')∧Gw W s'=s1∧s'.k≤W.length∧(s1.bad=none→cs'=Br x)
 |0,y,cs,s,x,s1,hs,hc,h=>by simp[Kw]at h
 |m+1,y,cs,s,x,s1,hs,hc,h=>by
  unfold Kw at h;unfold Li;cases hb:s.bad with
  |some b=>have:Hz L (Gw W s)=0:=Ai4 (L:=L) (s:=Gw W s) hb;rw[if_pos this]at h;cases h;exact⟨cs,s,rfl,rfl,hs,fun hn=>hc hn⟩
  |none=>
   have hsg:Hz L (Gw W s)=Oc L W s:=by
    unfold Hz Oc;rw[Vr hW (by decide),Vr hW (by decide),A38 hW (.inl rfl),hb]
    rfl
   rw[hsg]at h;simp only[Option.isNone_none,if_true];by_cases hz:Oc L W s=0
   ·rw[if_pos hz]at h;rw[if_pos hz];cases h;exact⟨cs,s,rfl,rfl,hs,fun _=>hc hb⟩
   ·rw[if_neg hz]at h;rw[if_neg hz];have hlt:s.k<W.length:=by
     unfold Oc at hz;split at hz
     ·exact Em hs (by assumption)
     ·split at hz
      ·exact Em hs (by assumption)
      ·split at hz
       ·exact Em hs (by assumption)
       ·exact absurd rfl hz
    split at h
    ·cases h
    rename_i z s2 hz2;rw[Pz,show(Gw W s).bad=s.bad from rfl,hb]at hz2;obtain⟨c2,t,q1,q2,q3,q4⟩:=hr ⟨s.k+1,none⟩ z s2 hlt hz2;rw[q1];subst q2;exact Af5 hW hr hp q3 (fun hn=>by rw[q4 hn,hc hb];rfl) h
theorem Apz(hW:Ng W):∀n:Nat,Al5 W (Fe L may gr n) (H5 L may gr W n)∧Al5 W (Uv L may gr n) (Ae3 L may gr W n)∧Al5 W (Jv L may gr n) (Xr L may gr W n)∧(∀(s:RS) (x:Qy) (s1:PS),s.k<W.length→Bl.tail.contains (Cn L (W.drop s.k)).tx=true→Py L may gr n (Gw W s) (Cn L (W.drop s.k)).at_=some (x,s1)→∃cs s',U0 L may gr W n s=some (cs,s')∧Gw W s'=s1∧s'.k≤W.length∧(s1.bad=none→cs=Br x))
 |0=>⟨fun s x s1 _ h=>by simp[Fe]at h,fun s x s1 _ h=>by simp[Uv]at h,fun s x s1 _ h=>by simp[Jv]at h,fun s x s1 _ _ h=>by simp[Py]at h⟩
 |n+1=>by
  obtain⟨h1,h2,h3,h4⟩:=Apz hW n;refine⟨fun s x s1 hs h=>?_,fun s x s1 hs h=>?_,fun s x s1 hs h=>?_,fun s x s1 hlt hcm h=>?_⟩
  ·
   rw[Yt];unfold Fe at h;unfold Abf;dsimp only;rw[A38 hW (.inr (.inr rfl))]at h;by_cases hc:(s.bad.isNone && Pg L W s Ib)=true
   ·rw[if_pos hc]at h;rw[if_pos hc];have hbn:s.bad=none:=by
     rw[Bool.and_eq_true]at hc;simpa using hc.1
    have hlt:=Em hs (by rw[Bool.and_eq_true]at hc;exact hc.2)
    have hm:A8 L (Gw W s) 1 Ib=Gw W ⟨s.k+1,s.bad⟩:=by rw[Gb hW (A38 hW (.inr (.inr rfl)))];unfold Bg;rw[if_pos hc]
    rw[hm,P5]at h;dsimp only at h;have hn1:(Dw L may W ⟨s.k+1,s.bad⟩).2.k≤W.length:=N9 (s:=⟨s.k+1,s.bad⟩) hlt;generalize Dw L may W ⟨s.k+1,s.bad⟩=nm at h hn1 ⊢;rw[Gb hW (Vr hW (by decide))]at h
    have h5:=Dc (L:=L) (t:= [61]) hn1;generalize Bg L W nm.2 [61]=s3 at h h5 ⊢;split at h
    ·cases h
    rename_i y s4 hy;split at h
    ·cases h
    rename_i z s6 hz;cases h;have hfirst:∃r1 t,L6 (H5 L may gr W n) [] s3=some (r1,t)∧Gw W t=s4∧t.k≤W.length∧(s4.bad=none→r1= [Br y]):=by
     unfold L6;cases hb3:s3.bad with
     |some b=>have:=Sq n (Gw W s3) b y s4 hb3 hy;refine⟨[],s3,rfl,this.symm,h5,fun hn=>?_⟩;rw[this,show(Gw W s3).bad=s3.bad from rfl,hb3]at hn;cases hn
     |none=>obtain⟨c1,t,q1,q2,q3,q4⟩:=h1 s3 y s4 h5 hy;exact⟨[c1],t,by rw[q1];rfl,q2,q3,fun hn=>by rw[q4 hn]⟩
    obtain⟨r1,t,f1,f2,f3,f4⟩:=hfirst;rw[f1];dsimp only;subst f2;rw[Gb hW (A38 hW (.inr (.inl rfl)))]at hz;have h6:=Dc (L:=L) (t:=Vx) f3;have hsec:∃r2 u,L6 (H5 L may gr W n) r1 (Bg L W t Vx)=some (r2,u)∧Gw W u=s1∧u.k≤W.length∧(s1.bad=none→r2= [Br y,Br z]):=by
     unfold L6;cases hb3:(Bg L W t Vx).bad with
     |some b=>have:=Sq n _ b z s1 hb3 hz;refine⟨r1,_,rfl,this.symm,h6,fun hn=>?_⟩;rw[this,show(Gw W (Bg L W t Vx)).bad=(Bg L W t Vx).bad from rfl,hb3]at hn;cases hn
     |none=>
      obtain⟨c1,u,q1,q2,q3,q4⟩:=h1 _ z s1 h6 hz;refine⟨r1++ [c1],u,by rw[q1];rfl,q2,q3,fun hn=>?_⟩
      have hbt:t.bad=none:=by
       cases hbt:t.bad with
       |none=>rfl
       |some b=>
        have:(Bg L W t Vx).bad=some b:=by unfold Bg Gg;rw[hbt];rfl
        rw[this]at hb3;cases hb3
      rw[q4 hn,f4 hbt];rfl
    obtain⟨r2,u,g1,g2,g3,g4⟩:=hsec;rw[g1];exact⟨_,_,rfl,g2,g3,fun hn=>by rw[g4 hn];rfl⟩
   ·rw[if_neg hc]at h;rw[if_neg hc];cases hb:s.bad with
    |none=>exact h2 s x s1 hs h
    |some b=>have:=Asi n (Gw W s) b x s1 hb h;refine⟨_,s,rfl,this.symm,hs,fun hn=>?_⟩;rw[this,show(Gw W s).bad=s.bad from rfl,hb]at hn;cases hn
  ·
   unfold Uv at h;unfold Ae3;split at h
   ·cases h
   rename_i y s2 hy;obtain⟨c1,t,q1,q2,q3,q4⟩:=h3 s y s2 hs hy;rw[q1];subst q2;exact Af5 hW h3 (Amk n) q3 q4 h
  ·
   rw[Abd];unfold Jv at h;unfold Ak2;dsimp only;have hat:(Cn L (Gw W s).ws).at_=atR L W s:=rfl;cases hb:s.bad with
   |some b=>
    have hcb:Ij L (Gw W s)=false:=by unfold Ij;rw[show(Gw W s).bad=s.bad from rfl,hb];rfl
    simp only[Xc (s:=Gw W s) hb,hcb,BF]at h;cases h;rw[P5];exact⟨_,_,rfl,rfl,N9 hs,fun _=>rfl⟩
   |none=>
    simp only[Option.isNone_none,if_true];rw[Vr hW (by decide),Vr hW (by decide),Vr hW (by decide),hb]at h
    simp only[Option.isNone_none,Bool.true_and]at h;have hmust:∀(c:UInt8),c≠45→Pg L W s [c]=true→A8 L (Gw W s) 3 [c]=Gw W ⟨s.k+1,none⟩:=fun c hc hi=>by rw[Gb hW (Vr hW hc)];unfold Bg;rw[hb,hi];rfl
    by_cases i1:Pg L W s [58]=true
    ·rw[if_pos i1]at h;rw[if_pos i1];rw[hmust 58 (by decide) i1,P5]at h
     cases h;exact⟨_,_,rfl,rfl,N9 (s:=⟨s.k+1,none⟩) (Em hs i1),fun _=>rfl⟩
    rw[if_neg i1]at h;rw[if_neg i1];by_cases i2:Pg L W s [36]=true
    ·rw[if_pos i2]at h;rw[if_pos i2];rw[hmust 36 (by decide) i2,P5]at h
     cases h;exact⟨_,_,rfl,rfl,N9 (s:=⟨s.k+1,none⟩) (Em hs i2),fun _=>rfl⟩
    rw[if_neg i2]at h;rw[if_neg i2];by_cases i3:Pg L W s [40]=true
    ·rw[if_pos i3]at h;rw[if_pos i3];rw[hmust 40 (by decide) i3]at h
     split at h
     ·cases h
     rename_i y s2 hy;cases h;obtain⟨c1,t,q1,q2,q3,q4⟩:=h1 ⟨s.k+1,none⟩ x s2 (Em hs i3) hy;rw[q1];subst q2;refine⟨c1,_,rfl,(Gb hW (Vr hW (by decide))).symm,Dc q3,fun hn=>q4 ?_⟩
     cases hbt:(Gw W t).bad with
     |none=>rfl
     |some b=>rw[Adu hbt,hbt]at hn;cases hn
    rw[if_neg i3]at h;rw[if_neg i3];have hcb:Ij L (Gw W s)=(((Cn L (W.drop s.k)).k:Int) == 1 && Bl.tail.contains (Cn L (W.drop s.k)).tx):=by unfold Ij;rw[show(Gw W s).bad=s.bad from rfl,hb];rfl
    rw[hcb]at h;by_cases i4:(((Cn L (W.drop s.k)).k:Int) == 1 && Bl.tail.contains (Cn L (W.drop s.k)).tx)=true
    ·rw[if_pos i4]at h;rw[if_pos i4];rw[Bool.and_eq_true,beq_iff_eq]at i4;exact h4 s x s1 (Er (L:=L) hs (by have:=i4.1;omega)) i4.2 h
    ·rw[if_neg i4]at h;rw[if_neg i4];rw[P5]at h;cases h;exact⟨_,_,rfl,rfl,N9 hs,fun _=>rfl⟩
  ·
   unfold Py at h;unfold U0;rw[if_pos hlt];split at h
   ·cases h
   rename_i y s2 hy;cases h;rw[Pz,Gb hW (Vr hW (by decide))]at hy
   exact Aul hW h1 (Sq n) _ _ rfl hcm (Dc (s:=⟨s.k+1,s.bad⟩) hlt) hy
end
end Go.Vam
