/- P. -/
import Derived.Test.YtcdogmjbnlmgeaaGreatDoorVce
set_option linter.unusedSimpArgs false
set_option linter.unusedVariables false
set_option linter.unusedSectionVars false
noncomputable section
set_option maxRecDepth 1000000
namespace Go.Vam
open Go.Proofs Go.Proofs.Tryz
section
variable{L:Nat}{may:List UInt8→Bool}{gn:List UInt8→Int × Bool}
theorem Xc{s:PS}{b:Nat}(h:s.bad=some b)(K:Int)(t:List UInt8):Ry L s K t=false:=by unfold Ry;rw[h];rfl
theorem Afr{s:PS}{b:Nat}(h:s.bad=some b):Hf L s=s:=by obtain⟨ws,bad⟩:=s;cases h;rfl
theorem Adu{s:PS}{b:Nat}(h:s.bad=some b)(K:Int)(t:List UInt8):A8 L s K t=s:=by unfold A8;rw[Xc h];exact Afr h
theorem Auo{s:PS}{b:Nat}(h:s.bad=some b)(K:Int)(m:List UInt8→Bool):(Bb L s K m).2=s:=by unfold Bb M9;rw[h];exact Afr h
def Vb(g:PS→Option (Qy × PS)):Prop:=∀(s:PS) (b:Nat) (x:Qy) (s1:PS),s.bad=some b→g s=some (x,s1)→s1=s
theorem Ai4{s:PS}{b:Nat}(h:s.bad=some b):Hz L s=0:=by unfold Hz;simp[Xc h]
theorem Tj:∀n:Nat,Vb (Fe L may gn n)∧Vb (Uv L may gn n)∧Vb (Jv L may gn n)
 |0=>⟨fun s b x s1 _ h=>by simp[Fe]at h,fun s b x s1 _ h=>by simp[Uv]at h,fun s b x s1 _ h=>by simp[Jv]at h⟩
 |n+1=>by
  obtain⟨h1,h2,h3⟩:=Tj n;refine⟨fun s b x s1 hb h=>?_,fun s b x s1 hb h=>?_,fun s b x s1 hb h=>?_⟩
  ·unfold Fe at h;rw[Xc hb]at h;exact h2 s b x s1 hb h
  ·unfold Uv at h;split at h
   ·cases h
   ·rename_i y s2 hy;have:=h3 s b y s2 hb hy;subst this;have hz:∀m,Kw L (Jv L may gn n) m y s2=some (x,s1)→s1=s2:=fun m hm=>by
     cases m with
     |zero=>simp[Kw]at hm
     |succ m=>unfold Kw at hm;rw[if_pos (Ai4 hb)]at hm;cases hm;rfl
    exact hz _ h
  ·unfold Jv at h;have hc:Ij L s=false:=by unfold Ij;rw[hb];rfl
   simp only[Xc hb,hc,BF]at h;cases h;exact Auo hb 1 may
theorem Sq(n:Nat):Vb (Fe L may gn n):=(Tj n).1
theorem Amk(n:Nat):Vb (Jv L may gn n):=(Tj n).2.2
theorem Asi(n:Nat):Vb (Uv L may gn n):=(Tj n).2.1
end
section
variable{L:Nat}{W:List Wd}(hW:Ng W)
include hW in
theorem Vr{s:RS}{c:UInt8}(hc:c≠45):Ry L (Gw W s) 3 [c]=(s.bad.isNone && Pg L W s [c]):=by
 unfold Ry Pg Gw;have h1:(([c]:List UInt8) == [45])=false:=by simpa using hc
 have h2:(([c]:List UInt8) == Vx)=false:=by simp[Vx]
 have h3:(([c]:List UInt8) == Ib)=false:=by simp[Ib]
 simp[h1,h2,h3]
theorem no3{s:RS}{t:List UInt8}(hW:Ng W)(ht:t= [45]∨t=Vx∨t=Ib):(((Cn L (W.drop s.k)).k:Int) == 3 && (Cn L (W.drop s.k)).tx == t)=false:=by
 cases hk:((Cn L (W.drop s.k)).k:Int) == 3 with
 |false=>rfl
 |true=>
  rw[beq_iff_eq]at hk;obtain⟨c,hc,he⟩:=(hW.hd (L:=L) s.k).2 (by omega)
  rw[he];rcases ht with rfl|rfl|rfl
  ·have:c≠45:=by
    rintro rfl;revert hc;decide
   simpa using this
  ·simp[Vx]
  ·simp[Ib]
include hW in
theorem A38{s:RS}{t:List UInt8}(ht:t= [45]∨t=Vx∨t=Ib):Ry L (Gw W s) 1 t=(s.bad.isNone && Pg L W s t):=by
 unfold Pg;rw[no3 hW ht];have:(t == [45] || (t == Vx || t == Ib))=true:=by rcases ht with rfl|rfl|rfl<;>rfl
 rw[this];simp[Ry,Gw]
theorem Pz{s:RS}(b:Option Nat):(⟨(Gw W s).ws.tail,b⟩:PS)=Gw W ⟨s.k+1,b⟩:=by unfold Gw;simp
include hW in
theorem Gb{s:RS}{K:Int}{t:List UInt8}(h:Ry L (Gw W s) K t=(s.bad.isNone && Pg L W s t)):A8 L (Gw W s) K t=Gw W (Bg L W s t):=by
 unfold A8 Bg;rw[h];split
 ·exact Pz _
 ·rfl
theorem P5(may:List UInt8→Bool)(s:RS):Bb L (Gw W s) 1 may=((Dw L may W s).1,Gw W (Dw L may W s).2):=by
 unfold Bb Dw M9;rw[show(Gw W s).bad=s.bad from rfl,show(Gw W s).ws=W.drop s.k from rfl];by_cases h:(s.bad.isNone && (((Cn L (W.drop s.k)).k:Int) == 1 && may (Cn L (W.drop s.k)).tx))=true
 ·rw[if_pos h,if_pos h];rw[show(W.drop s.k)=(Gw W s).ws from rfl,Pz]
 ·rw[if_neg h,if_neg h];rfl
end
section
variable{L:Nat}{W:List Wd}{may:List UInt8→Bool}{gr:List UInt8→Int × Bool}
theorem Abd(n:Nat)(s:RS):Xr L may gr W (n+1) s=Ak2 L may W (H5 L may gr W n) (U0 L may gr W n) s:=by rw[Xr];rfl
theorem Yt(n:Nat)(s:RS):H5 L may gr W (n+1) s=Abf L may W (H5 L may gr W n) (Ae3 L may gr W n) s:=by rw[H5];rfl
theorem Am9(hW:Ng W){q:RS→Option (List D × RS)}(hq:Nj W q)(w:Wd):Nj W (Ab6 L gr W q w):=by
 intro s cs s' hs h;have hkid:∀(n:Nat) (t:RS) (rows:List (List D)) (s1:RS),t.k≤W.length→Ey L W q n true t []=some (rows,s1)→(∀r∈rows,QJ r)∧s1.k≤W.length:=fun n t rows s1 ht hk=>by
  obtain⟨a,b,_⟩:=Mm hq ht (by simp) hk
  exact⟨a,b⟩
 have hfin:∀{k:Int} {nm:List UInt8} {m:Int} {rows:List (List D)} {t:RS},(∀r∈rows,QJ r)→t.k≤W.length→some (qc k w.at_ false [] nm m (.sl rows .none),Bg L W t [41])=some (cs,s')→QJ cs∧s'.k≤W.length:=fun hr ht h=>by obtain⟨rfl,rfl⟩:=Yr h;exact⟨QJ.mk (Gx hr),Dc ht⟩
 have hone:∀(n:Nat) (k:Int) (nm:List UInt8) (t:RS),t.k≤W.length→(match Ey L W q n true t []with
   |none=>none
   |some (rows,s1)=>some (qc k w.at_ false [] nm 0 (.sl rows .none),Bg L W s1 [41]))=some (cs,s')→QJ cs∧s'.k≤W.length:=fun n k nm t ht h=>by
  split at h
  ·cases h
  rename_i rows s1 hk;obtain⟨a,b⟩:=hkid n t rows s1 ht hk;exact hfin a b h
 have hstep:∀(K:Int),K≠4→((Cn L (W.drop s.k)).k:Int)=K→s.k+1≤W.length:=fun K hK hk=>Er (L:=L) hs (by omega)
 unfold Ab6 at h;dsimp only at h;split at h
 ·split at h
  ·cases h
  rename_i rows s1 hk;obtain⟨a,b⟩:=hkid 1 s rows s1 hs hk;split at h
  ·rename_i hc;rw[Bool.and_eq_true]at hc;have hlt:=Em b hc.2;split at h
   ·rename_i hk1;rw[Bool.and_eq_true,beq_iff_eq]at hk1;have:s1.k+1<W.length:=Er (L:=L) (s:=⟨s1.k+1,s1.bad⟩) hlt (by
     show(Cn L (W.drop (s1.k+1))).k≠4;omega)
    exact hfin (t:=⟨s1.k+2,s1.bad⟩) a this h
   ·exact hfin (t:=Gg L W ⟨s1.k+1,s1.bad⟩) a hlt h
  ·exact hfin a b h
 split at h
 ·exact hone 1 7 [] s hs h
 split at h
 ·exact hone 2 8 [] s hs h
 split at h
 ·exact hone 2 9 [] s hs h
 split at h
 ·split at h
  ·rename_i hc;simp only[Bool.and_eq_true,beq_iff_eq]at hc;exact hone 1 10 _ _ (Dc (hstep 1 (by decide) hc.2.1)) h
  ·exact hone 1 10 _ _ (Dc (s:=Gg L W s) hs) h
 split at h
 ·split at h
  ·rename_i hc;simp only[Bool.and_eq_true,beq_iff_eq]at hc;exact hone 1 11 _ _ (Dc (hstep 2 (by decide) hc.2)) h
  ·exact hone 1 11 _ _ (Dc (s:=Gg L W s) hs) h
 ·exact hfin (rows:= []) (by simp) hs h
theorem Abw(hW:Ng W):∀n:Nat,Nj W (H5 L may gr W n)∧Nj W (Ae3 L may gr W n)∧Nj W (Xr L may gr W n)∧Nj W (U0 L may gr W n)
 |0=>⟨fun s cs s' _ h=>by simp[H5]at h,fun s cs s' _ h=>by simp[Ae3]at h,fun s cs s' _ h=>by simp[Xr]at h,fun s cs s' _ h=>by simp[U0]at h⟩
 |n+1=>by
  obtain⟨h1,h2,h3,h4⟩:=Abw hW n;refine⟨fun s cs s' hs h=>?_,fun s cs s' hs h=>?_,fun s cs s' hs h=>?_,fun s cs s' hs h=>?_⟩
  ·rw[Yt]at h;unfold Abf at h;dsimp only at h;split at h
   ·rename_i hc;rw[Bool.and_eq_true]at hc;have hlt:=Em hs hc.2;have hn1:(Dw L may W ⟨s.k+1,s.bad⟩).2.k≤W.length:=N9 (s:=⟨s.k+1,s.bad⟩) hlt;generalize Dw L may W ⟨s.k+1,s.bad⟩=nm at h hn1;have h5:=Dc (L:=L) (t:= [61]) hn1;generalize Bg L W nm.2 [61]=s3 at h h5;split at h
    ·cases h
    rename_i r1 s4 hr;have h6:(∀r∈r1,QJ r)∧s4.k≤W.length:=by
     unfold L6 at hr;split at hr
     ·split at hr
      ·cases hr
      ·rename_i c1 s5 hq;cases hr;obtain⟨a,b⟩:=h1 _ _ _ h5 hq;exact⟨by simpa using a,b⟩
     ·cases hr;exact⟨by simp,h5⟩
    split at h
    ·cases h
    rename_i r2 s6 hr2;cases h;have h7:(∀r∈r2,QJ r)∧s'.k≤W.length:=by
     unfold L6 at hr2;split at hr2
     ·split at hr2
      ·cases hr2
      ·rename_i c2 s5 hq;cases hr2;obtain⟨a,b⟩:=h1 _ _ _ (Dc h6.2) hq;refine⟨fun r hr=>?_,b⟩;rcases List.mem_append.1 hr with hr|hr
       ·exact h6.1 r hr
       ·rw[List.mem_singleton]at hr;rw[hr];exact a
     ·cases hr2;exact⟨h6.1,Dc h6.2⟩
    exact⟨QJ.mk (Gx h7.1),h7.2⟩
   ·split at h
    ·exact h2 _ _ _ hs h
    ·cases h;exact⟨QJ.mk rfl,hs⟩
  ·unfold Ae3 at h;split at h
   ·cases h
   ·rename_i c1 s1 hi;obtain⟨a,b⟩:=h3 _ _ _ hs hi;exact Ve h3 a b h
  ·rw[Abd]at h;unfold Ak2 at h;dsimp only at h;have hlab:∀{k:Int} {r:Bool} {ln nm:List UInt8} {t:RS},t.k≤W.length→some (qc k (atR L W s) r ln nm 0 (.sl [] .none),(Dw L may W t).2)=some (cs,s')→QJ cs∧s'.k≤W.length:=fun ht h=>by
    cases h;exact⟨QJ.mk rfl,N9 ht⟩
   split at h
   ·split at h
    ·exact hlab (t:=⟨s.k+1,s.bad⟩) (Em hs (by assumption)) h
    split at h
    ·exact hlab (t:=⟨s.k+1,s.bad⟩) (Em hs (by assumption)) h
    split at h
    ·rename_i hi;split at h
     ·cases h
     ·rename_i c1 s2 hq;cases h;obtain⟨a,b⟩:=h1 _ _ _ (show(⟨s.k+1,s.bad⟩:RS).k≤W.length from Em hs hi) hq;exact⟨a,Dc b⟩
    split at h
    ·exact h4 _ _ _ hs h
    ·exact hlab hs h
   ·exact hlab hs h
  ·unfold U0 at h;split at h
   ·rename_i hlt;exact Am9 hW h1 _ _ _ _ (Dc (s:=⟨s.k+1,s.bad⟩) hlt) h
   ·cases h
def Al5(W:List Wd)(p:PS→Option (Qy × PS))(q:RS→Option (List D × RS)):Prop:=∀(s:RS) (x:Qy) (s1:PS),s.k≤W.length→p (Gw W s)=some (x,s1)→∃cs s',q s=some (cs,s')∧Gw W s'=s1∧s'.k≤W.length∧(s1.bad=none→cs=Br x)
theorem A6v{p:PS→Option (Qy × PS)}{q:RS→Option (List D × RS)}(hr:Al5 W p q)(hp:Vb p){s:RS}(hs:s.k≤W.length){x:Qy}{s1:PS}(h:p (Gw W s)=some (x,s1)):
  ∃rows s',Ey L W q 1 true s []=some (rows,s')∧Gw W s'=s1∧s'.k≤W.length∧(s1.bad=none→rows= [Br x]):=by
 cases hb:s.bad with
 |some b=>
  have:=hp (Gw W s) b x s1 hb h;refine⟨[],s,?_,this.symm,hs,fun hn=>?_⟩
  ·unfold Ey;rw[hb];rfl
  ·rw[this]at hn;rw[show(Gw W s).bad=s.bad from rfl,hb]at hn;cases hn
 |none=>
  obtain⟨cs,s',h1,h2,h3,h4⟩:=hr s x s1 hs h;refine⟨[cs],s',?_,h2,h3,fun hn=>by rw[h4 hn]⟩
  unfold Ey;rw[hb];simp only[Option.isNone_none,if_true,hb,h1];rfl
theorem Bea(hW:Ng W){p:PS→Option (Qy × PS)}{q:RS→Option (List D × RS)}(hr:Al5 W p q)(hp:Vb p){s:RS}(hs:s.k≤W.length){x y:Qy}{s1 s2:PS}(h:p (Gw W s)=some (x,s1))(h':p (A8 L s1 3 [44])=some (y,s2)):
  ∃rows s',Ey L W q 2 true s []=some (rows,s')∧Gw W s'=s2∧s'.k≤W.length∧(s2.bad=none→rows= [Br x,Br y]):=by
 have hst:∀{b:Nat},s1.bad=some b→s2=s1:=fun {b} hb=>by rw[Adu hb]at h';exact hp s1 b y s2 hb h'
 cases hb:s.bad with
 |some b=>
  have e1:=hp (Gw W s) b x s1 hb h;have e2:=hst (b:=b) (by rw[e1];exact hb)
  refine⟨[],s,?_,by rw[e2,e1],hs,fun hn=>?_⟩
  ·unfold Ey;rw[hb];rfl
  ·rw[e2,e1,show(Gw W s).bad=s.bad from rfl,hb]at hn;cases hn
 |none=>
  obtain⟨cs,t,h1,h2,h3,h4⟩:=hr s x s1 hs h;have hk:Ey L W q 2 true s []=Ey L W q 1 false t [cs]:=by rw[Ey];rw[hb];simp only[Option.isNone_none,if_true,hb,h1];rfl
  rw[hk];unfold Ey;subst h2;have hm:A8 L (Gw W t) 3 [44]=Gw W (Bg L W t [44]):=Gb hW (Vr hW (by decide))
  rw[hm]at h';cases hb2:t.bad with
  |some b=>have e2:=hst (b:=b) hb2;refine⟨[cs],t,rfl,e2.symm,h3,fun hn=>?_⟩;rw[e2,show(Gw W t).bad=t.bad from rfl,hb2]at hn;cases hn
  |none=>
   simp only[Option.isNone_none,if_true,BF];cases hb3:(Bg L W t [44]).bad with
   |some b=>have e2:=hp _ b y s2 hb3 h';refine⟨[cs],Bg L W t [44],rfl,e2.symm,Dc h3,fun hn=>?_⟩;rw[e2,show(Gw W (Bg L W t [44])).bad=(Bg L W t [44]).bad from rfl,hb3]at hn;cases hn
   |none=>obtain⟨c2,s6,q1,q2,q3,q4⟩:=hr _ y s2 (Dc h3) h';simp only[Option.isNone_none,if_true,q1];refine⟨[cs]++ [c2],s6,rfl,q2,q3,fun hn=>?_⟩;have hnb:(Gw W t).bad=none:=hb2;rw[q4 hn,h4 hnb];rfl
end
section
variable{L:Nat}{W:List Wd}{may:List UInt8→Bool}{gr:List UInt8→Int × Bool}
theorem Aul(hW:Ng W){p:PS→Option (Qy × PS)}{q:RS→Option (List D × RS)}(hr:Al5 W p q)(hp:Vb p)(w:Wd)(a:Nat)(ha:a=w.at_)(hwm:Bl.tail.contains w.tx=true){s:RS}(hs:s.k≤W.length){x:Qy}{s1:PS}(h:Q7 L gr p a w.tx (Gw W s)=some (x,s1)):
  ∃cs s',Ab6 L gr W q w s=some (cs,s')∧Gw W s'=A8 L s1 3 [41]∧s'.k≤W.length∧((A8 L s1 3 [41]).bad=none→cs=Br x):=by
 subst ha;have hfin:∀{cs:List D} {t:RS},t.k≤W.length→Gw W t=s1→(s1.bad=none→cs=Br x)→∃cs' s',some (cs,Bg L W t [41])=some (cs',s')∧Gw W s'=A8 L s1 3 [41]∧s'.k≤W.length∧((A8 L s1 3 [41]).bad=none→cs'=Br x):=fun {cs t} ht he hc=>by
  refine⟨cs,_,rfl,?_,Dc ht,fun hn=>hc ?_⟩
  ·rw[← he];exact(Gb hW (Vr hW (by decide))).symm
  ·cases hb:s1.bad with
   |none=>rfl
   |some b=>rw[Adu hb,hb]at hn;cases hn
 have hone:∀{k:Int} {nm:List UInt8} {t:RS} {y:Qy} {s2:PS},t.k≤W.length→p (Gw W t)=some (y,s2)→x= .un k w.at_ nm 0 y→s1=s2→∃cs' s',(match Ey L W q 1 true t []with
   |none=>none
   |some (rows,s1)=>some (qc k w.at_ false [] nm 0 (.sl rows .none),Bg L W s1 [41]))=some (cs',s')∧Gw W s'=A8 L s1 3 [41]∧s'.k≤W.length∧((A8 L s1 3 [41]).bad=none→cs'=Br x):=fun {k nm t y s2} ht hy hx he=>by
  obtain⟨rows,s',h1,h2,h3,h4⟩:=A6v (L:=L) hr hp ht hy;rw[h1];subst he;exact hfin h3 h2 fun hn=>by rw[h4 hn,hx];rfl
 have htwo:∀{k:Int} {y z:Qy} {s2 s3:PS},p (Gw W s)=some (y,s2)→p (A8 L s2 3 [44])=some (z,s3)→x= .bin k w.at_ y z→s1=s3→∃cs' s',(match Ey L W q 2 true s []with
   |none=>none
   |some (rows,s1)=>some (qc k w.at_ false [] [] 0 (.sl rows .none),Bg L W s1 [41]))=some (cs',s')∧Gw W s'=A8 L s1 3 [41]∧s'.k≤W.length∧((A8 L s1 3 [41]).bad=none→cs'=Br x):=fun {k y z s2 s3} hy hz hx he=>by
  obtain⟨rows,s',h1,h2,h3,h4⟩:=Bea (L:=L) hW hr hp hs hy hz;rw[h1];subst he;exact hfin h3 h2 fun hn=>by rw[h4 hn,hx];rfl
 unfold Q7 at h;unfold Ab6;dsimp only;by_cases h1:w.tx=Aj1
 ·rw[if_pos h1]at h;rw[if_pos h1];split at h
  ·cases h
  rename_i y s2 hy;obtain⟨rows,t,k1,k2,k3,k4⟩:=A6v (L:=L) hr hp hs hy;rw[k1];dsimp only;subst k2;rw[Vr hW (by decide)]at h
  by_cases hc:(t.bad.isNone && Pg L W t [44])=true
  ·rw[if_pos hc]at h;rw[if_pos hc];have hbn:t.bad=none:=by
    rw[Bool.and_eq_true]at hc;simpa using hc.1
   have hlt:=Em k3 (by rw[Bool.and_eq_true]at hc;exact hc.2)
   have hm:A8 L (Gw W t) 3 [44]=Gw W ⟨t.k+1,t.bad⟩:=by
    rw[Gb hW (Vr hW (by decide))]
    unfold Bg;rw[if_pos hc]
   rw[hm]at h;cases h;have hnb:M9 L (Gw W ⟨t.k+1,t.bad⟩) 1 (fun t=>(gr t).2)=(((Cn L (W.drop (t.k+1))).k:Int) == 1 && (gr (Cn L (W.drop (t.k+1))).tx).2):=by unfold M9 Gw;dsimp only;rw[hbn];rfl
   unfold Zk Bb;rw[hnb];by_cases hg:(((Cn L (W.drop (t.k+1))).k:Int) == 1 && (gr (Cn L (W.drop (t.k+1))).tx).2)=true
   ·rw[if_pos hg,if_pos hg];have hlt2:t.k+1<W.length:=Er (L:=L) (s:=⟨t.k+1,t.bad⟩) hlt (by
     rw[Bool.and_eq_true,beq_iff_eq]at hg;show(Cn L (W.drop (t.k+1))).k≠4;omega)
    unfold Zk Bb at hfin;rw[hnb,if_pos hg]at hfin;refine hfin (t:=⟨t.k+2,t.bad⟩) hlt2 ?_ fun hn=>?_
    ·rw[Pz];rfl
    ·rw[k4 hbn];rfl
   ·rw[if_neg hg,if_neg hg];unfold Zk Bb at hfin;rw[hnb,if_neg hg]at hfin;refine hfin (t:=Gg L W ⟨t.k+1,t.bad⟩) hlt rfl fun hn=>?_;unfold Hf Gw at hn;dsimp only at hn;rw[hbn]at hn;cases hn
  ·rw[if_neg hc]at h;rw[if_neg hc];cases h;exact hfin k3 rfl fun hn=>by rw[k4 hn];rfl
 rw[if_neg h1]at h;rw[if_neg h1];by_cases h2:w.tx=Abt
 ·rw[if_pos h2]at h;rw[if_pos h2];split at h
  ·cases h
  rename_i y s2 hy;cases h;exact hone hs hy rfl rfl
 rw[if_neg h2]at h;rw[if_neg h2];by_cases h3:w.tx=Afo
 ·rw[if_pos (.inl h3)]at h;rw[if_pos h3];split at h
  ·cases h
  rename_i y s2 hy;split at h
  ·cases h
  rename_i z s3 hz;cases h;refine htwo hy hz ?_ rfl;rw[if_neg];rw[h3];decide
 by_cases h4:w.tx=Zq
 ·rw[if_pos (.inr h4)]at h;rw[if_neg h3,if_pos h4];split at h
  ·cases h
  rename_i y s2 hy;split at h
  ·cases h
  rename_i z s3 hz;cases h;refine htwo hy hz ?_ rfl;rw[if_pos h4]
 rw[if_neg (by rintro(h|h);exact h3 h;exact h4 h)]at h
 rw[if_neg h3,if_neg h4];have hword:∀{k:Int} {K:Int} {m:List UInt8→Bool} {y:Qy} {s2:PS},K≠4→p (A8 L (Bb L (Gw W s) K m).2 3 [44])=some (y,s2)→x= .un k w.at_ (Bb L (Gw W s) K m).1 0 y→s1=s2→∃cs' s',(if(s.bad.isNone && (((Cn L (W.drop s.k)).k:Int) == K && m (Cn L (W.drop s.k)).tx))=true then match Ey L W q 1 true (Bg L W ⟨s.k+1,s.bad⟩ [44]) []with
    |none=>none
    |some (rows,s1)=>some (qc k w.at_ false [] (Cn L (W.drop s.k)).tx 0 (.sl rows .none),Bg L W s1 [41])
   else match Ey L W q 1 true (Bg L W (Gg L W s) [44]) []with
    |none=>none
    |some (rows,s1)=>some (qc k w.at_ false [] [] 0 (.sl rows .none),Bg L W s1 [41]))=some (cs',s')∧Gw W s'=A8 L s1 3 [41]∧s'.k≤W.length∧((A8 L s1 3 [41]).bad=none→cs'=Br x):=fun {k K m y s2} hK hy hx he=>by
  have hnb:M9 L (Gw W s) K m=(s.bad.isNone && (((Cn L (W.drop s.k)).k:Int) == K && m (Cn L (W.drop s.k)).tx)):=rfl;unfold Bb at hy hx;rw[hnb]at hy hx;by_cases hc:(s.bad.isNone && (((Cn L (W.drop s.k)).k:Int) == K && m (Cn L (W.drop s.k)).tx))=true
  ·rw[if_pos hc]at hy hx;rw[if_pos hc];have hlt:s.k<W.length:=Er (L:=L) hs (by
    simp only[Bool.and_eq_true,beq_iff_eq]at hc;have:=hc.2.1;omega)
   dsimp only at hy;rw[Pz,show(Gw W s).bad=s.bad from rfl,Gb hW (Vr hW (by decide))]at hy
   exact hone (Dc (s:=⟨s.k+1,s.bad⟩) hlt) hy hx he
  ·rw[if_neg hc]at hy hx;rw[if_neg hc];dsimp only at hy;rw[← Avl,Gb hW (Vr hW (by decide))]at hy
   exact hone (Dc (s:=Gg L W s) hs) hy hx he
 by_cases h5:w.tx=Ake
 ·rw[if_pos h5]at h;rw[if_pos h5];split at h
  ·cases h
  rename_i y s2 hy;cases h;exact hword (K:=1) (by decide) hy rfl rfl
 rw[if_neg h5]at h;rw[if_neg h5];by_cases h6:w.tx=X5
 ·rw[if_pos h6]at h;rw[if_pos h6];split at h
  ·cases h
  rename_i y s2 hy;cases h;have:=hword (K:=2) (m:=fun _=>true) (by decide) hy rfl rfl
  simp only[Bool.and_true]at this;exact this
 rw[if_neg h6]at h;rw[if_neg h6];cases h;exact hfin hs rfl fun _=>rfl
theorem Af5(hW:Ng W){p:PS→Option (Qy × PS)}{q:RS→Option (List D × RS)}(hr:Al5 W p q)(hp:Vb p):∀{m:Nat} {y:Qy} {cs:List D} {s:RS} {x:Qy} {s1:PS},s.k≤W.length→(s.bad=none→cs=Br y)→Kw L p m y (Gw W s)=some (x,s1)→∃cs' s',Li L W q m cs s=some (cs',s')∧Gw W s'=s1∧s'.k≤W.length∧(s1.bad=none→cs'=Br x)
 |0,y,cs,s,x,s1,hs,hc,h=>by simp[Kw]at h
 |m+1,y,cs,s,x,s1,hs,hc,h=>by
  unfold Kw at h;unfold Li;cases hb:s.bad with
  |some b=>have:Hz L (Gw W s)=0:=Ai4 (L:=L) (s:=Gw W s) hb;rw[if_pos this]at h;cases h;exact⟨cs,s,rfl,rfl,hs,fun hn=>hc hn⟩
  |none=>
   have hsg:Hz L (Gw W s)=Oc L W s:=by
    unfold Hz Oc;rw[Vr hW (by decide),Vr hW (by decide),A38 hW (.inl rfl),hb]
    rfl
   rw[hsg]at h;simp only[Option.isNone_none,if_true];by_cases hz:Oc L W s=0
   ·rw[if_pos hz]at h;rw[if_pos hz];cases h;exact⟨cs,s,rfl,rfl,hs,fun _=>hc hb⟩
   ·rw[if_neg hz]at h;rw[if_neg hz];have hlt:s.k<W.length:=by
     unfold Oc at hz;split at hz
     ·exact Em hs (by assumption)
     ·split at hz
      ·exact Em hs (by assumption)
      ·split at hz
       ·exact Em hs (by assumption)
       ·exact absurd rfl hz
    split at h
    ·cases h
    rename_i z s2 hz2;rw[Pz,show(Gw W s).bad=s.bad from rfl,hb]at hz2;obtain⟨c2,t,q1,q2,q3,q4⟩:=hr ⟨s.k+1,none⟩ z s2 hlt hz2;rw[q1];subst q2;exact Af5 hW hr hp q3 (fun hn=>by rw[q4 hn,hc hb];rfl) h
theorem Apz(hW:Ng W):∀n:Nat,Al5 W (Fe L may gr n) (H5 L may gr W n)∧Al5 W (Uv L may gr n) (Ae3 L may gr W n)∧Al5 W (Jv L may gr n) (Xr L may gr W n)∧(∀(s:RS) (x:Qy) (s1:PS),s.k<W.length→Bl.tail.contains (Cn L (W.drop s.k)).tx=true→Py L may gr n (Gw W s) (Cn L (W.drop s.k)).at_=some (x,s1)→∃cs s',U0 L may gr W n s=some (cs,s')∧Gw W s'=s1∧s'.k≤W.length∧(s1.bad=none→cs=Br x))
 |0=>⟨fun s x s1 _ h=>by simp[Fe]at h,fun s x s1 _ h=>by simp[Uv]at h,fun s x s1 _ h=>by simp[Jv]at h,fun s x s1 _ _ h=>by simp[Py]at h⟩
 |n+1=>by
  obtain⟨h1,h2,h3,h4⟩:=Apz hW n;refine⟨fun s x s1 hs h=>?_,fun s x s1 hs h=>?_,fun s x s1 hs h=>?_,fun s x s1 hlt hcm h=>?_⟩
  ·
   rw[Yt];unfold Fe at h;unfold Abf;dsimp only;rw[A38 hW (.inr (.inr rfl))]at h;by_cases hc:(s.bad.isNone && Pg L W s Ib)=true
   ·rw[if_pos hc]at h;rw[if_pos hc];have hbn:s.bad=none:=by
     rw[Bool.and_eq_true]at hc;simpa using hc.1
    have hlt:=Em hs (by rw[Bool.and_eq_true]at hc;exact hc.2)
    have hm:A8 L (Gw W s) 1 Ib=Gw W ⟨s.k+1,s.bad⟩:=by rw[Gb hW (A38 hW (.inr (.inr rfl)))];unfold Bg;rw[if_pos hc]
    rw[hm,P5]at h;dsimp only at h;have hn1:(Dw L may W ⟨s.k+1,s.bad⟩).2.k≤W.length:=N9 (s:=⟨s.k+1,s.bad⟩) hlt;generalize Dw L may W ⟨s.k+1,s.bad⟩=nm at h hn1 ⊢;rw[Gb hW (Vr hW (by decide))]at h
    have h5:=Dc (L:=L) (t:= [61]) hn1;generalize Bg L W nm.2 [61]=s3 at h h5 ⊢;split at h
    ·cases h
    rename_i y s4 hy;split at h
    ·cases h
    rename_i z s6 hz;cases h;have hfirst:∃r1 t,L6 (H5 L may gr W n) [] s3=some (r1,t)∧Gw W t=s4∧t.k≤W.length∧(s4.bad=none→r1= [Br y]):=by
     unfold L6;cases hb3:s3.bad with
     |some b=>have:=Sq n (Gw W s3) b y s4 hb3 hy;refine⟨[],s3,rfl,this.symm,h5,fun hn=>?_⟩;rw[this,show(Gw W s3).bad=s3.bad from rfl,hb3]at hn;cases hn
     |none=>obtain⟨c1,t,q1,q2,q3,q4⟩:=h1 s3 y s4 h5 hy;exact⟨[c1],t,by rw[q1];rfl,q2,q3,fun hn=>by rw[q4 hn]⟩
    obtain⟨r1,t,f1,f2,f3,f4⟩:=hfirst;rw[f1];dsimp only;subst f2;rw[Gb hW (A38 hW (.inr (.inl rfl)))]at hz;have h6:=Dc (L:=L) (t:=Vx) f3;have hsec:∃r2 u,L6 (H5 L may gr W n) r1 (Bg L W t Vx)=some (r2,u)∧Gw W u=s1∧u.k≤W.length∧(s1.bad=none→r2= [Br y,Br z]):=by
     unfold L6;cases hb3:(Bg L W t Vx).bad with
     |some b=>have:=Sq n _ b z s1 hb3 hz;refine⟨r1,_,rfl,this.symm,h6,fun hn=>?_⟩;rw[this,show(Gw W (Bg L W t Vx)).bad=(Bg L W t Vx).bad from rfl,hb3]at hn;cases hn
     |none=>
      obtain⟨c1,u,q1,q2,q3,q4⟩:=h1 _ z s1 h6 hz;refine⟨r1++ [c1],u,by rw[q1];rfl,q2,q3,fun hn=>?_⟩
      have hbt:t.bad=none:=by
       cases hbt:t.bad with
       |none=>rfl
       |some b=>
        have:(Bg L W t Vx).bad=some b:=by unfold Bg Gg;rw[hbt];rfl
        rw[this]at hb3;cases hb3
      rw[q4 hn,f4 hbt];rfl
    obtain⟨r2,u,g1,g2,g3,g4⟩:=hsec;rw[g1];exact⟨_,_,rfl,g2,g3,fun hn=>by rw[g4 hn];rfl⟩
   ·rw[if_neg hc]at h;rw[if_neg hc];cases hb:s.bad with
    |none=>exact h2 s x s1 hs h
    |some b=>have:=Asi n (Gw W s) b x s1 hb h;refine⟨_,s,rfl,this.symm,hs,fun hn=>?_⟩;rw[this,show(Gw W s).bad=s.bad from rfl,hb]at hn;cases hn
  ·
   unfold Uv at h;unfold Ae3;split at h
   ·cases h
   rename_i y s2 hy;obtain⟨c1,t,q1,q2,q3,q4⟩:=h3 s y s2 hs hy;rw[q1];subst q2;exact Af5 hW h3 (Amk n) q3 q4 h
  ·
   rw[Abd];unfold Jv at h;unfold Ak2;dsimp only;have hat:(Cn L (Gw W s).ws).at_=atR L W s:=rfl;cases hb:s.bad with
   |some b=>
    have hcb:Ij L (Gw W s)=false:=by unfold Ij;rw[show(Gw W s).bad=s.bad from rfl,hb];rfl
    simp only[Xc (s:=Gw W s) hb,hcb,BF]at h;cases h;rw[P5];exact⟨_,_,rfl,rfl,N9 hs,fun _=>rfl⟩
   |none=>
    simp only[Option.isNone_none,if_true];rw[Vr hW (by decide),Vr hW (by decide),Vr hW (by decide),hb]at h
    simp only[Option.isNone_none,Bool.true_and]at h;have hmust:∀(c:UInt8),c≠45→Pg L W s [c]=true→A8 L (Gw W s) 3 [c]=Gw W ⟨s.k+1,none⟩:=fun c hc hi=>by rw[Gb hW (Vr hW hc)];unfold Bg;rw[hb,hi];rfl
    by_cases i1:Pg L W s [58]=true
    ·rw[if_pos i1]at h;rw[if_pos i1];rw[hmust 58 (by decide) i1,P5]at h
     cases h;exact⟨_,_,rfl,rfl,N9 (s:=⟨s.k+1,none⟩) (Em hs i1),fun _=>rfl⟩
    rw[if_neg i1]at h;rw[if_neg i1];by_cases i2:Pg L W s [36]=true
    ·rw[if_pos i2]at h;rw[if_pos i2];rw[hmust 36 (by decide) i2,P5]at h
     cases h;exact⟨_,_,rfl,rfl,N9 (s:=⟨s.k+1,none⟩) (Em hs i2),fun _=>rfl⟩
    rw[if_neg i2]at h;rw[if_neg i2];by_cases i3:Pg L W s [40]=true
    ·rw[if_pos i3]at h;rw[if_pos i3];rw[hmust 40 (by decide) i3]at h
     split at h
     ·cases h
     rename_i y s2 hy;cases h;obtain⟨c1,t,q1,q2,q3,q4⟩:=h1 ⟨s.k+1,none⟩ x s2 (Em hs i3) hy;rw[q1];subst q2;refine⟨c1,_,rfl,(Gb hW (Vr hW (by decide))).symm,Dc q3,fun hn=>q4 ?_⟩
     cases hbt:(Gw W t).bad with
     |none=>rfl
     |some b=>rw[Adu hbt,hbt]at hn;cases hn
    rw[if_neg i3]at h;rw[if_neg i3];have hcb:Ij L (Gw W s)=(((Cn L (W.drop s.k)).k:Int) == 1 && Bl.tail.contains (Cn L (W.drop s.k)).tx):=by unfold Ij;rw[show(Gw W s).bad=s.bad from rfl,hb];rfl
    rw[hcb]at h;by_cases i4:(((Cn L (W.drop s.k)).k:Int) == 1 && Bl.tail.contains (Cn L (W.drop s.k)).tx)=true
    ·rw[if_pos i4]at h;rw[if_pos i4];rw[Bool.and_eq_true,beq_iff_eq]at i4;exact h4 s x s1 (Er (L:=L) hs (by have:=i4.1;omega)) i4.2 h
    ·rw[if_neg i4]at h;rw[if_neg i4];rw[P5]at h;cases h;exact⟨_,_,rfl,rfl,N9 hs,fun _=>rfl⟩
  ·
   unfold Py at h;unfold U0;rw[if_pos hlt];split at h
   ·cases h
   rename_i y s2 hy;cases h;rw[Pz,Gb hW (Vr hW (by decide))]at hy
   exact Aul hW h1 (Sq n) _ _ rfl hcm (Dc (s:=⟨s.k+1,s.bad⟩) hlt) hy
end
theorem Yp{P:Program}{t:TypeId}{a b:List UInt8}(h:a.length+b.length<2000000):(Av.bin .add t (.str a) (.str b)).sem P=some (.str (a++b)):=by simp only[Av.sem,Bo,Af1];rw[if_pos (by omega)]
def Ig(b:UInt8):Bool:=De b && !(b == 47)
theorem Agj(b:UInt8):Ig b=true↔((97:Int)≤(b.toNat:Int)∧(b.toNat:Int)≤122)∨((65:Int)≤(b.toNat:Int)∧(b.toNat:Int)≤90)∨((48:Int)≤(b.toNat:Int)∧(b.toNat:Int)≤57)∨(b.toNat:Int)=46∨(b.toNat:Int)=95∨(b.toNat:Int)=45:=by unfold Ig;rw[Bool.and_eq_true,Ag9,Bool.not_eq_true',beq_eq_false_iff_ne,ne_eq,← UInt8.toNat_inj];simp only[UInt8.toNat_ofNat];omega
theorem Zr(b:UInt8):(Ig b || b == 47)=De b:=by
 unfold Ig;cases h:b == 47 with
 |false=>simp
 |true=>rw[beq_iff_eq]at h;rw[h];rfl
def Al4(n:Nat):Bool:=if decide (48≤n) && decide (n≤57)then Gv Ic (UInt8.ofNat n) == (n:Int) - 48 else if decide (97≤n) && decide (n≤102)then Gv Ic (UInt8.ofNat n) == (n:Int) - 87 else Gv Ic (UInt8.ofNat n) == -1
theorem Azx:(List.range 256).all Al4=true:=by kernel_rfl
theorem Ba2(b:UInt8):Al4 b.toNat=true:=by have:=List.all_eq_true.1 Azx b.toNat (List.mem_range.2 b.toNat_lt);exact this
section
variable{cf:Ah}{N:Nat}(hK:∀f,Ba (cf f))
include hK in
theorem A2i(b:UInt8):Ao (run C1 cf N) 115 [.int .u8 (b.toNat:Int)] (.bool (Ig b)):=by
 refine Cg hK func115 bdy rfl rfl rfl (Bda _) ?_;simp only[Aa,Ac,Lx,Afx,En,Ab,decide_eq_true_eq,beq_iff_eq];have key:∀{x:Bool},(x=true↔Ig b=true)→Ck (.bool (Ig b)) [.bool x]:=fun {x} h=>Qk (by rw[Bool.eq_iff_iff.2 h])
 have hn:=Agj b
 repeat' split
 all_goals (refine key ?_;rw[hn];simp only[beq_iff_eq,true_iff];try omega)
include hK in
theorem A4o(b:UInt8):Ao (run C1 cf N) 178 [.int .u8 (b.toNat:Int)] (.int .i64 (Gv Ic b)):=by
 refine Cg hK func178 bdy rfl rfl rfl (Bdx _) ?_;have hb:=b.toNat_lt;have hx:=Ba2 b;unfold Al4 at hx;rw[UInt8.ofNat_toNat]at hx;have hcv:∀n:Int,0≤n→n<256→(Av.conv 5 3 (.int .u8 n)).sem prog=some (.int .i64 n):=fun n h1 h2=>by simp only[Av.sem,Dr,Afl,show prog.underlying 5=some (.int .u8)from underlying5,Et];rw[Go.IntWalk.i64_in _ (by omega)]
 simp only[Aa,Ac,Lx,Afx,Ack];have t1:∀{n:Int},Gv Ic b=n→Ck (.int .i64 (Gv Ic b)) [.int .i64 n]:=fun {n} h=>by rw[h];exact Bf rfl
 by_cases h1:(48:Int)≤(b.toNat:Int)∧(b.toNat:Int)≤57
 ·rw[if_pos (by simp;omega)]at hx
  simp only[h1.1,h1.2,decide_true,if_true];rw[Go.IntWalk.u8_in _ (by omega)]
  simp only[hcv _ (show 0≤(b.toNat:Int) - 48 by omega) (by omega),Ab]
  exact t1 (by simpa using hx)
 ·rw[if_neg (by simp;omega)]at hx
  have hno:¬ ((97:Int)≤(b.toNat:Int)∧(b.toNat:Int)≤102)→Gv Ic b= -1:=fun h=>by
   rw[if_neg (by simp;omega)]at hx
   simpa using hx
  have hyes:(97:Int)≤(b.toNat:Int)∧(b.toNat:Int)≤102→Gv Ic b=(b.toNat:Int) - 87:=fun h=>by
   rw[if_pos (by simp;omega)]at hx
   simpa using hx
  have hrest:wp prog cf N (fun rs os=>Ck (.int .i64 (Gv Ic b)) rs) (.ite (.bool (decide ((97:Int)≤(b.toNat:Int)))) (.bind (.bin .leq 5 (.int .u8 (b.toNat:Int)) (.int .u8 102)) fun x4=> .ite x4 (.bind (.bin .sub 5 (.int .u8 (b.toNat:Int)) (.int .u8 97)) fun x5=> .bind (.conv 5 3 x5) fun x6=> .bind (.bin .add 3 x6 (.int .i64 10)) fun x7=> .leaf [x7] []) (.leaf [(.int .i64 (-1))] [])) (.leaf [(.int .i64 (-1))] [])) []:=by
   simp only[Aa,Ac,Afx,Ack,Ab];by_cases h2:(97:Int)≤(b.toNat:Int)
   ·simp only[h2,decide_true,if_true];by_cases h3:(b.toNat:Int)≤102
    ·simp only[h3,decide_true,if_true];rw[Go.IntWalk.u8_in _ (by omega)]
     simp only[hcv _ (show 0≤(b.toNat:Int) - 97 by omega) (by omega),Bt]
     rw[Go.IntWalk.i64_in _ (by omega)]
     exact t1 (by rw[hyes ⟨h2,h3⟩];omega)
    ·simp only[h3,decide_false,BF];exact t1 (hno (by omega))
   ·simp only[h2,decide_false,BF];exact t1 (hno (by omega))
  simp only[Aa,Ac,Afx,Ack]at hrest;by_cases h2:(48:Int)≤(b.toNat:Int)
  ·have h3:¬ (b.toNat:Int)≤57:=fun h=>h1 ⟨h2,h⟩;simp only[h2,h3,decide_true,decide_false,Bool.false_eq_true,if_true,if_false];simpa only[decide_eq_true_eq]using hrest
  ·simp only[h2,decide_false,BF];simpa only[decide_eq_true_eq]using hrest
theorem F5{s:List UInt8}{i:Nat}{b:UInt8}(h:s[i]?=some b):s.drop i=b::s.drop (i+1):=by obtain⟨hi,he⟩:=List.getElem?_eq_some_iff.mp h;rw[List.drop_eq_getElem_cons hi,he]
def txR(R:Option (List UInt8 × Nat)):D:=match R with
 |some (t,e)=> .tup [.str t,.int .i64 (e:Int),.bool true]
 |none=> .tup [.str [],.int .i64 0,.bool false]
theorem Axq{a b c:D}(ha:R3 a=true)(hb:R3 b=true)(hc:R3 c=true):Ck (.tup [a,b,c]) [a,b,c]:=by
 refine⟨?_,[a,b,c],?_,rfl⟩
 ·cases a<;>first|(cases ha;done)|(cases b<;>first|(cases hb;done)|(cases c<;>first|rfl|cases hc))
 ·cases a<;>first|(cases ha;done)|(cases b<;>first|(cases hb;done)|(cases c<;>first|rfl|cases hc))
def TrI(s:List UInt8)(R:Option (List UInt8 × Nat))(m a:Nat)(ds:List D):Prop:=a=0∧∃(i:Nat) (acc:List UInt8) (x y z:D),i≤s.length∧s.length - i<m∧acc.length≤i∧(Dv m (s.drop i)).map (fun p=>(acc++p.1,i+p.2))=R∧ds= [x,y,z,.str acc,.int .i64 (i:Int)]
variable(h178:∀b:UInt8,Ao cf 178 [.int .u8 (b.toNat:Int)] (.int .i64 (Gv Ic b)))
include hK h178 in
theorem A23(s:List UInt8)(at_:Nat)(ha:at_≤s.length)(hs:s.length<900)(hN:1000<N):
  Ao (run C1 cf N) 116 [.str s,.int .i64 (at_:Int)] (txR ((Dv (s.length - at_+1) (s.drop at_)).map fun p=>(p.1,at_+p.2))):=by
 refine Cg hK func116 bdy rfl rfl rfl (Bdb _ _) ?_;generalize hR:(Dv (s.length - at_+1) (s.drop at_)).map (fun p=>(p.1,at_+p.2))=R;refine wp_loop (TrI s R) (s.length - at_+1) (by omega) ⟨rfl,at_,[],_,_,_,ha,by omega,Nat.zero_le _,by simpa using hR,rfl⟩ ?_
 rintro m a ds ⟨rfl,i,acc,x,y,z,hi,hm,hacc,ht,rfl⟩;cases m with
 |zero=>omega
 |succ m=>
 have hbad:R=none→Ck (txR R) [.str [],.int .i64 0,.bool false]:=fun h=>by rw[h];exact Axq rfl rfl rfl
 simp only[Ca,hv,tails,List.tail_cons,List.headD_cons,Aa,Fa,Da,Vz,Ac];by_cases hlt:i<s.length
 ·obtain⟨c,hb⟩:∃c,s[i]?=some c:=⟨_,List.getElem?_eq_getElem hlt⟩;have hd:s.drop i=c::s.drop (i+1):=by
   rw[Kb hlt];congr 1;have:=List.getElem?_eq_getElem hlt;rw[hb]at this;simpa using this.symm
  rw[hd]at ht;have e34:((c.toNat:Int) == 34)=(c == 34):=Be c 34;have e92:((c.toNat:Int) == 92)=(c == 92):=Be c 92;have hw1:IntKind.i64.wrap ((i:Int)+1)=((i+1:Nat):Int):=wrapN (by omega)
  simp only[hlt,decide_true,if_true,D5 hb,En,e34,Aa,Ac];cases h34:c == 34 with
  |true=>simp only[if_true,Bt,hw1,Ab];rw[← ht];simp only[Dv,h34,if_true,Option.map_some,txR,List.append_nil];exact Axq rfl rfl rfl
  |false=>
  simp only[BF];have hj:∀LQ':List D→List (List D)→Prop,LQ' [.bool (decide ((c.toNat:Int)<32) || decide (126<(c.toNat:Int)))] []→wp prog cf N LQ' (.bind (.bin .lss 5 (.int .u8 (c.toNat:Int)) (.int .u8 32)) fun x7=> .ite x7 (.leaf [(.bool true)] []) (.bind (.bin .gtr 5 (.int .u8 (c.toNat:Int)) (.int .u8 126)) fun x8=> .leaf [x8] [])) []:=fun LQ' h=>by
   simp only[Aa,Ac,Da,Jt,Ab];cases h32:decide ((c.toNat:Int)<32)with
   |true=>rw[h32]at h;simpa using h
   |false=>rw[h32]at h;simpa using h
  refine Nc hj ?_;simp only[Ac];cases h92:c == 92 with
  |false=>
   cases hc:(decide ((c.toNat:Int)<32) || decide (126<(c.toNat:Int)))with
   |true=>simp only[if_true,Ab];refine hbad ?_;rw[← ht];simp only[Dv,h34,h92,hc,BF,if_true,Option.map_none]
   |false=>
    simp only[BF,Aa,Nn,Ac];rw[show((c.toNat:Int) !=92)=true from by rw[bne,e92,h92];rfl]
    have hsl:(s.take (i+1)).drop i= [c]:=by rw[List.drop_take,Nat.add_sub_cancel_left,hd];rfl
    simp only[if_true,Bt,hw1,O0 (show i≤i+1 by omega) (show i+1≤s.length by omega),hsl]
    rw[Yp (by simp only[List.length_cons,List.length_nil];omega)]
    simp only[Az];refine⟨m,Nat.lt_succ_self m,rfl,i+1,acc++ [c],x,y,z,hlt,by omega,by simp;omega,?_,rfl⟩
    rw[← ht];simp only[Dv,h34,h92,hc,BF,Option.map_map];congr 1
    ·funext p;simp;omega
  |true=>
   have hc:(decide ((c.toNat:Int)<32) || decide (126<(c.toNat:Int)))=false:=by rw[beq_iff_eq]at h92;rw[h92];rfl
   rw[hc];simp only[BF,Aa,Nn,Ac];rw[show((c.toNat:Int) !=92)=false from by rw[bne,e92,h92];rfl]
   have htl:∀{o:Option (List UInt8 × Nat)},(match Ht (s.drop (i+1))with
     |none=>none
     |some (d,k)=>(Dv m ((s.drop (i+1)).drop k)).map fun p=>(d::p.1,1+k+p.2))=o→o.map (fun p=>(acc++p.1,i+p.2))=R:=fun {o} ho=>by
    rw[← ht,← ho];simp only[Dv,h34,h92,BF,if_true];rfl
   have hnone:Ht (s.drop (i+1))=none→R=none:=fun he=>by
    have:=htl (o:=none) (by rw[he])
    simpa using this.symm
   have hsome:∀{d:UInt8} {k:Nat},Ht (s.drop (i+1))=some (d,k)→(Dv m (s.drop (i+1+k))).map (fun p=>((acc++ [d])++p.1,(i+1+k)+p.2))=R:=fun {d k} he=>by
    have:=htl (o:=(Dv m ((s.drop (i+1)).drop k)).map fun p=>(d::p.1,1+k+p.2)) (by rw[he])
    rw[← this,List.drop_drop,Option.map_map];congr 1
    ·funext p;simp;omega
   simp only[BF,Aa,Ac,Fa,Bt,hw1,Lx];by_cases hl1:i+1<s.length
   ·obtain⟨d,hbd⟩:∃d,s[i+1]?=some d:=⟨_,List.getElem?_eq_getElem hl1⟩;have hd1:s.drop (i+1)=d::s.drop (i+1+1):=by
     rw[Kb hl1];congr 1;have:=List.getElem?_eq_getElem hl1;rw[hbd]at this;simpa using this.symm
    have g1:decide ((s.length:Int)≤((i+1:Nat):Int))=false:=decide_eq_false (by omega)
    have e110:((d.toNat:Int) == 110)=(d == 110):=Be d 110;have e116:((d.toNat:Int) == 116)=(d == 116):=Be d 116;have e92':((d.toNat:Int) == 92)=(d == 92):=Be d 92;have e34':((d.toNat:Int) == 34)=(d == 34):=Be d 34;have e120:((d.toNat:Int) == 120)=(d == 120):=Be d 120;have hw2:IntKind.i64.wrap (((i+1:Nat):Int)+1)=((i+1+1:Nat):Int):=wrapN (by omega)
    have hsl:(s.take (i+1+1)).drop (i+1)= [d]:=by rw[List.drop_take,Nat.add_sub_cancel_left,hd1];rfl
    have hal:acc.length<1000:=by omega
    have hgo:∀(b:UInt8) (k:Nat) (T:Tree),Ht (s.drop (i+1))=some (b,k)→T= .again 0 0 [x,y,z,.str (acc++ [b]),.int .i64 ((i+1+k:Nat):Int)]→wp prog cf N (fun rs os=>Ck (txR R) rs) T (List.take 0 ([]:List (Nat→List D→Prop))++ [fun a' ds'=>∃n',n'<m+1∧TrI s R n' a' ds']):=fun b k T he hT=>by have hkk:=Adr he;rw[List.length_drop]at hkk;rw[hT,Az];exact⟨m,Nat.lt_succ_self m,rfl,i+1+k,acc++ [b],x,y,z,by omega,by omega,by simp;omega,hsome he,rfl⟩
    simp only[g1,BF,D5 hbd,En,e110,Aa,Ac];have he0:=hd1;cases h110:d == 110 with
    |true=>
     simp only[if_true,Yp (show acc.length+ [10].length<2000000 by simp;omega),Bt,hw2]
     exact hgo 10 1 _ (by rw[hd1];simp only[Ht,h110,if_true]) rfl
    |false=>
    simp only[BF,e116];cases h116:d == 116 with
    |true=>
     simp only[if_true,Yp (show acc.length+ [9].length<2000000 by simp;omega),hw2,Bt]
     exact hgo 9 1 _ (by rw[hd1];simp only[Ht,h110,h116,Bool.false_eq_true,if_true,if_false]) rfl
    |false=>
    simp only[BF,e92'];cases h92':d == 92 with
    |true=>
     simp only[if_true,Bt,hw2,O0 (show i+1≤i+1+1 by omega) (show i+1+1≤s.length by omega),hsl,Yp (show acc.length+ [d].length<2000000 by simp;omega)]
     exact hgo d 1 _ (by rw[hd1];simp only[Ht,h110,h116,h92',Bool.false_eq_true,if_true,if_false]) rfl
    |false=>
    simp only[BF,e34'];cases h34':d == 34 with
    |true=>
     simp only[if_true,Bt,hw2,O0 (show i+1≤i+1+1 by omega) (show i+1+1≤s.length by omega),hsl,Yp (show acc.length+ [d].length<2000000 by simp;omega)]
     exact hgo d 1 _ (by rw[hd1];simp only[Ht,h110,h116,h92',h34',Bool.false_eq_true,if_true,if_false]) rfl
    |false=>
    simp only[BF,e120];cases h120:d == 120 with
    |false=>simp only[BF,Ab];refine hbad (hnone ?_);rw[hd1];simp only[Ht,h110,h116,h92',h34',h120,BF]
    |true=>
     have hw3:IntKind.i64.wrap (((i+1:Nat):Int)+2)=((i+1+2:Nat):Int):=by
      rw[Go.IntWalk.i64_in _ (by omega)]
      omega
     simp only[if_true,Bt,hw3];by_cases hl3:i+1+2<s.length
     ·obtain⟨p,hp⟩:∃p,s[i+1+1]?=some p:=⟨_,List.getElem?_eq_getElem (by omega)⟩
      obtain⟨q,hq⟩:∃q,s[i+1+2]?=some q:=⟨_,List.getElem?_eq_getElem hl3⟩;have hd2:s.drop (i+1)=d::p::q::s.drop (i+1+2+1):=by rw[hd1,F5 hp,show i+1+1+1=i+1+2 from rfl,F5 hq]
      have hesc:Ht (s.drop (i+1))=if Ic.contains p && Ic.contains q then some (UInt8.ofNat (16*Ih p+Ih q),3)else none:=by rw[hd2];simp only[Ht,h110,h116,h92',h34',h120,Bool.false_eq_true,if_true,if_false]
      have g3:decide ((s.length:Int)≤((i+1+2:Nat):Int))=false:=decide_eq_false (by omega)
      simp only[Fa,Lx,Ac,g3,BF,Aa,Bt,hw2,D5 hp];refine Aw rfl (h178 p) ?_;have hneg:∀b:UInt8,decide (Gv Ic b<0)=!Ic.contains b:=fun b=>by
       rw[← O8];by_cases h:Gv Ic b<0
       ·simp[h]
       ·have:0≤Gv Ic b:=by omega
        simp[this]
      simp only[Aa,Da,hneg,Ac];cases hcp:Ic.contains p with
      |false=>simp only[Bool.not_false,if_true,Ab];exact hbad (hnone (by rw[hesc,hcp];rfl))
      |true=>
       simp only[Bool.not_true,BF,Bt,hw3,D5 hq];refine Aw rfl (h178 q) ?_;simp only[Aa,Da,hneg,Ac];cases hcq:Ic.contains q with
       |false=>simp only[Bool.not_false,if_true,Ab];exact hbad (hnone (by rw[hesc,hcp,hcq];rfl))
       |true=>
        have la:=Aa1 p;have lb:=Aa1 q;simp only[Bool.not_true,BF,Bt,hw2,hw3,D5 hp,D5 hq];refine Aw rfl (h178 p) ?_;simp only[Aa,Av1,Uj hcp];refine Aw rfl (h178 q) ?_;simp only[Aa,Bt,Uj hcq];rw[Go.IntWalk.i64_in ((Ih p:Int)*16) (by omega),Go.IntWalk.i64_in ((Ih p:Int)*16+(Ih q:Int)) (by omega)]
        have hcv:(Av.conv 3 5 (.int .i64 ((Ih p:Int)*16+(Ih q:Int)))).sem prog=some (.int .u8 ((UInt8.ofNat (16*Ih p+Ih q)).toNat:Int)):=by
         simp only[Av.sem,Dr,Afl,show prog.underlying 5=some (.int .u8)from underlying5,Et];rw[Go.IntWalk.u8_in _ (by omega)]
         have:(UInt8.ofNat (16*Ih p+Ih q)).toNat=16*Ih p+Ih q:=by rw[UInt8.toNat_ofNat'];omega
         rw[this];simp only[Option.some.injEq,D.int.injEq,true_and];omega
        rw[hcv];have hcv2:=Akb [UInt8.ofNat (16*Ih p+Ih q)] .exact;simp only[bR,MC]at hcv2;simp only[show ∀n:Int,(Av.slim (.int .u8 n)).sem prog=some (.int .u8 n)from fun _=>rfl,A9,Al,if_true,hcv2];rw[Yp (by simp only[List.length_cons,List.length_nil];omega)]
        have hw4:IntKind.i64.wrap (((i+1+2:Nat):Int)+1)=((i+1+3:Nat):Int):=by
         rw[Go.IntWalk.i64_in _ (by omega)]
         omega
        simp only[hw3,hw4];exact hgo _ 3 _ (by rw[hesc,hcp,hcq];rfl) rfl
     ·have g3:decide ((s.length:Int)≤((i+1+2:Nat):Int))=true:=decide_eq_true (by omega)
      simp only[Fa,Lx,Aa,Ac,g3,if_true,Ab];refine hbad (hnone ?_);have hle:(s.drop (i+1+1)).length≤1:=by rw[List.length_drop];omega
      rw[hd1]
      match hsd:s.drop (i+1+1),hle with
      | [],_=>simp only[Ht,h110,h116,h92',h34',h120,Bool.false_eq_true,if_true,if_false]
      | [a],_=>simp only[Ht,h110,h116,h92',h34',h120,Bool.false_eq_true,if_true,if_false]
      |a::b::_,hle=>simp at hle
   ·have g1:decide ((s.length:Int)≤((i+1:Nat):Int))=true:=decide_eq_true (by omega)
    simp only[g1,if_true,Ab];refine hbad (hnone ?_);rw[List.drop_eq_nil_of_le (by omega)]
    rfl
 ·simp only[hlt,decide_false,BF,Ab];refine hbad ?_;have:i=s.length:=by omega
  subst this;rw[← ht];simp[Dv]
end
theorem Af8:∀(n n':Nat) (s:List UInt8) (i:Nat),s.length - i<n→s.length - i<n'→M6 n s i=M6 n' s i
 |0,_,_,_,h,_=>absurd h (Nat.not_lt_zero _)
 |_+1,0,_,_,_,h=>absurd h (Nat.not_lt_zero _)
 |n+1,n'+1,s,i,h,h'=>by
  unfold M6;by_cases hlt:i<s.length
  ·simp only[hlt,if_true];cases hw:Fq s i with
   |none=>rfl
   |some p=>obtain⟨w,e⟩:=p;have:=(Mq hlt hw).1;simp only;rw[Af8 n n' s (e+Db false (s.drop e)) (by omega) (by omega)]
  ·simp only[hlt,if_false]
def K6(s:List UInt8)(i:Nat):Except Nat (List Wd):=M6 (s.length+1) s (i+Db false (s.drop i))
theorem Aw9(s:List UInt8):Y8 s=K6 s 0:=by simp[Y8,K6]
theorem Auv(s:List UInt8):K6 s s.length= .ok []:=by simp[K6,M6,Db]
theorem Aei{s:List UInt8}{i:Nat}{b:UInt8}(h:s[i]?=some b)(hb:Iw b=true):K6 s i=K6 s (i+1):=by unfold K6;rw[F5 h];simp only[Db,hb,if_true];rw[show i+(1+Db false (s.drop (i+1)))=i+1+Db false (s.drop (i+1))from by omega]
theorem Ak8{s:List UInt8}{i k:Nat}{b:UInt8}(h:s[i]?=some b)(hb:(b == 35)=true)(hk:i+Db true (s.drop i)=k+Db false (s.drop k)):K6 s i=K6 s k:=by have h35:b=35:=beq_iff_eq.1 hb;subst h35;unfold K6;rw[← hk,F5 h];rfl
def Atd(i:Nat)(o:Option (Wd × Nat))(f:Nat→Except Nat (List Wd)):Except Nat (List Wd):=match o with
 |none=> .error i
 |some (w,e)=>Nk [w] (f e)
theorem Asr{s:List UInt8}{i:Nat}{b:UInt8}(h:s[i]?=some b)(hb:Iw b=false)(h35:(b == 35)=false):K6 s i=Atd i (Fq s i) (K6 s):=by
 have hlt:i<s.length:=(List.getElem?_eq_some_iff.1 h).1;have hz:Db false (s.drop i)=0:=by rw[F5 h];simp only[Db,hb,h35,BF]
 unfold K6;rw[hz,show i+0=i from rfl];rw[M6];simp only[hlt,if_true,Atd];cases hw:Fq s i with
 |none=>rfl
 |some p=>
  obtain⟨w,e⟩:=p;have:=(Mq hlt hw).1;simp only;rw[Af8 s.length (s.length+1) s (e+Db false (s.drop e)) (by omega) (by omega)]
  rfl
theorem Am2(acc:List Wd)(w:Wd)(o:Except Nat (List Wd)):Nk acc (Nk [w] o)=Nk (acc++ [w]) o:=by
 cases o with
 |error j=>rfl
 |ok l=>simp[Nk]
theorem Arv(o:Except Nat (List Wd)):Nk [] o=o:=by cases o<;>rfl
theorem Abu(s:List UInt8):s.drop s.length= []:=by simp
section
variable{cf:Ah}{N:Nat}{LQ:List D→List (List D)→Prop}{F:Nat→List D→Prop}
theorem Alj(s:List UInt8)(i:Nat)(hi:i≤s.length)(hs:s.length<900)(hN:1000<N){R1 R2:List (D × D)}(hR1:∀p∈R1,p.1=p.2)(hR2:∀p∈R2,p.1=p.2)(K:D→Tree)
  (hk:∀(k:Nat) (G:Nat→List D→Prop),i≤k→k≤s.length→(k=s.length∨s[k]?=some 10)→i+Db true (s.drop i)=k+Db false (s.drop k)→wp prog cf N LQ (K (.int .i64 (k:Int))) [F,G]):
  wp prog cf N LQ (.loop 1 0 [.int .i64 (i:Int)] (Ca [fun x7=>
   .joi (
    .bind (.ln 9 (.str s)) fun x8=>
    .bind (.bin .lss 3 (hv x7 0) x8) fun x9=>
    .ite x9 (
     .bind (.idx 9 (.str s) (hv x7 0)) fun x10=>
     .bind (.bin .neq 5 x10 (.int .u8 10)) fun x11=>
     .leaf [x11] []) (
     .leaf [(.bool false)] [])) fun x8=>
    .ite x8 (
    .bind (.bin .add 3 (hv x7 0) (.int .i64 1)) fun x9=>
    .req R1 (
    .again 1 0 [x9])) (
    .req R2 (K (hv x7 0)))])) [F]:=by
 refine wp_loop (fun m a ds=>a=0∧∃k:Nat,ds= [.int .i64 (k:Int)]∧i≤k∧k≤s.length∧k+Db true (s.drop k)=i+Db true (s.drop i)∧m=s.length - k) (s.length - i) (by omega) ⟨rfl,i,rfl,Nat.le_refl _,hi,rfl,rfl⟩ ?_
 rintro m a ds ⟨rfl,k,rfl,hik,hk2,htk,rfl⟩;simp only[Ca,hv,tails,List.headD_cons];by_cases hlk:k<s.length
 ·obtain⟨c,hc⟩:∃c,s[k]?=some c:=⟨_,List.getElem?_eq_getElem hlk⟩;refine Nc (d:= .bool (!(c == 10))) (fun LQ' h=>?_) ?_
  ·simp only[Aa,Fa,Da,Vz,Ac,hlk,decide_true,if_true,D5 hc,Nn,Ab];rw[show((c.toNat:Int) !=10)=!(c == 10)from by rw[bne,show((c.toNat:Int) == 10)=(c == 10)from Be c 10]]
   exact h
  ·simp only[Ac];cases h10:c == 10 with
   |false=>
    simp only[Bool.not_false,if_true,Aa,Bt,wrapN (show k<1000000 by omega),Bc,Az]
    refine⟨hR1,_,?_,rfl,k+1,rfl,by omega,hlk,?_,rfl⟩
    ·omega
    ·rw[← htk,F5 hc];simp only[Db,h10,BF];omega
   |true=>simp only[Bool.not_true,BF,Bc];have hc10:c=10:=beq_iff_eq.1 h10;subst hc10;refine⟨hR2,hk k _ hik hk2 (.inr hc) ?_⟩;rw[← htk,F5 hc];rfl
 ·have hke:k=s.length:=by omega
  subst hke;refine Nc (d:= .bool false) (fun LQ' h=>?_) ?_
  ·simp only[Aa,Fa,Da,Vz,Ac,hlk,decide_false,BF,Ab];exact h
  ·simp only[Ac,BF,Bc];refine⟨hR2,hk _ _ hik hk2 (.inl rfl) ?_⟩;rw[← htk,Abu];rfl
variable(h115:∀b:UInt8,Ao cf 115 [.int .u8 (b.toNat:Int)] (.bool (Ig b)))
include h115 in
theorem Xz(s:List UInt8)(i:Nat)(hi:i≤s.length)(hs:s.length<900)(hN:1000<N){R1 R2:List (D × D)}(hR1:∀p∈R1,p.1=p.2)(hR2:∀p∈R2,p.1=p.2)(K:D→Tree)
  (hk:∀(G:Nat→List D→Prop),wp prog cf N LQ (K (.int .i64 ((i+D7 (s.drop i):Nat):Int))) [F,G]):
  wp prog cf N LQ (.loop 1 0 [.int .i64 (i:Int)] (Ca [fun x8=>
    .bind (.ln 9 (.str s)) fun x9=>
    .bind (.bin .lss 3 (hv x8 0) x9) fun x10=>
    .ite x10 (
     .bind (.idx 9 (.str s) (hv x8 0)) fun x11=>
     .call 115 [] [x11] [] fun x12=>
     .ite x12 (
     .bind (.bin .add 3 (hv x8 0) (.int .i64 1)) fun x13=>
     .req R1 (
     .again 1 0 [x13])) (
     .bind (.idx 9 (.str s) (hv x8 0)) fun x13=>
     .bind (.bin .eql 5 x13 (.int .u8 47)) fun x14=>
     .ite x14 (
      .bind (.bin .add 3 (hv x8 0) (.int .i64 1)) fun x15=>
      .req R2 (
      .again 1 0 [x15])) (
      K (hv x8 0)))) (
     K (hv x8 0))])) [F]:=by
 refine wp_loop (fun m a ds=>a=0∧∃k:Nat,ds= [.int .i64 (k:Int)]∧i≤k∧k≤s.length∧k+D7 (s.drop k)=i+D7 (s.drop i)∧m=s.length - k) (s.length - i) (by omega) ⟨rfl,i,rfl,Nat.le_refl _,hi,rfl,rfl⟩ ?_
 rintro m a ds ⟨rfl,k,rfl,hik,hk2,htk,rfl⟩;simp only[Ca,hv,tails,List.headD_cons,Aa,Fa,Da,Vz,Ac];by_cases hlk:k<s.length
 ·obtain⟨c,hc⟩:∃c,s[k]?=some c:=⟨_,List.getElem?_eq_getElem hlk⟩;simp only[hlk,decide_true,if_true,D5 hc];refine Aw rfl (h115 c) ?_;have hgo:De c=true→∀R:List (D × D),(∀p∈R,p.1=p.2)→wp prog cf N LQ (.req R (.again 1 0 [.int .i64 ((k+1:Nat):Int)])) (List.take 1 [F]++ [fun a' ds'=>∃n',n'<s.length - k∧a'=0∧∃k:Nat,ds'= [.int .i64 (k:Int)]∧i≤k∧k≤s.length∧k+D7 (s.drop k)=i+D7 (s.drop i)∧n'=s.length - k]):=fun hl R hR=>by
   simp only[Bc,Az];refine⟨hR,_,?_,rfl,k+1,rfl,by omega,hlk,?_,rfl⟩
   ·omega
   ·rw[← htk,F5 hc];simp only[D7,hl,if_true];omega
  simp only[Ac];have hsl:=Zr c;cases hsg:Ig c with
  |true=>
   simp only[if_true,Aa,Bt,wrapN (show k<1000000 by omega)]
   exact hgo (by rw[← hsl,hsg];rfl) R1 hR1
  |false=>
   simp only[BF,Aa,D5 hc,En,Ac];rw[show((c.toNat:Int) == 47)=(c == 47)from Be c 47];rw[hsg,Bool.false_or]at hsl;cases h47:c == 47 with
   |true=>
    simp only[if_true,Bt,wrapN (show k<1000000 by omega)]
    exact hgo (by rw[← hsl,h47]) R2 hR2
   |false=>
    simp only[BF];have hkk:k=i+D7 (s.drop i):=by rw[← htk,F5 hc];simp only[D7,← hsl,h47,BF,Nat.add_zero]
    have h2:∀G,wp prog cf N LQ (K (.int .i64 (k:Int))) [F,G]:=fun G=>by
     have:=hk G
     rwa [← hkk]at this
    exact h2 _
 ·have hke:k=s.length:=by omega
  subst hke;simp only[hlk,decide_false,BF];have hkk:s.length=i+D7 (s.drop i):=by rw[← htk,Abu];rfl
  have h2:∀G,wp prog cf N LQ (K (.int .i64 (s.length:Int))) [F,G]:=fun G=>by
   have:=hk G
   rwa [← hkk]at this
  exact h2 _
theorem Ala(b:UInt8):∀LQ':List D→List (List D)→Prop,LQ' [.bool (Iw b)] []→wp prog cf N LQ' (.bind (.bin .eql 5 (.int .u8 (b.toNat:Int)) (.int .u8 32)) fun x5=>
   .ite x5 (
   .leaf [(.bool true)] []) (
   .bind (.bin .eql 5 (.int .u8 (b.toNat:Int)) (.int .u8 9)) fun x6=>
   .ite x6 (
    .leaf [(.bool true)] []) (
    .bind (.bin .eql 5 (.int .u8 (b.toNat:Int)) (.int .u8 10)) fun x7=>
    .ite x7 (
    .leaf [(.bool true)] []) (
    .bind (.bin .eql 5 (.int .u8 (b.toNat:Int)) (.int .u8 13)) fun x8=>
    .leaf [x8] [])))) []:=fun LQ' h=>by
 have e1:((b.toNat:Int) == 32)=(b == 32):=Be b 32;have e2:((b.toNat:Int) == 9)=(b == 9):=Be b 9;have e3:((b.toNat:Int) == 10)=(b == 10):=Be b 10;have e4:((b.toNat:Int) == 13)=(b == 13):=Be b 13;simp only[Aa,Ac,En,e1,e2,e3,e4,Ab];unfold Iw at h;generalize(b == 32)=c1 at h ⊢;generalize(b == 9)=c2 at h ⊢;generalize(b == 10)=c3 at h ⊢;generalize(b == 13)=c4 at h ⊢;cases c1<;>cases c2<;>cases c3<;>exact h
theorem Alf(b:UInt8):∀LQ':List D→List (List D)→Prop,LQ' [.bool (O5.contains b)] []→wp prog cf N LQ' (.bind (.bin .eql 5 (.int .u8 (b.toNat:Int)) (.int .u8 123)) fun x0=> .ite x0 (.leaf [(.bool true)] []) (.bind (.bin .eql 5 (.int .u8 (b.toNat:Int)) (.int .u8 125)) fun x1=> .ite x1 (.leaf [(.bool true)] []) (.bind (.bin .eql 5 (.int .u8 (b.toNat:Int)) (.int .u8 44)) fun x2=> .ite x2 (.leaf [(.bool true)] []) (.bind (.bin .eql 5 (.int .u8 (b.toNat:Int)) (.int .u8 59)) fun x3=> .ite x3 (.leaf [(.bool true)] []) (.bind (.bin .eql 5 (.int .u8 (b.toNat:Int)) (.int .u8 61)) fun x4=> .ite x4 (.leaf [(.bool true)] []) (.bind (.bin .eql 5 (.int .u8 (b.toNat:Int)) (.int .u8 40)) fun x5=> .ite x5 (.leaf [(.bool true)] []) (.bind (.bin .eql 5 (.int .u8 (b.toNat:Int)) (.int .u8 41)) fun x6=> .ite x6 (.leaf [(.bool true)] []) (.bind (.bin .eql 5 (.int .u8 (b.toNat:Int)) (.int .u8 43)) fun x7=> .ite x7 (.leaf [(.bool true)] []) (.bind (.bin .eql 5 (.int .u8 (b.toNat:Int)) (.int .u8 94)) fun x8=> .ite x8 (.leaf [(.bool true)] []) (.bind (.bin .eql 5 (.int .u8 (b.toNat:Int)) (.int .u8 58)) fun x9=> .ite x9 (.leaf [(.bool true)] []) (.bind (.bin .eql 5 (.int .u8 (b.toNat:Int)) (.int .u8 36)) fun x10=> .leaf [x10] []))))))))))) []:=fun LQ' h=>by
 have e0:((b.toNat:Int) == 123)=(b == 123):=Be b 123;have e1:((b.toNat:Int) == 125)=(b == 125):=Be b 125;have e2:((b.toNat:Int) == 44)=(b == 44):=Be b 44;have e3:((b.toNat:Int) == 59)=(b == 59):=Be b 59;have e4:((b.toNat:Int) == 61)=(b == 61):=Be b 61;have e5:((b.toNat:Int) == 40)=(b == 40):=Be b 40;have e6:((b.toNat:Int) == 41)=(b == 41):=Be b 41;have e7:((b.toNat:Int) == 43)=(b == 43):=Be b 43;have e8:((b.toNat:Int) == 94)=(b == 94):=Be b 94;have e9:((b.toNat:Int) == 58)=(b == 58):=Be b 58;have e10:((b.toNat:Int) == 36)=(b == 36):=Be b 36;simp only[Aa,Ac,En,e0,e1,e2,e3,e4,e5,e6,e7,e8,e9,e10,Ab];simp only[O5,List.contains_cons,List.contains_nil,Bool.or_false]at h;generalize(b == 123)=c0 at h ⊢;generalize(b == 125)=c1 at h ⊢;generalize(b == 44)=c2 at h ⊢;generalize(b == 59)=c3 at h ⊢;generalize(b == 61)=c4 at h ⊢;generalize(b == 40)=c5 at h ⊢;generalize(b == 41)=c6 at h ⊢;generalize(b == 43)=c7 at h ⊢;generalize(b == 94)=c8 at h ⊢;generalize(b == 58)=c9 at h ⊢;generalize(b == 36)=c10 at h ⊢;cases c0
 rotate_left
 ·exact h
 simp only[Bool.false_or,BF]at h ⊢;cases c1
 rotate_left
 ·exact h
 simp only[Bool.false_or,BF]at h ⊢;cases c2
 rotate_left
 ·exact h
 simp only[Bool.false_or,BF]at h ⊢;cases c3
 rotate_left
 ·exact h
 simp only[Bool.false_or,BF]at h ⊢;cases c4
 rotate_left
 ·exact h
 simp only[Bool.false_or,BF]at h ⊢;cases c5
 rotate_left
 ·exact h
 simp only[Bool.false_or,BF]at h ⊢;cases c6
 rotate_left
 ·exact h
 simp only[Bool.false_or,BF]at h ⊢;cases c7
 rotate_left
 ·exact h
 simp only[Bool.false_or,BF]at h ⊢;cases c8
 rotate_left
 ·exact h
 simp only[Bool.false_or,BF]at h ⊢;cases c9
 rotate_left
 ·exact h
 simp only[Bool.false_or,BF]at h ⊢;exact h
def Bb6(s:List UInt8)(R:Except Nat (List Wd))(m a:Nat)(ds:List D):Prop:=∃(i:Nat) (acc:List Wd) (x:D),i≤s.length∧s.length - i<m∧acc.length≤i∧Nk acc (K6 s i)=R∧((a=0∧acc= []∧ds= [x,.int .i64 (i:Int)])∨(a=1∧acc≠ []∧∃g gr,ds= [x,.sl (acc.map Ci) gr,g,.int .i64 (i:Int)]))
variable(hK:∀f,Ba (cf f))
 (h116:∀(s:List UInt8) (i:Nat),i≤s.length→s.length<900→Ao cf 116 [.str s,.int .i64 (i:Int)] (txR ((Dv (s.length - i+1) (s.drop i)).map fun p=>(p.1,i+p.2))))
include hK h115 h116 in
theorem A72(s:List UInt8)(hs:s.length<900)(hN:1000<N):Ao (run C1 cf N) 61 [.str s] (Uy s.length (Y8 s)):=by
 refine Cg hK func61 bdy rfl rfl rfl (Bhl _) ?_;rw[Aw9];generalize hR:K6 s 0=R;simp only[Bc];refine⟨by simp,?_⟩
 refine wp_loop (Bb6 s R) (s.length+1) (by omega) ⟨0,[],.nilsl,Nat.zero_le _,by omega,Nat.zero_le _,by rw[Arv,hR],.inl ⟨rfl,rfl,rfl⟩⟩ ?_
 rintro m a ds ⟨i,acc,x,hi,hm,hacc,ht,hds⟩;cases m with
 |zero=>omega
 |succ m=>
 by_cases hlt:i<s.length
 ·obtain⟨b,hb⟩:∃b,s[i]?=some b:=⟨_,List.getElem?_eq_getElem hlt⟩;have hw1:IntKind.i64.wrap ((i:Int)+1)=((i+1:Nat):Int):=wrapN (by omega)
  have e35:((b.toNat:Int) == 35)=(b == 35):=Be b 35;have e34:((b.toNat:Int) == 34)=(b == 34):=Be b 34;have e47:((b.toNat:Int) == 47)=(b == 47):=Be b 47;have hsl1:(s.take (i+1)).drop i= [b]:=by
   rw[Uf (by rw[List.length_drop];omega),F5 hb]
   rfl
  have hlle:=Aaz (s.drop i);rw[List.length_drop]at hlle;have hword:Iw b=false→(b == 35)=false→Nk acc (Atd i (Fq s i) (K6 s))=R:=fun h1 h2=>by rw[← ht,Asr hb h1 h2]
  have hnone:Iw b=false→(b == 35)=false→Fq s i=none→R= .error i:=fun h1 h2 h3=>by rw[← hword h1 h2,h3];rfl
  have hsome:∀{w:Wd} {e:Nat},Iw b=false→(b == 35)=false→Fq s i=some (w,e)→Nk (acc++ [w]) (K6 s e)=R:=fun {w e} h1 h2 h3=>by rw[← hword h1 h2,h3];exact(Am2 _ _ _).symm
  have hlet:D7 (s.drop i)≠0→Fq s i=some (⟨1,i,(s.take (i+D7 (s.drop i))).drop i⟩,i+D7 (s.drop i)):=fun h=>by unfold Fq;rw[if_pos h,Uf (by rw[List.length_drop];exact hlle)]
  have hpos:De b=true→D7 (s.drop i)≠0:=fun h=>by rw[F5 hb];simp only[D7,h,if_true];omega
  have hnlet:De b=false→D7 (s.drop i)=0:=fun h=>by rw[F5 hb];simp only[D7,h,BF]
  have htext:De b=false→(b == 34)=true→Fq s i=((Dv (s.length - (i+1)+1) (s.drop (i+1))).map fun p=>(p.1,(i+1)+p.2)).map fun p=>(⟨2,i,p.1⟩,p.2):=fun h1 h2=>by
   unfold Fq;rw[if_neg (by rw[hnlet h1];simp),hb]
   simp only[h2,if_true,Option.map_map];rfl
  have hsign:De b=false→(b == 34)=false→Fq s i=if O5.contains b then some (⟨3,i,[b]⟩,i+1)else none:=fun h1 h2=>by
   unfold Fq;rw[if_neg (by rw[hnlet h1];simp),hb]
   simp only[h2,BF]
  have hsl:=Zr b;rcases hds with⟨rfl,rfl,rfl⟩|⟨rfl,hne,g,gr,rfl⟩
  ·simp only[Ca,hv,tails,List.tail_cons,List.headD_cons,Aa,Fa,Da,Vz,Ac,hlt,decide_true,if_true,D5 hb];have happ:∀(k:Nat) (z:Int) (hz:z=(k:Int)) (q:Nat) (t:List UInt8),(Av.app 59 .nilsl (.sl [[.int .i64 z,.int .i64 (q:Int),.str t]] .exact)).sem prog=some (.sl (([]++ [(⟨k,q,t⟩:Wd)]).map Ci) .none):=fun k z hz q t=>by subst hz;exact X7 ⟨k,q,t⟩
   refine Nc (Ala b) ?_;simp only[Ac];cases hbl:Iw b with
   |true=>simp only[if_true,Aa,Bt,hw1,Bc,Az];exact⟨by simp,m,Nat.lt_succ_self m,i+1,[],x,hlt,by omega,by simp,by rw[← Aei hb hbl];exact ht,.inl ⟨rfl,rfl,rfl⟩⟩
   |false=>
   simp only[BF,Aa,En,e35,Ac];cases h35:b == 35 with
   |true=>
    simp only[if_true,Bc];refine⟨by simp,Alj s i hi hs hN (by simp) (by simp) (fun d=> .again 0 0 [x,d]) fun k G hk1 hk2 hk3 hk4=>?_⟩
    simp only[Az];have hki:i≠k:=by
     rintro rfl;rcases hk3 with h|h
     ·omega
     ·rw[hb]at h;cases h;cases h35
    exact⟨m,Nat.lt_succ_self m,k,[],x,hk2,by omega,by simp,by rw[← Ak8 hb h35 hk4];exact ht,.inl ⟨rfl,rfl,rfl⟩⟩
   |false=>
   simp only[BF];have hlw:De b=true→∀G:Nat→List D→Prop,wp prog cf N (fun rs os=>Ck (Uy s.length R) rs) ((fun d=> .bind (.slc 9 (.str s) (some (.int .i64 (i:Int))) (some d) none) fun x15=> .bind (.cell (.int .i64 (i:Int))) fun x16=> .bind (.cell x15) fun x17=> .bind (.slm x16) fun x18=> .bind (.slm x17) fun x19=> .bind (.app 59 .nilsl (.sl [[(.int .i64 1),x18,x19]] .exact)) fun x20=> .req [((.int .i64 0),(.int .i64 0)),((.int .i64 0),(.int .i64 0)),((.int .i64 0),(.int .i64 0))] (.again 0 1 [x,x20,(.int .i64 0),d]):D→Tree) (.int .i64 ((i+D7 (s.drop i):Nat):Int))) [fun a' ds'=>∃n',n'<m+1∧Bb6 s R n' a' ds',G]:=fun hl G=>by
    have h1:=hpos hl;have hw:=hsome hbl h35 (hlet h1);have happ1:=happ 1 1 rfl i ((s.take (i+D7 (s.drop i))).drop i);simp only[Aa,O0 (show i≤i+D7 (s.drop i) by omega) (show i+D7 (s.drop i)≤s.length by omega),A9,Al,if_true,Jj,Ot,Bc]
    rw[happ1];simp only[Az];exact⟨by simp,m,Nat.lt_succ_self m,i+D7 (s.drop i),[]++ [_],x,by omega,by omega,by simp;omega,hw,.inr ⟨rfl,by simp,_,_,rfl⟩⟩
   refine Aw rfl (h115 b) ?_;simp only[Ac];cases hsg:Ig b with
   |true=>
    simp only[if_true,Bc];have hl:De b=true:=by rw[← hsl,hsg];rfl
    exact⟨by simp,Xz h115 s i hi hs hN (by simp) (by simp) (fun d=> .bind (.slc 9 (.str s) (some (.int .i64 (i:Int))) (some d) none) fun x15=> .bind (.cell (.int .i64 (i:Int))) fun x16=> .bind (.cell x15) fun x17=> .bind (.slm x16) fun x18=> .bind (.slm x17) fun x19=> .bind (.app 59 .nilsl (.sl [[(.int .i64 1),x18,x19]] .exact)) fun x20=> .req [((.int .i64 0),(.int .i64 0)),((.int .i64 0),(.int .i64 0)),((.int .i64 0),(.int .i64 0))] (.again 0 1 [x,x20,(.int .i64 0),d])) (hlw hl)⟩
   |false=>
   rw[hsg,Bool.false_or]at hsl;simp only[BF,Aa,En,e47,Ac];cases h47:b == 47 with
   |true=>
    simp only[if_true,Bc];have hl:De b=true:=by rw[← hsl,h47]
    exact⟨by simp,Xz h115 s i hi hs hN (by simp) (by simp) (fun d=> .bind (.slc 9 (.str s) (some (.int .i64 (i:Int))) (some d) none) fun x15=> .bind (.cell (.int .i64 (i:Int))) fun x16=> .bind (.cell x15) fun x17=> .bind (.slm x16) fun x18=> .bind (.slm x17) fun x19=> .bind (.app 59 .nilsl (.sl [[(.int .i64 1),x18,x19]] .exact)) fun x20=> .req [((.int .i64 0),(.int .i64 0)),((.int .i64 0),(.int .i64 0)),((.int .i64 0),(.int .i64 0))] (.again 0 1 [x,x20,(.int .i64 0),d])) (hlw hl)⟩
   |false=>
   have hl:De b=false:=by rw[← hsl,h47]
   simp only[BF,e34];cases h34:b == 34 with
   |true=>
    simp only[if_true,Bt,hw1];refine Aw rfl (h116 s (i+1) (by omega) hs) ?_
    have hwt:=htext hl h34;generalize hT:(Dv (s.length - (i+1)+1) (s.drop (i+1))).map (fun p=>(p.1,(i+1)+p.2))=T at hwt ⊢;cases T with
    |none=>
     simp only[txR,Aa,Hg,GC,K5,Bool.not_false,Ac,if_true,A9,Al,Ae,Ab];rw[hnone hbl h35 (by rw[hwt];rfl)]
     exact⟨rfl,Pm⟩
    |some p=>
     obtain⟨t,e⟩:=p;have hwd:Fq s i=some (⟨2,i,t⟩,e):=by rw[hwt];rfl
     have hw:=hsome hbl h35 hwd;have hadv:=Mq hlt hwd;have happ1:=happ 2 2 rfl i t;simp only[txR,Aa,Hg,GC,K5,Bool.not_true,BF,Ac,if_true,A9,Al,Jj,Ot,Bc];rw[happ1];simp only[Az];exact⟨by simp,m,Nat.lt_succ_self m,e,[]++ [_],x,hadv.2,by omega,by simp;omega,hw,.inr ⟨rfl,by simp,_,_,rfl⟩⟩
   |false=>
   have hws:=hsign hl h34;simp only[BF];refine Nc (Alf b) ?_;simp only[Ac];cases hsn:O5.contains b with
   |true=>
    have hwd:Fq s i=some (⟨3,i,[b]⟩,i+1):=by rw[hws,hsn];rfl
    have hw:=hsome hbl h35 hwd;have happ1:=happ 3 3 rfl i [b];simp only[if_true,Aa,Bt,hw1,O0 (show i≤i+1 by omega) (show i+1≤s.length by omega),hsl1,A9,Al,Jj,Ot,Bc]
    rw[happ1];simp only[Az];exact⟨by simp,m,Nat.lt_succ_self m,i+1,[]++ [_],x,by omega,by omega,by simp<;>omega,hw,.inr ⟨rfl,by simp,_,_,rfl⟩⟩
   |false=>
    simp only[BF,Aa,A9,Al,if_true,Ae,Ab];rw[hnone hbl h35 (by rw[hws,hsn];rfl)]
    exact⟨rfl,Pm⟩
  ·simp only[Ca,hv,tails,List.tail_cons,List.headD_cons,Aa,Fa,Da,Vz,Ac,hlt,decide_true,if_true,D5 hb];have happ:∀(k:Nat) (z:Int) (hz:z=(k:Int)) (q:Nat) (t:List UInt8),(Av.app1 59 (.sl (acc.map Ci) gr) (.sl [[.int .i64 z,.int .i64 (q:Int),.str t]] .exact)).sem prog=some (.sl ((acc++ [(⟨k,q,t⟩:Wd)]).map Ci) .none):=fun k z hz q t=>by subst hz;exact Aa3 acc ⟨k,q,t⟩ gr hne (by omega)
   refine Nc (Ala b) ?_;simp only[Ac];cases hbl:Iw b with
   |true=>simp only[if_true,Aa,Bt,hw1,Bc,Az];exact⟨by simp,m,Nat.lt_succ_self m,i+1,acc,x,hlt,by omega,by omega,by rw[← Aei hb hbl];exact ht,.inr ⟨rfl,hne,_,_,rfl⟩⟩
   |false=>
   simp only[BF,Aa,En,e35,Ac];cases h35:b == 35 with
   |true=>
    simp only[if_true,Bc];refine⟨by simp,Alj s i hi hs hN (by simp) (by simp) (fun d=> .again 0 1 [x,.sl (acc.map Ci) gr,.int .i64 ((gD g:Nat):Int),d]) fun k G hk1 hk2 hk3 hk4=>?_⟩
    simp only[Az];have hki:i≠k:=by
     rintro rfl;rcases hk3 with h|h
     ·omega
     ·rw[hb]at h;cases h;cases h35
    exact⟨m,Nat.lt_succ_self m,k,acc,x,hk2,by omega,by omega,by rw[← Ak8 hb h35 hk4];exact ht,.inr ⟨rfl,hne,_,_,rfl⟩⟩
   |false=>
   simp only[BF];have hlw:De b=true→∀G:Nat→List D→Prop,wp prog cf N (fun rs os=>Ck (Uy s.length R) rs) ((fun d=> .bind (.slc 9 (.str s) (some (.int .i64 (i:Int))) (some d) none) fun x15=> .bind (.cell (.int .i64 (i:Int))) fun x16=> .bind (.cell x15) fun x17=> .bind (.slm x16) fun x18=> .bind (.slm x17) fun x19=> .req [((.int .i64 (((gD g):Nat):Int)),(.int .i64 (((gD g):Nat):Int)))] (.bind (.app1 59 (.sl (acc.map Ci) gr) (.sl [[(.int .i64 1),x18,x19]] .exact)) fun x20=> .req [((.int .i64 (((gD g+1):Nat):Int)),(.int .i64 (((gD g+1):Nat):Int))),((.int .i64 0),(.int .i64 0)),((.int .i64 0),(.int .i64 0))] (.again 0 1 [x,x20,(.int .i64 (((gD g+1):Nat):Int)),d])):D→Tree) (.int .i64 ((i+D7 (s.drop i):Nat):Int))) [fun a' ds'=>∃n',n'<m+1∧Bb6 s R n' a' ds',G]:=fun hl G=>by
    have h1:=hpos hl;have hw:=hsome hbl h35 (hlet h1);have happ1:=happ 1 1 rfl i ((s.take (i+D7 (s.drop i))).drop i);simp only[Aa,O0 (show i≤i+D7 (s.drop i) by omega) (show i+D7 (s.drop i)≤s.length by omega),A9,Al,if_true,Jj,Ot,Bc]
    refine⟨by simp,?_⟩
    rw[happ1];simp only[Az];exact⟨by simp,m,Nat.lt_succ_self m,i+D7 (s.drop i),acc++ [_],x,by omega,by omega,by simp;omega,hw,.inr ⟨rfl,by simp,_,_,rfl⟩⟩
   refine Aw rfl (h115 b) ?_;simp only[Ac];cases hsg:Ig b with
   |true=>
    simp only[if_true,Bc];have hl:De b=true:=by rw[← hsl,hsg];rfl
    exact⟨by simp,Xz h115 s i hi hs hN (by simp) (by simp) (fun d=> .bind (.slc 9 (.str s) (some (.int .i64 (i:Int))) (some d) none) fun x15=> .bind (.cell (.int .i64 (i:Int))) fun x16=> .bind (.cell x15) fun x17=> .bind (.slm x16) fun x18=> .bind (.slm x17) fun x19=> .req [((.int .i64 (((gD g):Nat):Int)),(.int .i64 (((gD g):Nat):Int)))] (.bind (.app1 59 (.sl (acc.map Ci) gr) (.sl [[(.int .i64 1),x18,x19]] .exact)) fun x20=> .req [((.int .i64 (((gD g+1):Nat):Int)),(.int .i64 (((gD g+1):Nat):Int))),((.int .i64 0),(.int .i64 0)),((.int .i64 0),(.int .i64 0))] (.again 0 1 [x,x20,(.int .i64 (((gD g+1):Nat):Int)),d]))) (hlw hl)⟩
   |false=>
   rw[hsg,Bool.false_or]at hsl;simp only[BF,Aa,En,e47,Ac];cases h47:b == 47 with
   |true=>
    simp only[if_true,Bc];have hl:De b=true:=by rw[← hsl,h47]
    exact⟨by simp,Xz h115 s i hi hs hN (by simp) (by simp) (fun d=> .bind (.slc 9 (.str s) (some (.int .i64 (i:Int))) (some d) none) fun x15=> .bind (.cell (.int .i64 (i:Int))) fun x16=> .bind (.cell x15) fun x17=> .bind (.slm x16) fun x18=> .bind (.slm x17) fun x19=> .req [((.int .i64 (((gD g):Nat):Int)),(.int .i64 (((gD g):Nat):Int)))] (.bind (.app1 59 (.sl (acc.map Ci) gr) (.sl [[(.int .i64 1),x18,x19]] .exact)) fun x20=> .req [((.int .i64 (((gD g+1):Nat):Int)),(.int .i64 (((gD g+1):Nat):Int))),((.int .i64 0),(.int .i64 0)),((.int .i64 0),(.int .i64 0))] (.again 0 1 [x,x20,(.int .i64 (((gD g+1):Nat):Int)),d]))) (hlw hl)⟩
   |false=>
   have hl:De b=false:=by rw[← hsl,h47]
   simp only[BF,e34];cases h34:b == 34 with
   |true=>
    simp only[if_true,Bt,hw1];refine Aw rfl (h116 s (i+1) (by omega) hs) ?_
    have hwt:=htext hl h34;generalize hT:(Dv (s.length - (i+1)+1) (s.drop (i+1))).map (fun p=>(p.1,(i+1)+p.2))=T at hwt ⊢;cases T with
    |none=>
     simp only[txR,Aa,Hg,GC,K5,Bool.not_false,Ac,if_true,A9,Al,Ae,Ab];rw[hnone hbl h35 (by rw[hwt];rfl)]
     exact⟨rfl,Pm⟩
    |some p=>
     obtain⟨t,e⟩:=p;have hwd:Fq s i=some (⟨2,i,t⟩,e):=by rw[hwt];rfl
     have hw:=hsome hbl h35 hwd;have hadv:=Mq hlt hwd;have happ1:=happ 2 2 rfl i t;simp only[txR,Aa,Hg,GC,K5,Bool.not_true,BF,Ac,if_true,A9,Al,Jj,Ot,Bc];refine⟨by simp,?_⟩
     rw[happ1];simp only[Az];exact⟨by simp,m,Nat.lt_succ_self m,e,acc++ [_],x,hadv.2,by omega,by simp;omega,hw,.inr ⟨rfl,by simp,_,_,rfl⟩⟩
   |false=>
   have hws:=hsign hl h34;simp only[BF];refine Nc (Alf b) ?_;simp only[Ac];cases hsn:O5.contains b with
   |true=>
    have hwd:Fq s i=some (⟨3,i,[b]⟩,i+1):=by rw[hws,hsn];rfl
    have hw:=hsome hbl h35 hwd;have happ1:=happ 3 3 rfl i [b];simp only[if_true,Aa,Bt,hw1,O0 (show i≤i+1 by omega) (show i+1≤s.length by omega),hsl1,A9,Al,Jj,Ot,Bc]
    refine⟨by simp,?_⟩
    rw[happ1];simp only[Az];exact⟨by simp,m,Nat.lt_succ_self m,i+1,acc++ [_],x,by omega,by omega,by simp<;>omega,hw,.inr ⟨rfl,by simp,_,_,rfl⟩⟩
   |false=>
    simp only[BF,Aa,A9,Al,if_true,Ae,Ab];rw[hnone hbl h35 (by rw[hws,hsn];rfl)]
    exact⟨rfl,Pm⟩
 ·have hie:i=s.length:=by omega
  subst hie;have hR2:R= .ok acc:=by rw[← ht,Auv];simp[Nk]
  have hend:Dt s.length acc=(acc++ [Nq s.length]).map Ci:=by simp[Dt]
  rcases hds with⟨rfl,rfl,rfl⟩|⟨rfl,hne,g,gr,rfl⟩
  ·simp only[Ca,hv,tails,List.tail_cons,List.headD_cons,Aa,Fa,Da,Vz,Ac,hlt,decide_false,BF,A9,Al,if_true,Jj];have happ:=X7 (Nq s.length);simp only[Ci,Nq]at happ;rw[show(Av.app 59 .nilsl (.sl [[.int .i64 4,.int .i64 (s.length:Int),.str []]] .exact)).sem prog=some (.sl ([Nq s.length].map Ci) .none)from happ];simp only[Ab];rw[hR2];exact Aa0 (g:= .none) rfl
  ·simp only[Ca,hv,tails,List.tail_cons,List.headD_cons,Aa,Fa,Da,Vz,Ac,hlt,decide_false,BF,A9,Al,if_true,Jj,Bc];have happ:=Aa3 acc (Nq s.length) gr hne (by omega)
   simp only[Ci,Nq]at happ;rw[show(Av.app1 59 (.sl (acc.map Ci) gr) (.sl [[.int .i64 4,.int .i64 (s.length:Int),.str []]] .exact)).sem prog=some (.sl ((acc++ [Nq s.length]).map Ci) .none)from happ];simp only[Ab];rw[hR2];refine⟨by simp,Aa0 (g:= .none) ?_⟩
   rw[hend];rfl
end
theorem Bek{P:Program}{t:TypeId}{k:IntKind}{x y:Int}(h:y≠0):(Av.bin .quo t (.int k x) (.int k y)).sem P=some (.int k (k.wrap (x.tdiv y))):=by simp[Av.sem,Bo,Ai,Op.intDiv,pure,h]
theorem Alx(n:Int)(h:0≤n∧n<256):(Av.conv 5 3 (.int .u8 n)).sem prog=some (.int .i64 n):=by simp only[Av.sem,Dr,Afl,show prog.underlying 5=some (.int .u8)from underlying5,Et];rw[Go.IntWalk.i64_in _ (by omega)]
def Mc:List UInt8→Int→Option Int
 | [],n=>some n
 |c::r,n=>if c.toNat<48 then none else if 57<c.toNat then none
  else if((9223372036854775807 - ((c.toNat:Int) - 48)).tdiv 10)<n then none else Mc r (n*10+((c.toNat:Int) - 48))
def Ab3(t:List UInt8)(n b:Int):Bool:=t == [] || (if 1<t.length then(t.head? == some 48 || decide (b<n))else decide (b<n))
def grN(t:List UInt8)(b:Int):Int × Bool:=match Mc t 0 with
 |none=>(0,false)
 |some n=>if Ab3 t n b then(0,false)else(n,true)
section
variable{cf:Ah}{N:Nat}(hK:∀f,Ba (cf f))
include hK in
theorem Az0(t:List UInt8)(b:Int)(ht:t.length≤1000)(hN:1000<N):Ao (run C1 cf N) 261 [.str t,.int .i64 b] (.tup [.int .i64 (grN t b).1,.bool (grN t b).2]):=by
 refine Cg hK func261 bdy rfl rfl rfl (Bdr _ _) ?_;generalize hR:grN t b=R;have hno:Ck (.tup [.int .i64 0,.bool false]) [.int .i64 0,.bool false]:=⟨rfl,_,rfl,rfl⟩;refine wp_loop (fun m a ds=>a=0∧∃(i:Nat) (n:Int) (x y:D),ds= [x,y,.int .i64 n,.int .i64 (i:Int)]∧0≤n∧n≤9223372036854775807∧i≤t.length∧m=t.length - i∧Mc (t.drop i) n=Mc t 0) t.length (by omega)
  ⟨rfl,0,0,_,_,rfl,by omega,by omega,Nat.zero_le _,rfl,by rw[List.drop_zero]⟩ ?_
 rintro m a ds ⟨rfl,i,n,x,y,rfl,hn0,hn1,hi,rfl,hg⟩;simp only[Ca,hv,tails,List.tail_cons,List.headD_cons,Aa,Fa,Da,Vz,Ac];by_cases hlt:i<t.length
 ·obtain⟨c,hc⟩:∃c,t[i]?=some c:=⟨_,List.getElem?_eq_getElem hlt⟩;have hcl:=c.toNat_lt;rw[F5 hc,Mc]at hg;simp only[hlt,decide_true,if_true,D5 hc,Da,Jt,Aa,Ac];have hbad:Mc t 0=none→R=(0,false):=fun h=>by
   rw[← hR];unfold grN;rw[h]
  by_cases h48:c.toNat<48
  ·rw[if_pos h48]at hg;rw[show decide ((c.toNat:Int)<48)=true from decide_eq_true (by omega),hbad hg.symm]
   simp only[if_true,Ab];exact hno
  ·rw[if_neg h48]at hg;rw[show decide ((c.toNat:Int)<48)=false from decide_eq_false (by omega)]
   simp only[BF];by_cases h57:57<c.toNat
   ·rw[if_pos h57]at hg;rw[show decide ((57:Int)<(c.toNat:Int))=true from decide_eq_true (by omega),hbad hg.symm]
    simp only[if_true,Ab];exact hno
   ·rw[if_neg h57]at hg;rw[show decide ((57:Int)<(c.toNat:Int))=false from decide_eq_false (by omega)]
    simp only[BF,Ack];rw[Go.IntWalk.u8_in ((c.toNat:Int) - 48) (by omega),Alx _ (by omega)]
    simp only[Ack];rw[Go.IntWalk.i64_in (9223372036854775807 - ((c.toNat:Int) - 48)) (by omega)]
    rw[Bek (by decide)]
    have hq:(9223372036854775807 - ((c.toNat:Int) - 48)).tdiv 10=(9223372036854775807 - ((c.toNat:Int) - 48)) / 10:=Int.tdiv_eq_ediv_of_nonneg (by omega)
    rw[hq]at hg;rw[hq,Go.IntWalk.i64_in ((9223372036854775807 - ((c.toNat:Int) - 48)) / 10) (by omega)]
    simp only[Jt];by_cases hbig:(9223372036854775807 - ((c.toNat:Int) - 48)) / 10<n
    ·rw[if_pos hbig]at hg;rw[show decide ((9223372036854775807 - ((c.toNat:Int) - 48)) / 10<n)=true from decide_eq_true hbig,hbad hg.symm];simp only[Ac,if_true,Ab];exact hno
    ·rw[if_neg hbig]at hg;rw[show decide ((9223372036854775807 - ((c.toNat:Int) - 48)) / 10<n)=false from decide_eq_false hbig];simp only[BF,Aa,Av1,D5 hc,Ack,Ac];rw[Go.IntWalk.u8_in ((c.toNat:Int) - 48) (by omega),Alx _ (by omega),Go.IntWalk.i64_in (n*10) (by omega)]
     simp only[Bt,wrapN (show i<1000000 by omega)]
     rw[Go.IntWalk.i64_in (n*10+((c.toNat:Int) - 48)) (by omega)]
     simp only[Az];refine⟨_,?_,rfl,i+1,n*10+((c.toNat:Int) - 48),x,y,rfl,by omega,by omega,hlt,rfl,hg⟩
     omega
 ·have hie:i=t.length:=by omega
  subst hie;rw[Abu,Mc]at hg;simp only[hlt,decide_false,BF];have hRR:R=if Ab3 t n b then(0,false)else(n,true):=by rw[← hR];unfold grN;rw[← hg]
  refine Nc (d:= .bool (Ab3 t n b)) (fun LQ' h=>?_) ?_
  ·simp only[Aa,Di,Ac,Fa,Jt,Ab];unfold Ab3 at h;cases he:t == []with
   |true=>rw[he]at h;simpa using h
   |false=>
    rw[he]at h;simp only[Bool.false_or]at h;simp only[BF];rw[show decide ((1:Int)<(t.length:Int))=decide (1<t.length)from Vz 1 t.length];by_cases h1:1<t.length
    ·simp only[h1,if_true,decide_true]at h ⊢;obtain⟨c,hc⟩:∃c,t[0]?=some c:=⟨_,List.getElem?_eq_getElem (by omega)⟩
     have hz:=D5 hc;rw[show((0:Nat):Int)=0 from rfl]at hz;rw[hz];simp only[En,Ac,Jt,Aa,Ab];rw[show((c.toNat:Int) == 48)=(c == 48)from Be c 48];rw[List.head?_eq_getElem?,hc]at h;rw[show(some c == some (48:UInt8))=(c == 48)from rfl]at h;generalize(c == 48)=q at h ⊢;cases q with
     |true=>simpa using h
     |false=>simpa using h
    ·simp only[h1,if_false,decide_false,Bool.false_eq_true]at h ⊢;exact h
  ·simp only[Ac,Ab];rw[hRR];cases Ab3 t n b with
   |true=>simp only[if_true];exact hno
   |false=>simp only[BF];exact⟨rfl,_,rfl,rfl⟩
include hK in
theorem A26(l:List (List UInt8))(g:Gr)(t:List UInt8)(hl:l.length<1000)(hN:1000<N):Ao (run C1 cf N) 222 [.sl (Lf l) g,.str t] (.int .i64 (Ja l t)):=by
 refine Cg hK func222 bdy rfl rfl rfl (Bel _ _) ?_;refine wp_loop (fun m a ds=>a=0∧∃(i:Nat) (x:D),ds= [x,.int .i64 (i:Int)]∧i≤l.length∧m=l.length - i∧∀j,j<i→l[j]?≠some t) l.length (by omega) ⟨rfl,0,_,rfl,Nat.zero_le _,rfl,fun j hj=>absurd hj (Nat.not_lt_zero j)⟩ ?_
 rintro m a ds ⟨rfl,i,x,rfl,hi,rfl,hno⟩;simp only[Ca,hv,tails,List.tail_cons,List.headD_cons,Aa,Ahm,Da,Vz,Ac];by_cases hlt:i<l.length
 ·obtain⟨u,hu⟩:∃u,l[i]?=some u:=⟨_,List.getElem?_eq_getElem hlt⟩;simp only[hlt,decide_true,if_true,Yc hu,Tc,Di,Aa,Ac];cases he:u == t with
  |true=>
   simp only[if_true,Ab];have:Ja l t=(i:Int):=by
    unfold Ja;have h1:l.findIdx? (· == t)=some i:=by
     rw[List.findIdx?_eq_some_iff_getElem];refine⟨hlt,?_,fun j hj=>?_⟩
     ·have:=List.getElem?_eq_getElem hlt;rw[hu]at this;cases this;exact he
     ·have hjl:j<l.length:=by omega
      have:=hno j hj;rw[List.getElem?_eq_getElem hjl]at this;simpa using this
    rw[h1]
   rw[this];exact Bf rfl
  |false=>
   simp only[BF,Bt,wrapN (show i<1000000 by omega),Az]
   refine⟨_,?_,rfl,i+1,x,rfl,hlt,rfl,fun j hj=>?_⟩
   ·omega
   ·rcases Nat.lt_or_ge j i with h|h
    ·exact hno j h
    ·have:j=i:=by omega
     subst this;rw[hu];intro hc;cases hc;simp at he
 ·simp only[hlt,decide_false,BF,Ab];have:Ja l t= -1:=by
   unfold Ja;have h1:l.findIdx? (· == t)=none:=by
    rw[List.findIdx?_eq_none_iff];intro u hu;obtain⟨j,hj⟩:=List.mem_iff_getElem?.1 hu;have hjl:=(List.getElem?_eq_some_iff.1 hj).1;have:=hno j (by omega)
    rw[hj]at this;simpa using this
   rw[h1]
  rw[this];exact Bf rfl
include hK in
theorem A3u:Ao (run C1 cf N) 223 [] (.sl (Lf Bl) .none):=by refine Cg hK func223 bdy rfl rfl rfl Bfi ?_;rw[Ab];exact⟨rfl,_,rfl,rfl⟩
include hK in
theorem A09(t:List UInt8)(may:List UInt8→Bool)(h221:Ao cf 221 [.str t] (.bool (may t)))(h223:Ao cf 223 [] (.sl (Lf Bl) .none))(h222:Ao cf 222 [.sl (Lf Bl) .none,.str t] (.int .i64 (Ja Bl t))):
  Ao (run C1 cf N) 179 [.str t] (.bool (may t && (!(t == [45]) && !Bl.contains t))):=by
 refine Cg hK func179 bdy rfl rfl rfl (Bdp _) ?_;refine Aw rfl h221 ?_;simp only[Ac];cases may t with
 |false=>simp only[BF,Ab,Bool.false_and];exact Bf rfl
 |true=>
  simp only[if_true,Bool.true_and];refine Aw rfl h223 ?_;refine Aw rfl h222 ?_;simp only[Aa,Da,Ac];rw[show decide (Ja Bl t<0)=!Bl.contains t from by
   rw[← Yy];by_cases h:Ja Bl t<0
   ·simp[h]
   ·have:0≤Ja Bl t:=by omega
    simp[this]]
  cases Bl.contains t with
  |true=>simp only[Bool.not_true,BF,Ab,Bool.and_false];exact Bf rfl
  |false=>simp only[Bool.not_false,if_true,Ag7,Ab,Bool.and_true];exact Bf rfl
end
theorem Bd1(x0:D):Hd C1 131 f131 (bd f131) [] [.dyn x0,.lit (.func 230 [] [])] []=
 .call 149 [] [x0,(.func 230 [] [])] [] fun x1=>
 .bind (.bin .geq 3 x1 i0) fun x2=>
 .leaf [x2] []:=by kernel_rfl
def A52:Code:=match f149.body with
 |some c=>c
 |none=> .skip
theorem As6:f149.body=some A52:=by kernel_rfl
theorem Bfu(x0:D):Hd C1 149 f149 A52 [] [.dyn x0,.lit (.func 230 [] [])] []=
 .bind (.ln 41 x0) fun x1=>
 .loop 0 0 [i0,i0] (Ca [fun x2=>
  .bind (.bin .lss 3 (hv x2 1) x1) fun x3=>
  .ite x3 (
  .bind (.ia 41 x0 (hv x2 1)) fun x4=>
  .bind (.ld 9 x4) fun x5=>
  .call 230 [] [x5] [] fun x6=>
  .ite x6 (
   .leaf [(hv x2 1)] []) (
   .bind (.bin .add 3 (hv x2 1) i1) fun x7=>
   .again 0 0 [(hv x2 0),x7])) (
  .leaf [.int .i64 (-1)] [])]):=by kernel_rfl
theorem Beg(x0:D):Hd C1 229 f229 (bd f229) [] [.dyn x0] []=
 .call 255 [] [x0,.str [47]] [] fun x1=>
 .leaf [x1] []:=by kernel_rfl
def Bd:List UInt8→List (List UInt8)
 | []=> [[]]
 |c::r=>if c == 47 then[]::Bd r else match Bd r with
  | []=> [[c]]
  |p::ps=>(c::p)::ps
theorem Gj:∀t:List UInt8,(Bd t).length≤t.length+1∧Bd t≠ []
 | []=>by simp[Bd]
 |c::r=>by
  have h:=Gj r;unfold Bd;split
  ·simp;omega
  ·split
   ·rename_i h0;exact absurd h0 h.2
   ·rename_i p ps h0;rw[h0]at h;simp at h ⊢;omega
theorem Ni:∀(t:List UInt8) (p:List UInt8) (b:UInt8),p∈Bd t→b∈p→b∈t
 | [],p,b,h,hb=>by simp[Bd]at h;subst h;simp at hb
 |c::r,p,b,h,hb=>by
  unfold Bd at h;split at h
  ·rcases List.mem_cons.1 h with rfl|h
   ·simp at hb
   ·exact List.mem_cons_of_mem _ (Ni r p b h hb)
  ·split at h
   ·rename_i h0;exact absurd h0 (Gj r).2
   ·rename_i q qs h0;rcases List.mem_cons.1 h with rfl|h
    ·rcases List.mem_cons.1 hb with rfl|hb
     ·simp
     ·exact List.mem_cons_of_mem _ (Ni r q b (by rw[h0];simp) hb)
    ·exact List.mem_cons_of_mem _ (Ni r p b (by rw[h0];simp[h]) hb)
def At4(p:List UInt8):Bool:=p == [] || (p == [46] || p == [46,46])
def Cz(p:List UInt8):Bool:=At4 p || p.any fun b=>!Ig b
def kwB(t:List UInt8):Bool:=t == [114,117,108,101] || (t == [105,110] || (t == [111,117,116] || t == [97,102,116,101,114]))
def Aan(t:List UInt8):Bool:=!kwB t && (decide (t.length≤40) && !(Bd t).any Cz)
section
variable{cf:Ah}{N:Nat}(hK:∀f,Ba (cf f))
def Aid(l:List (List UInt8))(f:List UInt8→Bool):Int:=match l.findIdx? f with
 |some i=>(i:Int)
 |none=> -1
theorem Atv(l:List (List UInt8))(f:List UInt8→Bool):decide (0≤Aid l f)=l.any f:=by
 unfold Aid;cases h:l.findIdx? f with
 |none=>
  rw[List.findIdx?_eq_none_iff]at h;have:l.any f=false:=by rw[List.any_eq_false];intro x hx;simp[h x hx]
  rw[this];rfl
 |some i=>obtain⟨h1,h2,_⟩:=List.findIdx?_eq_some_iff_getElem.1 h;have:l.any f=true:=List.any_eq_true.2 ⟨_,List.getElem_mem h1,h2⟩;rw[this];simp
include hK in
theorem A1v(l:List (List UInt8))(g:Gr)(hl:l.length<1500)(hN:1500<N)(h230:∀p∈l,Ao cf 230 [.str p] (.bool (Cz p))):Ao (run C1 cf N) 149 [.sl (Lf l) g,.func 230 [] []] (.int .i64 (Aid l Cz)):=by
 refine run_pure (C:=C1) hK func149 As6 rfl rfl rfl (hs:= []) (args:= [.dyn _,.lit _]) rfl ?_;rw[show C1.P=prog from rfl,Bfu];simp only[Aa,Ahm];refine wp_loop (fun m a ds=>a=0∧∃(i:Nat) (x:D),ds= [x,.int .i64 (i:Int)]∧i≤l.length∧m=l.length - i∧∀j,(h:j<l.length)→j<i→Cz l[j]=false) l.length (by omega) ⟨rfl,0,_,rfl,Nat.zero_le _,rfl,fun j _ hj=>absurd hj (Nat.not_lt_zero j)⟩ ?_
 rintro m a ds ⟨rfl,i,x,rfl,hi,rfl,hno⟩;simp only[Ca,hv,tails,List.tail_cons,List.headD_cons,Aa,Da,Vz,Ac];by_cases hlt:i<l.length
 ·have hu:l[i]?=some l[i]:=List.getElem?_eq_getElem hlt;have hmem:l[i]∈l:=List.getElem_mem hlt;have hb1:Cz l[i]=Cz l[i]:=rfl;generalize hg:l[i]=u at hu hmem hb1;simp only[hlt,decide_true,if_true,Yc hu,Tc];refine Aw rfl (h230 u hmem) ?_;simp only[Ac];cases he:Cz u with
  |true=>
   simp only[if_true,Ab];have:Aid l Cz=(i:Int):=by
    unfold Aid;have h1:l.findIdx? Cz=some i:=by
     rw[List.findIdx?_eq_some_iff_getElem];refine⟨hlt,by rw[hg,he],fun j hj=>?_⟩
     rw[hno j (by omega) hj]
     simp
    rw[h1]
   rw[this];exact Bf rfl
  |false=>
   simp only[BF,Bt,wrapN (show i<1000000 by omega),Aa,Az]
   refine⟨_,?_,rfl,i+1,x,rfl,hlt,rfl,fun j hjl hj=>?_⟩
   ·omega
   ·rcases Nat.lt_or_ge j i with h|h
    ·exact hno j hjl h
    ·have:j=i:=by omega
     subst this;rw[hg,he]
 ·simp only[hlt,decide_false,BF,Ab];have:Aid l Cz= -1:=by
   unfold Aid;have h1:l.findIdx? Cz=none:=by rw[List.findIdx?_eq_none_iff];intro u hu;obtain⟨j,hj,rfl⟩:=List.mem_iff_getElem.1 hu;exact hno j hj (by omega)
   rw[h1]
  rw[this];exact Bf rfl
include hK in
theorem Ayu(l:List (List UInt8))(g:Gr)(h149:Ao cf 149 [.sl (Lf l) .none,.func 230 [] []] (.int .i64 (Aid l Cz))):Ao (run C1 cf N) 131 [.sl (Lf l) g,.func 230 [] []] (.bool (l.any Cz)):=by refine run_pure (C:=C1) hK func131 bdy rfl rfl rfl (hs:= []) (args:= [.dyn _,.lit _]) rfl ?_;rw[show C1.P=prog from rfl,Bd1];refine Aw rfl h149 ?_;simp only[Aa,Lx,Atv,Ab];exact Bf rfl
include hK in
theorem Ayy(p:List UInt8)(h265:Ao cf 265 [.str p,.func 266 [] []] (.bool (p.any fun b=>!Ig b))):Ao (run C1 cf N) 230 [.str p] (.bool (Cz p)):=by
 refine Cg hK func230 bdy rfl rfl rfl (Bdo _) ?_;unfold Cz At4;simp only[Aa,Di,Ac];cases h1:p == []with
 |true=>simp only[if_true,Ab,Bool.true_or];exact Bf rfl
 |false=>
 simp only[BF,Bool.false_or];cases h2:p == [46]with
 |true=>simp only[if_true,Ab,Bool.true_or];exact Bf rfl
 |false=>
 simp only[BF,Bool.false_or];cases h3:p == [46,46]with
 |true=>simp only[if_true,Ab,Bool.true_or];exact Bf rfl
 |false=>simp only[BF,Bool.false_or];refine Aw rfl h265 ?_;simp only[Ab];exact Bf rfl
include hK in
theorem Ayk(t:List UInt8)(h255:Ao cf 255 [.str t,.str [47]] (.sl (Lf (Bd t)) .none)):Ao (run C1 cf N) 229 [.str t] (.sl (Lf (Bd t)) .none):=by
 refine Cg hK func229 bdy rfl rfl rfl (Beg _) ?_;refine Aw rfl h255 ?_;simp only[Ab];refine⟨?_,[_],rfl,rfl⟩;simp only[D8];rw[Bool.false_or,Pj];intro i r j d hi hj;simp only[Lf,List.getElem?_map,Option.map_eq_some_iff]at hi;obtain⟨u,_,rfl⟩:=hi
 match j,hj with
 |0,hj=>simp at hj;subst hj;rfl
 |_+1,hj=>simp at hj
include hK in
theorem A4m(t:List UInt8)(h229:Ao cf 229 [.str t] (.sl (Lf (Bd t)) .none))(h131:Ao cf 131 [.sl (Lf (Bd t)) .none,.func 230 [] []] (.bool ((Bd t).any Cz))):Ao (run C1 cf N) 185 [.str t] (.bool (Aan t)):=by
 refine Cg hK func185 bdy rfl rfl rfl (Bdf _) ?_;unfold Aan kwB;simp only[Aa,Di,Ac];cases h1:t == [114,117,108,101]with
 |true=>simp only[if_true,Ab,Bool.true_or,Bool.not_true,Bool.false_and];exact Bf rfl
 |false=>
 simp only[BF,Bool.false_or];cases h2:t == [105,110]with
 |true=>simp only[if_true,Ab,Bool.true_or,Bool.not_true,Bool.false_and];exact Bf rfl
 |false=>
 simp only[BF,Bool.false_or];cases h3:t == [111,117,116]with
 |true=>simp only[if_true,Ab,Bool.true_or,Bool.not_true,Bool.false_and];exact Bf rfl
 |false=>
 simp only[BF,Bool.false_or];cases h4:t == [97,102,116,101,114]with
 |true=>simp only[if_true,Ab,Bool.not_true,Bool.false_and];exact Bf rfl
 |false=>
 simp only[BF,Bool.not_false,Bool.true_and,Fa,Afx,Ac];rw[show decide ((t.length:Int)≤40)=decide (t.length≤40)from by simp only[decide_eq_decide];omega]
 by_cases h5:t.length≤40
 ·simp only[h5,decide_true,if_true,Bool.true_and];refine Aw rfl h229 ?_;refine Aw rfl h131 ?_;simp only[Aa,K5,Ab];exact Bf rfl
 ·simp only[h5,decide_false,BF,Bool.false_and,Ab];exact Bf rfl
end
variable{L:Nat}{may:List UInt8→Bool}{gn:List UInt8→Int × Bool}
theorem Ak0{item:PS→Option (Qy × PS)}(hi:SmG item):∀(m:Nat) (x:Qy) (s:PS) (y:Qy) (s':PS),Sm s→Kw L item m x s=some (y,s')→Sm s'
 |0,x,s,y,s',_,h=>by simp[Kw]at h
 |m+1,x,s,y,s',hS,h=>by
  unfold Kw at h;split at h
  ·cases h;exact hS
  ·split at h
   ·cases h
   ·rename_i z s2 hz;exact Ak0 hi m _ s2 y s' (hi _ _ _ hS.tail hz) h
theorem Arj{q:PS→Option (Qy × PS)}(hq:SmG q)(a:Nat)(w:List UInt8):SmG (Q7 L gn q a w):=by
 intro s x s' hS h;unfold Q7 at h;split at h
 ·split at h
  ·cases h
  ·rename_i y s1 hy;split at h
   ·cases h;exact(Sm.must (hq _ _ _ hS hy)).num
   ·cases h;exact hq _ _ _ hS hy
 split at h
 ·split at h
  ·cases h
  ·rename_i y s1 hy;cases h;exact hq _ _ _ hS hy
 split at h
 ·split at h
  ·cases h
  ·rename_i y s1 hy;split at h
   ·cases h
   ·rename_i z s2 hz;cases h;exact hq _ _ _ (Sm.must (hq _ _ _ hS hy)) hz
 split at h
 ·split at h
  ·cases h
  ·rename_i y s1 hy;cases h;exact hq _ _ _ (Sm.must (Sm.next hS)) hy
 split at h
 ·split at h
  ·cases h
  ·rename_i y s1 hy;cases h;exact hq _ _ _ (Sm.must (Sm.next hS)) hy
 ·cases h;exact hS
theorem Axi:∀n:Nat,SmG (Fe L may gn n)∧SmG (Uv L may gn n)∧SmG (Jv L may gn n)∧∀a,SmG (fun s=>Py L may gn n s a)
 |0=>⟨fun s x s' _ h=>by simp[Fe]at h,fun s x s' _ h=>by simp[Uv]at h,fun s x s' _ h=>by simp[Jv]at h,fun a s x s' _ h=>by simp[Py]at h⟩
 |n+1=>by
  obtain⟨h1,h2,h3,h4⟩:=Axi n;refine⟨fun s x s' hS h=>?_,fun s x s' hS h=>?_,fun s x s' hS h=>?_,fun a s x s' hS h=>?_⟩
  ·unfold Fe at h;split at h
   ·split at h
    ·cases h
    ·rename_i y s4 hy;split at h
     ·cases h
     ·rename_i z s6 hz;cases h;exact h1 _ _ _ (Sm.must (h1 _ _ _ (Sm.must (Sm.next (Sm.must hS))) hy)) hz
   ·exact h2 _ _ _ hS h
  ·unfold Uv at h;split at h
   ·cases h
   ·rename_i y s1 hy;exact Ak0 h3 _ _ _ _ _ (h3 _ _ _ hS hy) h
  ·unfold Jv at h;split at h
   ·cases h;exact Sm.next (Sm.must hS)
   split at h
   ·cases h;exact Sm.next (Sm.must hS)
   split at h
   ·split at h
    ·cases h
    ·rename_i y s2 hy;cases h;exact Sm.must (h1 _ _ _ (Sm.must hS) hy)
   split at h
   ·exact h4 _ _ _ _ hS h
   ·cases h;exact Sm.next hS
  ·simp only[Py]at h;split at h
   ·cases h
   ·rename_i y s1 hy;cases h;exact Sm.must (Arj h1 _ _ _ _ _ (Sm.must hS.tail) hy)
def mu(s:PS):Nat:=match s.bad with
 |some _=>0
 |none=>s.ws.length
theorem Jr(s:PS)(K:Int)(tx:List UInt8):mu (A8 L s K tx)≤mu s:=by
 unfold A8;split
 ·unfold mu;cases s.bad with
  |none=>simp
  |some b=>simp
 ·unfold Hf mu;cases s.bad<;>simp
theorem Ql(s:PS)(K:Int)(m:List UInt8→Bool):mu (Bb L s K m).2≤mu s:=by
 unfold Bb;split
 ·unfold mu;cases s.bad<;>simp
 ·unfold Hf mu;cases s.bad<;>simp
theorem Apa{s:PS}{K:Int}{tx:List UInt8}(hK:K≠4)(h:Ry L s K tx=true):s.bad=none∧∃w ws,s.ws=w::ws:=by
 unfold Ry at h;rw[Bool.and_eq_true]at h;refine⟨by simpa using h.1,?_⟩
 cases hs:s.ws with
 |cons w ws=>exact⟨w,ws,rfl⟩
 |nil=>rw[hs]at h;simp[Cn,Nq]at h;exact absurd h.2.1.symm hK
theorem Axf{s:PS}{K:Int}{tx:List UInt8}(hK:K≠4)(h:Ry L s K tx=true):mu (A8 L s K tx)+1≤mu s:=by obtain⟨h1,w,ws,h2⟩:=Apa hK h;unfold A8;rw[if_pos h];unfold mu;simp[h1,h2]
theorem App{s:PS}(hb:s.bad=none)(h:s.ws≠ []):mu ⟨s.ws.tail,s.bad⟩+1≤mu s:=by
 unfold mu;rw[hb];cases hs:s.ws with
 |nil=>exact absurd hs h
 |cons w ws=>simp
def Df:Qy→Nat
 | .bin _ _ x y=>1+max (Df x) (Df y)
 | .lt _ _ x y=>1+max (Df x) (Df y)
 | .un _ _ _ _ x=>1+Df x
 |_=>1
theorem Xv(x:Qy):1≤Df x:=by cases x<;>simp[Df]<;>omega
def Tot(f:PS→Option (Qy × PS))(s:PS):Prop:=∃x s1,f s=some (x,s1)∧mu s1≤mu s∧Df x+mu s1≤mu s+1
theorem Ata{s:PS}(h:Hz L s≠0):s.bad=none∧s.ws≠ []:=by
 have key:∀{K:Int} {tx:List UInt8},K≠4→Ry L s K tx=true→s.bad=none∧s.ws≠ []:=fun hK hb=>by obtain⟨h1,w,ws,h2⟩:=Apa hK hb;exact⟨h1,by simp[h2]⟩
 unfold Hz at h;split at h
 ·rename_i hb;exact key (by decide) hb
 split at h
 ·rename_i hb;exact key (by decide) hb
 split at h
 ·rename_i hb;exact key (by decide) hb
 ·exact absurd rfl h
theorem Aft{item:PS→Option (Qy × PS)}{M:Nat}(hi:∀s,mu s+1≤M→Tot item s):∀(m:Nat) (x:Qy) (s:PS) (K:Nat),mu s<m→mu s≤M→Df x+mu s≤K→∃y s',Kw L item m x s=some (y,s')∧mu s'≤mu s∧Df y+mu s'≤K
 |0,x,s,K,h,_,_=>absurd h (Nat.not_lt_zero _)
 |m+1,x,s,K,h,hM,hK=>by
  unfold Kw;by_cases hs:Hz L s=0
  ·rw[if_pos hs];exact⟨x,s,rfl,Nat.le_refl _,hK⟩
  ·rw[if_neg hs];obtain⟨h1,h2⟩:=Ata hs;have h3:=App h1 h2;obtain⟨y,s2,h4,h5,h8⟩:=hi ⟨s.ws.tail,s.bad⟩ (by omega)
   rw[h4];have hx:=Xv x;obtain⟨z,s3,h6,h7,h9⟩:=Aft hi m (.bin (Hz L s) (Cn L s.ws).at_ x y) s2 K (by omega) (by omega) (by simp only[Df];omega)
   exact⟨z,s3,h6,by omega,h9⟩
theorem Am3{q:PS→Option (Qy × PS)}{M:Nat}(hq:∀s,mu s≤M→Tot q s)(a:Nat)(w:List UInt8)(s:PS)(hs:mu s≤M):∃x s1,Q7 L gn q a w s=some (x,s1)∧mu s1≤mu s∧Df x+mu s1≤mu s+2:=by
 unfold Q7;split
 ·obtain⟨y,s1,h1,h2,h5⟩:=hq s hs;rw[h1];simp only;split
  ·refine⟨_,_,rfl,?_⟩;have h3:=Jr (L:=L) s1 3 [44];have h4:=Ql (L:=L) (A8 L s1 3 [44]) 1 (fun t=>(gn t).2);unfold Zk;simp only[Df];omega
  ·exact⟨_,_,rfl,h2,by simp only[Df];omega⟩
 split
 ·obtain⟨y,s1,h1,h2,h5⟩:=hq s hs;rw[h1];exact⟨_,_,rfl,h2,by simp only[Df];omega⟩
 split
 ·obtain⟨y,s1,h1,h2,h5⟩:=hq s hs;rw[h1];have h3:=Jr (L:=L) s1 3 [44];obtain⟨z,s2,h4,h6,h7⟩:=hq (A8 L s1 3 [44]) (by omega)
  simp only;rw[h4];exact⟨_,_,rfl,by omega,by simp only[Df];omega⟩
 split
 ·have h3:=Jr (L:=L) (Bb L s 1 Jd).2 3 [44];have h4:=Ql (L:=L) s 1 Jd;obtain⟨y,s1,h1,h2,h5⟩:=hq (A8 L (Bb L s 1 Jd).2 3 [44]) (by omega)
  rw[h1];exact⟨_,_,rfl,by omega,by simp only[Df];omega⟩
 split
 ·have h3:=Jr (L:=L) (Bb L s 2 (fun _=>true)).2 3 [44];have h4:=Ql (L:=L) s 2 (fun _=>true);obtain⟨y,s1,h1,h2,h5⟩:=hq (A8 L (Bb L s 2 (fun _=>true)).2 3 [44]) (by omega)
  rw[h1];exact⟨_,_,rfl,by omega,by simp only[Df];omega⟩
 ·exact⟨_,_,rfl,Nat.le_refl _,by simp only[Df];omega⟩
theorem Aoi:∀n:Nat,(∀s,mu s<1900→4*mu s+4≤n→Tot (Fe L may gn n) s)∧(∀s,mu s<1900→4*mu s+3≤n→Tot (Uv L may gn n) s)∧(∀s,mu s<1900→4*mu s+2≤n→Tot (Jv L may gn n) s)∧(∀(a:Nat) (s:PS),mu s<1900→Ij L s=true→4*mu s+1≤n→Tot (fun s=>Py L may gn n s a) s)
 |0=>⟨fun s _ h=>by omega,fun s _ h=>by omega,fun s _ h=>by omega,fun a s _ _ h=>by omega⟩
 |n+1=>by
  obtain⟨h1,h2,h3,h4⟩:=Aoi n;refine⟨fun s hs hn=>?_,fun s hs hn=>?_,fun s hs hn=>?_,fun a s hs hc hn=>?_⟩
  ·unfold Tot Fe;by_cases hl:Ry L s 1 Ib=true
   ·rw[if_pos hl];have e1:=Axf (by decide) hl
    have e2:=Ql (L:=L) (A8 L s 1 Ib) 1 may;have e3:=Jr (L:=L) (Bb L (A8 L s 1 Ib) 1 may).2 3 [61];obtain⟨x,s4,q1,q2,q5⟩:=h1 (A8 L (Bb L (A8 L s 1 Ib) 1 may).2 3 [61]) (by omega) (by omega)
    rw[q1];have e4:=Jr (L:=L) s4 1 Vx;obtain⟨y,s6,q3,q4,q6⟩:=h1 (A8 L s4 1 Vx) (by omega) (by omega)
    simp only;rw[q3];exact⟨_,_,rfl,by omega,by simp only[Df];omega⟩
   ·rw[if_neg hl];exact h2 s hs (by omega)
  ·unfold Tot Uv;obtain⟨x,s1,q1,q2,q5⟩:=h3 s hs (by omega)
   rw[q1];obtain⟨y,s2,q3,q4,q6⟩:=Aft (L:=L) (M:=mu s) (fun s' h'=>h3 s' (by omega) (by omega)) 1900 x s1 (mu s+1) (by omega) q2 q5
   exact⟨y,s2,q3,by omega,q6⟩
  ·unfold Tot Jv;split
   ·refine⟨_,_,rfl,?_⟩;have e1:=Jr (L:=L) s 3 [58];have e2:=Ql (L:=L) (A8 L s 3 [58]) 1 may;simp only[Df];omega
   split
   ·refine⟨_,_,rfl,?_⟩;have e1:=Jr (L:=L) s 3 [36];have e2:=Ql (L:=L) (A8 L s 3 [36]) 1 may;simp only[Df];omega
   split
   ·rename_i hp;have e1:=Axf (by decide) hp
    obtain⟨x,s2,q1,q2,q3⟩:=h1 (A8 L s 3 [40]) (by omega) (by omega)
    rw[q1];have e2:=Jr (L:=L) s2 3 [41];exact⟨_,_,rfl,by omega,by omega⟩
   split
   ·exact h4 _ s hs (by assumption) (by omega)
   ·have:=Ql (L:=L) s 1 may;exact⟨_,_,rfl,this,by simp only[Df];omega⟩
  ·unfold Tot;simp only[Py];have hb:s.bad=none∧s.ws≠ []:=by
    unfold Ij at hc;rw[Bool.and_eq_true]at hc;refine⟨by simpa using hc.1,fun h0=>?_⟩
    rw[h0]at hc;simp[Cn,Nq]at hc
   have e1:=App hb.1 hb.2;have e2:=Jr (L:=L) ⟨s.ws.tail,s.bad⟩ 3 [40];obtain⟨x,s1,q1,q2,q3⟩:=Am3 (L:=L) (gn:=gn) (M:=mu s - 1) (fun s' h'=>h1 s' (by omega) (by omega)) a (Cn L s.ws).tx (A8 L ⟨s.ws.tail,s.bad⟩ 3 [40]) (by omega)
   rw[q1];have e3:=Jr (L:=L) s1 3 [41];exact⟨_,_,rfl,by omega,by omega⟩
theorem Ajv:∀(r:List UInt8) (b:UInt8),b∈r.take (D7 r)→De b=true
 | [],b,h=>by simp[D7]at h
 |c::r,b,h=>by
  unfold D7 at h;split at h
  ·rename_i hc;rw[show 1+D7 r=D7 r+1 from Nat.add_comm _ _,List.take_succ_cons]at h;rcases List.mem_cons.1 h with rfl|h
   ·exact hc
   ·exact Ajv r b h
  ·simp at h
theorem Axd{s:List UInt8}{i e:Nat}{w:Wd}(hs:s.length<900)(h:Fq s i=some (w,e)):A3f w:=by
 unfold Fq at h;split at h
 ·cases h;refine⟨fun _=>⟨?_,Ajv _⟩,fun h=>by cases h⟩
  simp only[List.length_take,List.length_drop];omega
 ·split at h
  ·cases h
  ·split at h
   ·simp only[Option.map_eq_some_iff,Prod.mk.injEq]at h;obtain⟨⟨t,k⟩,_,rfl,_⟩:=h;exact⟨(fun h=>by cases h),(fun h=>by cases h)⟩
   ·split at h
    ·rename_i c _ _ hc;cases h;exact⟨(fun h=>by cases h),fun _=>⟨c,List.contains_iff_mem.1 hc,rfl⟩⟩
    ·cases h
theorem Aki{s:List UInt8}{i e:Nat}{w:Wd}(hi:i<s.length)(h:Fq s i=some (w,e)):w.tx.length≤s.length:=by
 unfold Fq at h;split at h
 ·cases h;simp only[List.length_take,List.length_drop];omega
 ·split at h
  ·cases h
  ·split at h
   ·simp only[Option.map_eq_some_iff,Prod.mk.injEq]at h;obtain⟨⟨t,k⟩,ht,rfl,_⟩:=h;have:=Ui ht;rw[List.length_drop]at this;show t.length≤s.length;omega
   ·split at h
    ·cases h;simp only[List.length_cons,List.length_nil];omega
    ·cases h
theorem Acz{s:List UInt8}:∀(n i:Nat) (ws:List Wd),M6 n s i= .ok ws→∀w∈ws,w.tx.length≤s.length
 |0,i,ws,h=>by simp[M6]at h
 |n+1,i,ws,h=>by
  unfold M6 at h;split at h
  ·rename_i hlt;cases hw:Fq s i with
   |none=>rw[hw]at h;cases h
   |some p=>
    obtain⟨w,e⟩:=p;rw[hw]at h;simp only at h;cases hr:M6 n s (e+Db false (s.drop e))with
    |error j=>rw[hr]at h;cases h
    |ok l=>
     rw[hr]at h;cases h;intro v hv;rcases List.mem_cons.1 hv with rfl|hv
     ·exact Aki hlt hw
     ·exact Acz n _ l hr v hv
  ·cases h;intro w hw;cases hw
theorem Api{s:List UInt8}(hs:s.length<900):∀(n i:Nat) (ws:List Wd),M6 n s i= .ok ws→ws.length≤s.length - i∧∀w∈ws,A3f w
 |0,i,ws,h=>by simp[M6]at h
 |n+1,i,ws,h=>by
  unfold M6 at h;split at h
  ·rename_i hlt;cases hw:Fq s i with
   |none=>rw[hw]at h;cases h
   |some p=>
    obtain⟨w,e⟩:=p;rw[hw]at h;simp only at h;have hadv:=Mq hlt hw;cases hr:M6 n s (e+Db false (s.drop e))with
    |error j=>rw[hr]at h;cases h
    |ok l=>
     rw[hr]at h;cases h;obtain⟨h1,h2⟩:=Api hs n _ l hr;refine⟨by simp only[List.length_cons];omega,fun v hv=>?_⟩
     rcases List.mem_cons.1 hv with rfl|hv
     ·exact Axd hs hw
     ·exact h2 v hv
  ·cases h;exact⟨Nat.zero_le _,fun w hw=>by cases hw⟩
theorem Awq{s:List UInt8}(hs:s.length<900){ws:List Wd}(h:Y8 s= .ok ws):ws.length≤s.length∧Ng ws:=by obtain⟨h1,h2⟩:=Api hs _ _ _ h;exact⟨by omega,by omega,h2⟩
theorem Ng.sm{W:List Wd}(h:Ng W)(b:Option Nat):Sm ⟨W,b⟩:=fun w hw hk=>(h.2 w hw).1 hk
def L9:Qy→List Qy
 | .bin _ _ x y=> [x,y]
 | .lt _ _ x y=> [x,y]
 | .un _ _ _ _ x=> [x]
 |_=> []
def dmax(l:List Qy):Nat:=l.foldl (fun a y=>max a (Df y)) 0
theorem Ms(x:Qy):Df x=dmax (L9 x)+1:=by cases x<;>simp[Df,L9,dmax]<;>omega
theorem Aff(l:List Qy)(y:Qy):dmax (l++ [y])=max (dmax l) (Df y):=by simp[dmax]
theorem Adv(x:Qy):∃(k:Int) (a:Nat) (r:Bool) (ln nm:List UInt8) (n:Int),Br x=qc k a r ln nm n (.sl ((L9 x).map Br) .none):=by cases x<;>exact⟨_,_,_,_,_,_,rfl⟩
theorem Aco(x:Qy):(L9 x).length≤2:=by cases x<;>simp[L9]
theorem Ad0:∀x:Qy,Df x<1000000→dmax (L9 x)<1000000:=fun x h=>by rw[Ms]at h;omega
theorem Ahj(rows:List (List D))(g:Gr):(Av.ln 27 (.sl rows g)).sem prog=some (.int .i64 (rows.length:Int)):=by simp only[Av.sem,Ny,A6t,Et]
theorem Amw{l:List Qy}{g:Gr}{i:Nat}{y:Qy}(h:l[i]?=some y):(Av.ia 27 (.sl (l.map Br) g) (.int .i64 (i:Int))).sem prog=some (.eptr (Br y)):=by
 have hn:E5 (.int .i64 (i:Int))=some i:=by simp[E5]
 have hr:(l.map Br)[i]?=some (Br y):=by simp[h]
 simp only[Av.sem,Cf,hn,A6t,hr,Wp,Su,if_true,Et]
theorem Anv(x:Qy):(Av.ld 29 (.eptr (Br x))).sem prog=some (.agg (Br x)):=by show Dk prog 29 (Br x) 0=_;have hl:=Su x;unfold Dk;simp[Wp,Bb3,hl,List.take_of_length_le]
theorem Al7{k:Int}{a:Nat}{r:Bool}{ln nm:List UInt8}{n:Int}{g:D}:gc (.agg (qc k a r ln nm n g)) 0= .int .i64 k∧gc (.agg (qc k a r ln nm n g)) 1= .int .i64 (a:Int)∧gc (.agg (qc k a r ln nm n g)) 2= .bool r∧gc (.agg (qc k a r ln nm n g)) 3= .str ln∧gc (.agg (qc k a r ln nm n g)) 4= .str nm∧gc (.agg (qc k a r ln nm n g)) 5= .int .i64 n∧gc (.agg (qc k a r ln nm n g)) 6=g:=⟨rfl,rfl,rfl,rfl,rfl,rfl,rfl⟩
theorem A2a{d e:D}(h:Jf d=some e):Eb Jf [d]=some [e]:=by simp[Eb,h]
section
variable{cf:Ah}{N:Nat}(hK:∀f,Ba (cf f))
include hK in
theorem A8t(x:Qy)(hx:Df x<1000000)(hN:1000<N)(h15:∀y∈L9 x,Ao cf 15 [.agg (Br y)] (.int .i64 (Df y:Int))):Ao (run C1 cf N) 15 [.agg (Br x)] (.int .i64 (Df x:Int)):=by
 refine Cg hK func15 bdy rfl rfl rfl (Bgu _) ?_;have hkl:=Aco x;have hb:=Ad0 x hx;rw[Ms];obtain⟨k,a,r,ln,nm,n,he⟩:=Adv x;simp only[Aa,Hl];rw[he];obtain⟨g0,g1,g2,g3,g4,g5,g6⟩:= @Al7 k a r ln nm n (.sl ((L9 x).map Br) .none);simp only[g0,g1,g2,g3,g4,g5,g6,Ahj,List.length_map,Bc];refine⟨by simp,?_⟩
 generalize L9 x=l at hkl hb h15 ⊢;refine wp_loop (fun m a ds=>a=0∧∃i:Nat,ds= [.int .i64 (dmax (l.take i):Int),.int .i64 (i:Int)]∧i≤l.length∧m=l.length - i) l.length (by omega) ⟨rfl,0,rfl,Nat.zero_le _,rfl⟩ ?_
 rintro m a ds ⟨rfl,i,rfl,hi,rfl⟩;simp only[Ca,hv,tails,List.tail_cons,List.headD_cons,Aa,Da,Vz,Ac];by_cases hlt:i<l.length
 ·obtain⟨y,hy⟩:∃y,l[i]?=some y:=⟨_,List.getElem?_eq_getElem hlt⟩;simp only[hlt,decide_true,if_true,Amw hy,Anv,Hl,Ae,Hm];refine⟨Kq y,?_⟩;refine Aw (A2a (Md y)) (h15 y (List.mem_of_getElem? hy)) ?_;have hsn:dmax (l.take (i+1))=max (dmax (l.take i)) (Df y):=by
   rw[List.take_add_one,hy,Option.toList_some,Aff]
  have hmx:(Av.mx (.int .i64 (dmax (l.take i):Int)) [.int .i64 (Df y:Int)]).sem prog=some (.int .i64 (dmax (l.take (i+1)):Int)):=by rw[Bdz,hsn];congr 2;split<;>omega
  simp only[Aa,hmx,Bt,wrapN (show i<1000000 by omega),Bc,Az]
  refine⟨by simp,_,?_,rfl,i+1,rfl,hlt,rfl⟩
  omega
 ·have hie:i=l.length:=by omega
  subst hie;simp only[hlt,decide_false,BF,List.take_length,Bt,wrapN (show dmax l<1000000 by omega),Ab]
  exact Bf rfl
include hK in
theorem Bcr(x:Qy)(hx:Df x<1000000)(hN:1000<N)(h16:∀y∈L9 x,Ao cf 16 [.agg (Br y)] (.int .i64 (Df y:Int))):Ao (run C1 cf N) 16 [.agg (Br x)] (.int .i64 (Df x:Int)):=by
 refine Cg hK func16 bdy rfl rfl rfl (Bh8 _) ?_;have hkl:=Aco x;have hb:=Ad0 x hx;rw[Ms];obtain⟨k,a,r,ln,nm,n,he⟩:=Adv x;simp only[Aa,Hl];rw[he];obtain⟨g0,g1,g2,g3,g4,g5,g6⟩:= @Al7 k a r ln nm n (.sl ((L9 x).map Br) .none);simp only[g0,g1,g2,g3,g4,g5,g6,Bc];refine⟨by simp,?_⟩
 generalize L9 x=l at hkl hb h16 ⊢;refine wp_loop (fun m a ds=>a=0∧∃i:Nat,ds= [.int .i64 (dmax (l.take i):Int),.int .i64 (i:Int)]∧i≤l.length∧m=l.length - i) l.length (by omega) ⟨rfl,0,rfl,Nat.zero_le _,rfl⟩ ?_
 rintro m a ds ⟨rfl,i,rfl,hi,rfl⟩;simp only[Ca,hv,tails,List.tail_cons,List.headD_cons,Aa,Ahj,List.length_map,Da,Vz,Ac];by_cases hlt:i<l.length
 ·obtain⟨y,hy⟩:∃y,l[i]?=some y:=⟨_,List.getElem?_eq_getElem hlt⟩;simp only[hlt,decide_true,if_true,Amw hy,Anv];refine Aw (A2a (Md y)) (h16 y (List.mem_of_getElem? hy)) ?_;have hsn:dmax (l.take (i+1))=max (dmax (l.take i)) (Df y):=by
   rw[List.take_add_one,hy,Option.toList_some,Aff]
  have hmx:(Av.mx (.int .i64 (dmax (l.take i):Int)) [.int .i64 (Df y:Int)]).sem prog=some (.int .i64 (dmax (l.take (i+1)):Int)):=by rw[Bdz,hsn];congr 2;split<;>omega
  simp only[Aa,hmx,Bt,wrapN (show i<1000000 by omega),Bc,Az]
  refine⟨by simp,_,?_,rfl,i+1,rfl,hlt,rfl⟩
  omega
 ·have hie:i=l.length:=by omega
  subst hie;simp only[hlt,decide_false,BF,List.take_length,Bt,wrapN (show dmax l<1000000 by omega),Ab]
  exact Bf rfl
end
def Apq:List D:=qc 0 0 false [] [] 0 (.sl [] .none)
def Aaw:Except (Int × Int) Qy→D
 | .ok x=> .tup [.agg (Br x),.agg [.int .i64 0,.int .i64 0]]
 | .error (c,a)=> .tup [.agg Apq,.agg [.int .i64 c,.int .i64 a]]
def Ah1(L:Nat)(s:PS):PS:=if s.bad.isNone && ((Cn L s.ws).k !=4)then Hf L s else s
def U1(L:Nat)(x:Qy)(s:PS):Except (Int × Int) Qy:=match(Ah1 L s).bad with
 |some b=> .error (1,(b:Int))
 |none=>if 30<Df x then .error (4,-1)else .ok x
def Qx(may:List UInt8→Bool)(gn:List UInt8→Int × Bool)(s:List UInt8):Except (Int × Int) Qy:=
 if 400<s.length then .error (4,-1)else match Y8 s with
  | .error i=> .error (1,(i:Int))
  | .ok ws=>match Fe s.length may gn (4*ws.length+4) ⟨ws,none⟩with
   |none=> .error (0,0)
   |some (x,s1)=>U1 s.length x s1
theorem Aae(may:List UInt8→Bool)(gn:List UInt8→Int × Bool)(L:Nat){ws:List Wd}(h:ws.length<1000):∃x s1,Fe L may gn (4*ws.length+4) ⟨ws,none⟩=some (x,s1)∧Df x≤1000:=by
 obtain⟨x,s1,h1,_,h3⟩:=(Aoi (L:=L) (may:=may) (gn:=gn) (4*ws.length+4)).1 ⟨ws,none⟩ (by simp[mu];omega) (by simp[mu])
 refine⟨x,s1,h1,?_⟩;have:mu (⟨ws,none⟩:PS)=ws.length:=rfl;omega
theorem A5j(a b:D):gc (.agg [a,b]) 0=a:=rfl
theorem cl2(a b:D):cl (.agg [a,b]) 2= [a,b]:=rfl
theorem R6{c a:Int}:Ck (Aaw (.error (c,a))) [(.agg [(.int .i64 0),(.int .i64 0),(.bool false),(.str []),(.str []),(.int .i64 0),.nilsl]),(.agg [.int .i64 c,.int .i64 a])]:=⟨rfl,_,rfl,rfl⟩
theorem Awc(x:Qy):Ck (Aaw (.ok x)) [.agg (Br x),.agg [.int .i64 0,.int .i64 0]]:=by
 refine⟨?_,[.agg (Br x),.agg [.int .i64 0,.int .i64 0]],?_,rfl⟩
 ·simp[Aaw,D8,F6,K3 x]
 ·simp only[Eb,Md];rfl
section
variable{cf:Ah}{N:Nat}(hK:∀f,Ba (cf f)){may:List UInt8→Bool}{gn:List UInt8→Int × Bool}
include hK in
theorem A9y(s:List UInt8)(h29:s.length≤400→Ao cf 29 [.str s] (Uy s.length (Y8 s)))(h30:s.length≤400→∀n,n<2000→Wv cf 30 [] s.length (Fe s.length may gn n))(h31:∀p:PS,E9 cf 31 [] s.length p (.tup []) (Hf s.length p))
  (h15:∀x:Qy,Df x≤1000→Ao cf 15 [.agg (Br x)] (.int .i64 (Df x:Int))):Ao (run C1 cf N) 12 [.str s] (Aaw (Qx may gn s)):=by
 refine Cg hK func12 bdy rfl rfl rfl (Bge _) ?_;simp only[Aa,Fa,Jt,Ac];unfold Qx;by_cases h4:400<s.length
 ·rw[if_pos h4,show decide ((400:Int)<(s.length:Int))=true from decide_eq_true (by omega)]
  simp only[if_true,Ab];exact R6
 rw[if_neg h4,show decide ((400:Int)<(s.length:Int))=false from decide_eq_false (by omega)]
 have hl:s.length≤400:=by omega
 simp only[BF];refine Aw rfl (h29 hl) ?_;cases hlex:Y8 s with
 |error i=>simp only[Uy,Aa,Hg,GC,M5,List.length_cons,List.length_nil,if_true,A5j,cl2,Ae,Nn,Ac,Ab];refine⟨rfl,?_⟩;rw[if_pos (show((1:Int) !=0)=true from rfl)];exact⟨rfl,R6⟩
 |ok ws=>
  obtain⟨hwl,hW⟩:=Awq (by omega) hlex
  obtain⟨x,s1,hq,hdx⟩:=Aae may gn s.length hW.1;simp only[hq];simp only[Uy,Aa,Hg,GC,M5,List.length_cons,List.length_nil,if_true,A5j,cl2,Ae,Nn,Ac,Ab,O4];refine⟨rfl,?_⟩;rw[if_neg (show ¬ ((0:Int) !=0)=true from by decide)]
  have hm:=h30 hl (4*ws.length+4) (by omega) ⟨ws,none⟩ x s1 (hW.sm none) hq
  refine Ad rfl hm rfl ?_;have hfin:∀p:PS,∀J,U1 s.length x s1=(match p.bad with
    |some b=> .error (1,(b:Int))
    |none=>if 30<Df x then .error (4,-1)else .ok x)→wp prog cf N (fun rs os=>Ck (Aaw (U1 s.length x s1)) rs)
    (.bind (.bin .geq 3 (gd (Vk s.length p) 1) (.int .i64 0)) fun x17=>
    .ite x17 (
     .bind (.cell (gd (Vk s.length p) 1)) fun x18=>
     .chk [x18] (
     .leaf [(.agg [(.int .i64 0),(.int .i64 0),(.bool false),(.str []),(.str []),(.int .i64 0),.nilsl]),(.agg [(.int .i64 1),x18])] [])) (
     .call 15 [] [(.agg (cl (.agg (Br x)) 7))] [] fun x18=>
     .bind (.bin .gtr 3 x18 (.int .i64 30)) fun x19=>
     .ite x19 (
     .leaf [(.agg [(.int .i64 0),(.int .i64 0),(.bool false),(.str []),(.str []),(.int .i64 0),.nilsl]),(.agg [(.int .i64 4),(.int .i64 (-1))])] []) (
     .chk (cl (.agg (Br x)) 7) (
     .leaf [(.agg (cl (.agg (Br x)) 7)),(.agg [(.int .i64 0),(.int .i64 0)])] [])))) J:=fun p J hp=>by
   rw[hp];cases hb:p.bad with
   |some b=>
    simp only[Vk,gd,List.getD_cons_zero,List.getD_cons_succ,hb,Nv,Aa,Lx,Ac,show decide ((0:Int)≤(b:Int))=true from by simp,if_true,A9,Al,Ae,Ab]
    exact⟨rfl,R6⟩
   |none=>
    simp only[Vk,gd,List.getD_cons_zero,List.getD_cons_succ,hb,Nv,Aa,Lx,Ac,show decide ((0:Int)≤(-1:Int))=false from rfl,BF,Hm];refine Aw (A2a (Md x)) (h15 x hdx) ?_;simp only[Aa,Jt,Ac];by_cases hd:30<Df x
    ·rw[if_pos hd,show decide ((30:Int)<(Df x:Int))=true from decide_eq_true (by omega)]
     simp only[if_true,Ab];exact R6
    ·rw[if_neg hd,show decide ((30:Int)<(Df x:Int))=false from decide_eq_false (by omega)]
     simp only[BF,Ae,Ab];exact⟨Kq x,Awc x⟩
  simp only[Aa,Hl,Ae];refine⟨by rw[Hm];exact Kq x,?_⟩
  have hend:∀q:PS,Ah1 s.length s1=q→U1 s.length x s1=(match q.bad with
    |some b=> .error (1,(b:Int))
    |none=>if 30<Df x then .error (4,-1)else .ok x):=fun q hq=>by
   unfold U1;rw[hq]
  cases hb:s1.bad with
  |some b=>
   have hf:=hfin s1 [] (hend s1 (by unfold Ah1;rw[hb];rfl))
   rw[show gd (Vk s.length s1) 1= .int .i64 (b:Int)from by unfold Vk;rw[hb];rfl]at hf ⊢
   simp only[Da,Ac];rw[if_neg (by simp)]
   exact hf
  |none=>
   rw[show gd (Vk s.length s1) 1= .int .i64 (-1)from by unfold Vk;rw[hb];rfl]
   simp only[Da,Ac];rw[if_pos (by decide)]
   simp only[Vk,gd,List.getD_cons_zero,Aa,Ae7,Aok,Z4,Nn,Ac];rw[show((((Cn s.length s1.ws).k:Nat):Int) !=4)=((Cn s.length s1.ws).k !=4)from by rw[bne,bne];congr 1;rw[Bool.eq_iff_iff,beq_iff_eq,beq_iff_eq];omega]
   cases h4k:(Cn s.length s1.ws).k !=4 with
   |true=>simp only[if_true];refine Ad rfl (h31 s1) rfl ?_;exact hfin (Hf s.length s1) [] (hend _ (by unfold Ah1;rw[hb,h4k];rfl))
   |false=>
    simp only[BF];have hf:=hfin s1 [] (hend s1 (by unfold Ah1;rw[hb,h4k];rfl))
    rw[show gd (Vk s.length s1) 1= .int .i64 (-1)from by unfold Vk;rw[hb];rfl]at hf
    rw[Aa]at hf;exact hf
end
def Aye(x:Qy):Option Nat→Except (Int × Int) Qy
 |some b=> .error (1,(b:Int))
 |none=>if 30<Df x then .error (4,-1)else .ok x
section
variable{cf:Ah}{N:Nat}(hK:∀f,Ba (cf f)){may:List UInt8→Bool}{gn:List UInt8→Int × Bool}
include hK in
theorem A7s(s:List UInt8)(h61:s.length≤400→Ao cf 61 [.str s] (Uy s.length (Y8 s)))(h62:s.length≤400→∀W,Ng W→(∀w∈W,w.tx.length≤1000)→∀n,n<2000→V7 cf 62 s.length W (H5 s.length may gn W n))
  (h63:∀W (r:RS),Km cf 63 [] s.length W r (.bool r.bad.isNone) r)(h64:∀W (r:RS),r.k≤W.length→Km cf 64 [] s.length W r (.agg (Ci (Cn s.length (W.drop r.k)))) r)
  (h65:∀W (r:RS),r.k≤W.length→Km cf 65 [] s.length W r (.tup []) (Gg s.length W r))
  (h16:∀x:Qy,Df x≤1000→Ao cf 16 [.agg (Br x)] (.int .i64 (Df x:Int))):Ao (run C1 cf N) 27 [.str s] (Aaw (Qx may gn s)):=by
 refine Cg hK func27 bdy rfl rfl rfl (Bhe _) ?_;simp only[Aa,Fa,Jt,Ac];unfold Qx;by_cases h4:400<s.length
 ·rw[if_pos h4,show decide ((400:Int)<(s.length:Int))=true from decide_eq_true (by omega)]
  simp only[if_true,Ab];exact R6
 rw[if_neg h4,show decide ((400:Int)<(s.length:Int))=false from decide_eq_false (by omega)]
 have hl:s.length≤400:=by omega
 simp only[BF];refine Aw rfl (h61 hl) ?_;cases hlex:Y8 s with
 |error i=>simp only[Uy,Aa,Hg,GC,M5,List.length_cons,List.length_nil,if_true,A5j,cl2,Ae,Nn,Ac,Ab];refine⟨rfl,?_⟩;rw[if_pos (show((1:Int) !=0)=true from rfl)];exact⟨rfl,R6⟩
 |ok W=>
  obtain⟨hwl,hW⟩:=Awq (by omega) hlex
  obtain⟨x,s1,hq,hdx⟩:=Aae may gn s.length hW.1;simp only[hq];simp only[Uy,Aa,Hg,GC,M5,List.length_cons,List.length_nil,if_true,A5j,cl2,Ae,Nn,Ac,Ab,O4];refine⟨rfl,?_⟩;rw[if_neg (show ¬ ((0:Int) !=0)=true from by decide)]
  have hq':Fe s.length may gn (4*W.length+4) (Gw W ⟨0,none⟩)=some (x,s1):=hq;obtain⟨cs,r,hr,hrs,hrk,hcs⟩:=(Apz (L:=s.length) (may:=may) (gr:=gn) hW (4*W.length+4)).1 ⟨0,none⟩ x s1 (Nat.zero_le _) hq';have hJ:=((Abw (L:=s.length) (may:=may) (gr:=gn) hW (4*W.length+4)).1 ⟨0,none⟩ cs r (Nat.zero_le _) hr).1;have hm:=h62 hl W hW (fun w hw=>by have:=Acz _ _ _ hlex w hw;omega) (4*W.length+4) (by omega) ⟨0,none⟩ cs r (Nat.zero_le _) hr
  refine Ad rfl hm rfl ?_;have hws:s1.ws=W.drop r.k:=by rw[← hrs];rfl
  have hbad:s1.bad=r.bad:=by rw[← hrs];rfl
  have hfin:∀p:RS,∀J,(p.bad=none→s1.bad=none)→U1 s.length x s1=Aye x p.bad→wp prog cf N (fun rs os=>Ck (Aaw (U1 s.length x s1)) rs)
    (.meth 63 [] [none] [] (Nu s.length W p) fun x18 x19=>
   .bind (.un .not x18) fun x20=>
   .ite x20 (
    .bind (.cell (gd x19 2)) fun x21=>
    .chk [x21] (
    .leaf [(.agg [(.int .i64 0),(.int .i64 0),(.bool false),(.str []),(.str []),(.int .i64 0),.nilsl]),(.agg [(.int .i64 1),x21])] [])) (
    .call 16 [] [(.agg (cl (.agg cs) 7))] [] fun x21=>
    .bind (.bin .gtr 3 x21 (.int .i64 30)) fun x22=>
    .ite x22 (
    .leaf [(.agg [(.int .i64 0),(.int .i64 0),(.bool false),(.str []),(.str []),(.int .i64 0),.nilsl]),(.agg [(.int .i64 4),(.int .i64 (-1))])] []) (
    .chk (cl (.agg cs) 7) (
    .leaf [(.agg (cl (.agg cs) 7)),(.agg [(.int .i64 0),(.int .i64 0)])] [])))) J:=fun p J hn hp=>by
   rw[hp];refine Ad rfl (h63 W p) rfl ?_;simp only[Aa,K5,Ac];cases hb:p.bad with
   |some b=>simp only[Aye,Option.isNone_some,Bool.not_false,if_true,Nu,gd,List.getD_cons_zero,List.getD_cons_succ,hb,Nv,A9,Al,Ae,Ab];exact⟨rfl,R6⟩
   |none=>
    rw[hcs (hn hb)];simp only[Aye,Option.isNone_none,Bool.not_true,BF,Hm];refine Aw (A2a (Md x)) (h16 x hdx) ?_;simp only[Aa,Jt,Ac];by_cases hd:30<Df x
    ·rw[if_pos hd,show decide ((30:Int)<(Df x:Int))=true from decide_eq_true (by omega)]
     simp only[if_true,Ab];exact R6
    ·rw[if_neg hd,show decide ((30:Int)<(Df x:Int))=false from decide_eq_false (by omega)]
     simp only[BF,Ae,Ab];exact⟨Kq x,Awc x⟩
  have hend:∀q:Option Nat,(Ah1 s.length s1).bad=q→U1 s.length x s1=Aye x q:=fun q hq=>by unfold U1;rw[hq];cases q<;>rfl
  simp only[Aa,hJ.agg,Ae];refine⟨by rw[hJ.cl];exact hJ.ok,?_⟩
  refine Ad rfl (h63 W r) rfl ?_;simp only[Ac];cases hb:r.bad with
  |some b=>
   simp only[Option.isNone_some,BF];refine hfin r [] (fun h=>by rw[hb]at h;cases h) (hend _ ?_)
   unfold Ah1;rw[hbad,hb];exact hbad.trans hb
  |none=>
   simp only[Option.isNone_none,if_true];refine Ad rfl (h64 W r hrk) rfl ?_;simp only[Aa,Ci,Q8,Nn,Ac];rw[show((((Cn s.length (W.drop r.k)).k:Nat):Int) !=4)=((Cn s.length (W.drop r.k)).k !=4)from by rw[bne,bne];congr 1;rw[Bool.eq_iff_iff,beq_iff_eq,beq_iff_eq];omega]
   cases h4k:(Cn s.length (W.drop r.k)).k !=4 with
   |true=>
    simp only[if_true];refine Ad rfl (h65 W r hrk) rfl ?_;refine hfin (Gg s.length W r) [] (fun h=>by unfold Gg at h;rw[hb]at h;cases h) (hend _ ?_)
    unfold Ah1;rw[hbad,hb,hws,h4k];simp only[Option.isNone_none,Bool.true_and,if_true,Hf,Gg];rw[hbad,hb,hws]
   |false=>simp only[BF];refine hfin r [] (fun _=>hbad.trans hb) (hend _ ?_);unfold Ah1;rw[hbad,hb,hws,h4k];simp only[Option.isNone_none,Bool.and_false,BF];exact hbad.trans hb
end
def A96(b c:Bool):Option Bool:=match b with
 |true=>(match c with
  |true=>some true
  |false=>some false)
 |false=>some false
theorem Apd{b c:Bool}:A96 b c=some (b && c):=by cases b<;>cases c<;>rfl
theorem Bg6(r s:Bool)(l m:List UInt8):eqD prog 26 (.agg [.bool r,.str l]) (.agg [.bool s,.str m])=A96 (r == s) (l == m):=by kernel_rfl
theorem Bgp(c a d b:Int):eqD prog 32 (.agg [.int .i64 c,.int .i64 a]) (.agg [.int .i64 d,.int .i64 b])=A96 (c == d) (a == b):=by kernel_rfl
theorem A40(r s:Bool)(l m:List UInt8):(Av.bin .neq 26 (.agg [.bool r,.str l]) (.agg [.bool s,.str m])).sem prog=some (.bool (!((r == s) && (l == m)))):=by simp only[Av.sem,Bo,Bg6,Apd,Option.map_some]
theorem A2d(c a d b:Int):(Av.bin .eql 32 (.agg [.int .i64 c,.int .i64 a]) (.agg [.int .i64 d,.int .i64 b])).sem prog=some (.bool ((c == d) && (a == b))):=by simp only[Av.sem,Bo,Bgp,Apd,Option.map_some]
section
variable{cf:Ah}{N:Nat}(hK:∀f,Ba (cf f))
include hK in
theorem Awk(k:Int)(a:Nat)(r:Bool)(ln nm:List UInt8)(n:Int)(l:List Qy)(hl:l.length≤2)(hN:1000<N)(h28:∀y∈l,Ao cf 28 [.agg (Br y),.agg (Br y)] (.bool true)):
  Ao (run C1 cf N) 28 [.agg (qc k a r ln nm n (.sl (l.map Br) .none)),.agg (qc k a r ln nm n (.sl (l.map Br) .none))] (.bool true):=by
 refine Cg hK func28 bdy rfl rfl rfl (Bif _ _) ?_;obtain⟨g0,g1,g2,g3,g4,g5,g6⟩:= @Al7 k a r ln nm n (.sl (l.map Br) .none);have hag:(Av.agg 7 (.agg (qc k a r ln nm n (.sl (l.map Br) .none)))).sem prog=some (.agg (qc k a r ln nm n (.sl (l.map Br) .none))):=rfl;simp only[Aa,hag,g0,g1,g2,g3,g4,g5,g6];refine Nc (d:= .bool false) (fun LQ' h=>?_) ?_
 ·simp only[Aa,Nn,Ag7,A40,Ahj,Ac,bne_self_eq_false,beq_self_eq_true,Bool.and_self,Bool.not_true,BF,Ab];exact h
 simp only[Ac,BF,Aa,Ahj,List.length_map,Bc];refine⟨by simp,?_⟩
 refine wp_loop (fun m a ds=>a=0∧∃(i:Nat) (x:D),ds= [x,.int .i64 (i:Int)]∧i≤l.length∧m=l.length - i) l.length (by omega) ⟨rfl,0,_,rfl,Nat.zero_le _,rfl⟩ ?_
 rintro m a ds ⟨rfl,i,x,rfl,hi,rfl⟩;simp only[Ca,hv,tails,List.tail_cons,List.headD_cons,Aa,Da,Vz,Ac];by_cases hlt:i<l.length
 ·obtain⟨y,hy⟩:∃y,l[i]?=some y:=⟨_,List.getElem?_eq_getElem hlt⟩;simp only[hlt,decide_true,if_true,Amw hy,Anv];refine Aw (bs:= [.agg (Br y),.agg (Br y)]) (by simp[Eb,Md]) (h28 y (List.mem_of_getElem? hy)) ?_
  simp only[Aa,K5,Bool.not_true,Ac,BF,Bt,wrapN (show i<1000000 by omega),Bc,Az]
  refine⟨by simp,_,?_,rfl,i+1,x,rfl,hlt,rfl⟩
  omega
 ·simp only[hlt,decide_false,BF,Ab];exact Bf rfl
theorem Ase(o:Except (Int × Int) Qy):∃cs c a,Aaw o= .tup [.agg cs,.agg [.int .i64 c,.int .i64 a]]∧QJ cs∧(cs=Apq∨∃x,o= .ok x∧cs=Br x):=by
 cases o with
 |ok x=>exact⟨_,_,_,rfl,QJ.enc x,.inr ⟨x,rfl,rfl⟩⟩
 |error p=>exact⟨_,p.1,p.2,rfl,QJ.mk rfl,.inl rfl⟩
include hK in
theorem A7z(s:List UInt8)(o:Except (Int × Int) Qy)(h12:Ao cf 12 [.str s] (Aaw o))(h27:Ao cf 27 [.str s] (Aaw o))
  (h28:∀cs,(cs=Apq∨∃x,o= .ok x∧cs=Br x)→Ao cf 28 [.agg cs,.agg cs] (.bool true)):Ao (run C1 cf N) 10 [.str s] (.bool true):=by
 refine Cg hK func10 bdy rfl rfl rfl (Bg3 _) ?_;obtain⟨cs,c,a,hp,hJ,hcs⟩:=Ase o;rw[hp]at h12 h27;refine Aw rfl h12 ?_;simp only[Aa,Hg,GC,hJ.agg,hJ.cl,Ae,M5,List.length_cons,List.length_nil,if_true,cl2];refine⟨hJ.ok,rfl,?_⟩;refine Aw rfl h27 ?_;simp only[Aa,Hg,GC,hJ.agg,hJ.cl,Ae,M5,List.length_cons,List.length_nil,if_true,cl2,A2d,beq_self_eq_true,Bool.and_self,Ac];refine⟨hJ.ok,rfl,?_⟩;refine Aw (bs:= [.agg cs,.agg cs]) (by simp[Eb,hJ.frz]) (h28 cs hcs) ?_
 simp only[Ab];exact Bf rfl
end
end Go.Vam
