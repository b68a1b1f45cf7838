/-
  The machine is sound for whole calls; a fast twin of it says the same.
-/
import Derived.Test.YtanifnfklgldpaaGreatDoorVab
set_option linter.unusedSimpArgs false
set_option linter.unusedVariables false
namespace Go.Vam
section
variable{C:Eo}{cf:Ah}{β:Nat→Nat→Option Value}{h:Bool}
variable{g0 g g':G}{st0 st st':St}{w0 w w':World}{ds:List Deferred}{e e':Env}{W V:Cb}{a a':Act}{Q:Exit→Act→World→Prop}
theorem At.start(hs:Co g st w)(he:F8 g e a.tmps):At g st w a.defers e st [] a w g:=
 ⟨hs,Step.refl g st w,Dx.refl _ _,he,rfl,K.refl _ _⟩
theorem At.then(h1:At g0 st0 w0 ds e st W a w g)(h2:At g st w ds e' st' V a' w' g'):At g0 st0 w0 ds e' st' (Dj V W) a' w' g':=
 ⟨h2.sim,h1.step.trans h2.step,h1.free.trans h2.free h1.k.1,h2.env,h2.defers,h1.k.trans h2.k⟩
theorem Tr.reB{l:List Nat}{F:Nat→Sta}{val:Nat→D}{ops:Array Oper}{B B':Array Nat}(hT:Tr C h false cf ops B l F val):Tr C h false cf ops B' l F val:=
 ⟨fun p i hp=>by
  obtain⟨o,h1,h2⟩:=hT.one p i hp;refine⟨o,h1,?_⟩;generalize F p=s at h2 ⊢;generalize F (p+1)=s' at h2 ⊢;generalize val p=v at h2 ⊢;cases h2 with
  |skip hw=>exact .skip hw
  |loud hw hl hq hc=>exact .loud hw hl hq (fun h=>by cases h)
  |quiet hw hl hq=>exact .quiet hw hl hq⟩
theorem Vf{dr:Bool}{id:Nat}{ops:Array Oper}{B:Array Nat}{l:List Nat}{F:Nat→Sta}{val:Nat→D}(hX:Ctx C cf β)(hO:We ops B l)(hap:dr=false→Ap ops B)
  (h0:F 0=([],e,st,[]))(h1:(F l.length).2=(e',st',W))(hT:Tr C h dr cf ops B l F val)(hs:Co g st w)(he:F8 g e a.tmps)(hb:g.base=β)
  (hQ:∀a' w' g',At g st w a.defers e' st' W a' w' g'→Q .normal a' w'):(Code.region id ops true).wp C.P Q a w:=by
 refine wp_region_any hX.mixed ?_;obtain⟨hs1,hs2⟩:=hs.still (w':= {w with drawn:=w.drawn+1}) (Nat.le_refl _) (fun _ _=>rfl) rfl rfl;obtain⟨q,hq1,hq2,hq3,hq4⟩:=Yi ops l l.length 0 (by omega)
 obtain⟨hgr,hgW⟩:=hT.grows (p:=0) q hq1 hq2 hq3;have hgl:=hT.len hX.keeps (p:=0) q hq1 hq2;rw[h0]at hgr hgW hgl;have hnone:∀i,has (Array.replicate ops.size false) i=false:=fun i=>by unfold has;rw[Array.getD_eq_getD_getElem?,Array.getElem?_replicate];split<;>rfl
 obtain⟨hs3,hs4⟩:=hs1.more hgr;refine A0b (g0:=g) (st0:=st) (w0:=w) (ds:=a.defers) hap hX hb hT hO (by rw[h0]) (fun a' w' g' hA=>hQ a' w' g' ?_) _ _ a _ g q (by unfold left;refine Nat.le_trans (List.length_filter_le _ _) ?_;simp) ?_
 ·have e1:(F l.length).2.1=e':=by rw[h1]
  have e2:(F l.length).2.2.1=st':=by rw[h1]
  have e3:(F l.length).2.2.2=W:=by rw[h1]
  rw[e1,e2,e3]at hA;exact hA
 ·refine⟨by simp,fun i hi=>(by rw[hnone]at hi;cases hi),hq2,fun i hi=>?_,fun p i hp hi hl=>?_,fun p i _ _=>hnone i,?_,fun p i hp hi _ hg=>?_⟩
  ·obtain⟨j,h2,h3⟩:=hq4 (Ky hi);rw[hi]at h2;cases h2;exact⟨h3,hnone i⟩
  ·rw[hq3 p i (Nat.zero_le _) hp hi]at hl;cases hl
  ·have:Nw (Oo ops l) val (Ir l (Array.replicate ops.size false)) (F 0).2.1 l.length=e:=by
    rw[Wn (p:=0) _ (Nat.zero_le _) (fun r _ _=>?_),h0]
    ·rfl
    ·unfold Ir;split
     ·exact hnone _
     ·rfl
   rw[this,hgW];refine⟨hs3,?_,Dx.refl _ _,he,rfl,hgl,fun id hid _=>?_⟩
   ·have:=hs2.trans hs4;simpa[Mw]using this
   ·rw[List.getElem?_eq_getElem hid];exact hgr _ _ (List.getElem?_eq_getElem hid)
  ·have:=hT.len hX.keeps (p:=0) p (Nat.zero_le _) (by omega)
   rw[h0]at this;replace this:st.length≤(F p).2.2.1.length:=this;constructor
   ·cases hl:g.loc (F p).2.2.1.length with
    |none=>rfl
    |some c=>exact absurd (hs.loc_lt hl) (by omega)
   ·cases hl:g.tk (F p).2.2.1.length with
    |none=>rfl
    |some c=>exact absurd (hs.tk_lt hl) (by omega)
theorem Ah6{id:Nat}{ol:Option (List Nat × Bool)}{ops:Array Oper}{draw:Bool}(hX:Ctx C cf β)(hol:draw=true→(∀l,ol=some (l,true)→A6o ops l)∧(∀l,ol=some (l,false)→We ops (Region.before ops) l))
  (hr:region C h cf ol ops draw e st=some (e',st',W))(hs:Co g st w)(he:F8 g e a.tmps)(hb:g.base=β)
  (hQ:∀a' w' g',At g st w a.defers e' st' W a' w' g'→Q .normal a' w'):(Code.region id ops draw).wp C.P Q a w:=by
 unfold region at hr;cases draw with
 |false=>simp only[BF]at hr;exact wp_region (Ps hX hb hQ _ _ _ _ _ _ _ _ hr (At.start hs he))
 |true=>
  simp only[if_true]at hr;split at hr
  ·rename_i l;obtain⟨B,hO,hap⟩:=(hol rfl).1 l rfl;obtain⟨F,val,h0,h1,hT⟩:=B55 _ _ _ _ _ hr;exact Vf hX hO (fun _=>hap) h0 h1 (hT.reB (B':=B)) hs he hb hQ
  ·rename_i l;obtain⟨F,val,h0,h1,hT⟩:=B55 _ _ _ _ _ hr;exact Vf hX ((hol rfl).2 l rfl) (fun h=>by cases h) h0 h1 hT hs he hb hQ
  ·split at hr
   case isFalse=>cases hr
   rename_i hok;obtain⟨F,val,h0,h1,hT⟩:=B55 _ _ _ _ _ hr;exact Vf hX (Amq hok) (fun h=>by cases h) h0 h1 hT hs he hb hQ
def Aha:Ex→Exit
 | .norm=> .normal
 | .exit id=> .exit id
 | .ret=> .ret
def Yh(P:Program)(c:Code)(Q:Exit→Act→World→Prop)(a:Act)(w:World):Prop:=
 ∀(b:Frame) (k:List Item) (cs:List Frame),∃e a' w',Q e a' w'∧Arrives P (lone (b.at a (.code c:: .inLoop c::k)) cs w) b k cs e a' w'
theorem Afm{P:Program}{c:Code}(hw:c.wp P (Exit.then (Yh P c Q) Q) a w):Yh P c Q a w:=by
 intro b k cs;obtain⟨e,a₁,w₁,hq,harr⟩:=hw b (.inLoop c::k) cs;cases e with
 |normal=>obtain⟨e₂,a₂,w₂,hq₂,harr₂⟩:=hq b k cs;exact⟨e₂,a₂,w₂,hq₂,.of_steps (Steps.trans harr (.one step_inLoop)) harr₂⟩
 |exit id=>exact⟨_,a₁,w₁,hq,.pass (x:= .inLoop c) rfl (fun _ _=> .inl (by simp)) harr⟩
 |goto l=>exact⟨_,a₁,w₁,hq,.pass (x:= .inLoop c) rfl (fun _ _=> .inl (by simp)) harr⟩
 |ret=>exact⟨_,a₁,w₁,hq,.pass (x:= .inLoop c) rfl (fun _ _=> .inl (by simp)) harr⟩
 |panic ch=>exact⟨_,a₁,w₁,hq,.pass (x:= .inLoop c) rfl (fun _ _=> .inl (by simp)) harr⟩
 |outgrown=>exact⟨_,a₁,w₁,hq,.pass (x:= .inLoop c) rfl (fun _ _=> .inl (by simp)) harr⟩
theorem Bwg{P:Program}{c:Code}(hw:Yh P c Q a w):(Code.loop c).wp P Q a w:=by intro b k cs;obtain⟨e,a',w',hq,harr⟩:=hw b k cs;exact⟨e,a',w',hq,.of_steps (.one step_loop) harr⟩
def Says(C:Eo)(β:Nat→Nat→Option Value)(c:Code)(ex:Env→St→ExR):Prop:=
 ∀(e:Env) (st:St) (x:Ex) (e':Env) (st':St) (W:Cb),ex e st=some (x,e',st',W)→∀(Q:Exit→Act→World→Prop) (a:Act) (w:World) (g:G),Co g st w→F8 g e a.tmps→g.base=β→(∀a' w' g',At g st w a.defers e' st' W a' w' g'→Q (Aha x) a' w')→c.wp C.P Q a w
theorem Acl{c:Code}{ex:Env→St→ExR}(hc:Says C β c ex){x:Ex}{e':Env}{st':St}{W':Cb}(hb:g0.base=β)
  (hQ:∀a' w' g',At g0 st0 w0 ds e' st' W' a' w' g'→Q (Aha x) a' w'):∀(n:Nat) (e:Env) (st:St) (W:Cb) (a:Act) (w:World) (g:G),Iq ex n e st W=some (x,e',st',W')→
  At g0 st0 w0 ds e st W a w g→Yh C.P c Q a w
 |0,_,_,_,_,_,_,hr,_=>by simp[Iq]at hr
 |n+1,e,st,W,a,w,g,hr,hA=>by
  unfold Iq at hr;refine Afm ?_;have hd:=hA.defers;split at hr
  ·rename_i e1 st1 V hx;refine hc e st _ e1 st1 V hx _ a w g hA.sim hA.env (by rw[hA.step.mono.base];exact hb) fun a' w' g' h2=>?_
   rw[hd]at h2;exact Acl hc hb hQ n _ _ _ a' w' g' hr (hA.then h2)
  ·rename_i x1 e1 st1 V hne hx;cases hr;refine hc e st _ _ _ V hx _ a w g hA.sim hA.env (by rw[hA.step.mono.base];exact hb) fun a' w' g' h2=>?_
   rw[hd]at h2;have:=hQ a' w' g' (hA.then h2);cases x with
   |norm=>exact(hne rfl).elim
   |exit id=>exact this
   |ret=>exact this
  ·cases hr
theorem Vp(hX:Ctx C cf β)(N:Nat){od:Nat→Option (List Nat × Bool)}:∀(c:Code),H6 od c→Says C β c (exec C h od cf N c):=by
 intro c;induction c with
 |skip=>intro hod e st x e' st' W hr Q a w g hs he hb hQ;simp only[exec,Option.some.injEq,Prod.mk.injEq]at hr;obtain⟨rfl,rfl,rfl,rfl⟩:=hr;exact wp_skip (hQ a w g (At.start hs he))
 |region id ops draw=>
  intro hod e st x e' st' W hr Q a w g hs he hb hQ;unfold exec at hr;split at hr
  ·rename_i hreg;cases hr;exact Ah6 hX hod hreg hs he hb hQ
  ·cases hr
 |seq p q ihp ihq=>
  intro hod e st x e' st' W hr Q a w g hs he hb hQ;unfold exec at hr;refine wp_seq ?_;split at hr
  ·rename_i e1 st1 V hp;split at hr
   ·rename_i x2 e2 st2 W2 hq;cases hr;refine ihp hod.1 e st _ e1 st1 V hp _ a w g hs he hb fun a1 w1 g1 h1=>?_;refine ihq hod.2 e1 st1 _ _ _ W2 hq _ a1 w1 g1 h1.sim h1.env (by rw[h1.step.mono.base];exact hb) fun a2 w2 g2 h2=>?_
    rw[h1.defers]at h2;exact hQ a2 w2 g2 (h1.then h2)
   ·cases hr
  ·rename_i hne;refine ihp hod.1 e st x e' st' W hr _ a w g hs he hb fun a1 w1 g1 h1=>?_;have:=hQ a1 w1 g1 h1;cases x with
   |norm=>exact absurd hr (by rintro h;exact hne _ _ _ h)
   |exit id=>exact this
   |ret=>exact this
 |cond c p q ihp ihq=>
  intro hod e st x e' st' W hr Q a w g hs he hb hQ;unfold exec at hr;have hc:=V4 he c;split at hr
  ·rename_i hcb;rw[hcb]at hc;exact wp_cond_true hc.bool_inv (ihp hod.1 e st x e' st' W hr Q a w g hs he hb hQ)
  ·rename_i hcb;rw[hcb]at hc;exact wp_cond_false hc.bool_inv (ihq hod.2 e st x e' st' W hr Q a w g hs he hb hQ)
  ·cases hr
 |block id p ihp=>
  intro hod e st x e' st' W hr Q a w g hs he hb hQ;unfold exec at hr;refine wp_block ?_;split at hr
  ·rename_i i e1 st1 V hp;cases hr;refine ihp hod e st _ _ _ _ hp _ a w g hs he hb fun a1 w1 g1 h1=>?_;have:=hQ a1 w1 g1 h1;simp only[Aha,Exit.inBlock];split at this
   ·rename_i hid;rw[if_pos hid];exact this
   ·rename_i hid;rw[if_neg hid];exact this
  ·rename_i hne;refine ihp hod e st x e' st' W hr _ a w g hs he hb fun a1 w1 g1 h1=>?_;have:=hQ a1 w1 g1 h1;cases x with
   |norm=>exact this
   |exit i=>exact absurd hr (by rintro h;exact hne _ _ _ _ h)
   |ret=>exact this
 |loop p ihp=>intro hod e st x e' st' W hr Q a w g hs he hb hQ;unfold exec at hr;exact Bwg (Acl (ihp hod) hb hQ N e st [] a w g hr (At.start hs he))
 |exit id=>intro hod e st x e' st' W hr Q a w g hs he hb hQ;simp only[exec,Option.some.injEq,Prod.mk.injEq]at hr;obtain⟨rfl,rfl,rfl,rfl⟩:=hr;exact wp_exit (hQ a w g (At.start hs he))
 |label n=>intro hod e st x e' st' W hr Q a w g hs he hb hQ;simp only[exec,Option.some.injEq,Prod.mk.injEq]at hr;obtain⟨rfl,rfl,rfl,rfl⟩:=hr;exact wp_label (hQ a w g (At.start hs he))
 |ret=>intro hod e st x e' st' W hr Q a w g hs he hb hQ;simp only[exec,Option.some.injEq,Prod.mk.injEq]at hr;obtain⟨rfl,rfl,rfl,rfl⟩:=hr;exact wp_ret (hQ a w g (At.start hs he))
 |_=>intro hod e st x e' st' W hr;simp[exec]at hr
end
section
variable{C:Eo}{cf:Ah}{h:Bool}
theorem K.then{st st1 st2:St}{W V U:Cb}(h:K st st1 W)(h':K st1 st2 V)(hu:∀id,(id∈V∨id∈W)→id∈U):K st st2 U:=
 (h.trans h').weaken fun id hi=>hu id (Cm.1 hi)
theorem M7(hk:∀f,Ba (cf f)){draw:Bool}{ops:Array Oper}{B:Array Nat}{e':Env}{st':St}{W':Cb}{st0:St}:
  ∀(l:List Nat) (lg:Rh) (e:Env) (st:St) (W:Cb),Ay C h cf draw ops B l lg e st W=some (e',st',W')→K st0 st W→K st0 st' W'
 | [],lg,e,st,W,hr,h0=>by simp only[Ay,Option.some.injEq,Prod.mk.injEq]at hr;obtain⟨rfl,rfl,rfl⟩:=hr;exact h0
 |i::is,lg,e,st,W,hr,h0=>by
  unfold Ay at hr;split at hr
  ·cases hr
  split at hr
  ·cases hr
  ·exact M7 hk is _ _ _ _ hr h0
  ·split at hr
   ·split at hr
    ·cases hr
    rename_i hq;split at hr
    ·cases hr
    exact M7 hk is _ _ _ _ hr (h0.trans (Jz hk hq))
   ·split at hr
    ·cases hr
    rename_i fx hq;refine M7 hk is _ _ _ _ hr (h0.then (V:= []) ?_ fun id hi=>by
     rcases hi with hi|hi
     ·cases hi
     ·exact hi)
    cases fx with
    |rd ids=>exact K.refl _ _
    |al ob=>exact K.app
theorem Avg(hk:∀f,Ba (cf f)){draw:Bool}{ol:Option (List Nat × Bool)}{ops:Array Oper}{e e':Env}{st st':St}{W:Cb}(hr:region C h cf ol ops draw e st=some (e',st',W)):K st st' W:=by
 unfold region at hr;split at hr
 ·split at hr
  ·exact M7 hk _ _ _ _ _ hr (K.refl _ _)
  ·exact M7 hk _ _ _ _ _ hr (K.refl _ _)
  ·dsimp only at hr;split at hr
   ·exact M7 hk _ _ _ _ _ hr (K.refl _ _)
   ·cases hr
 ·exact M7 hk _ _ _ _ _ hr (K.refl _ _)
def Ato(ex:Env→St→ExR):Prop:=∀e st x e' st' W,ex e st=some (x,e',st',W)→K st st' W
theorem Axa{ex:Env→St→ExR}(hx:Ato ex){st0:St}{x:Ex}{e':Env}{st':St}{W':Cb}:∀(n:Nat) (e:Env) (st:St) (W:Cb),Iq ex n e st W=some (x,e',st',W')→K st0 st W→K st0 st' W'
 |0,_,_,_,hr,_=>by simp[Iq]at hr
 |n+1,e,st,W,hr,h0=>by
  unfold Iq at hr;split at hr
  ·rename_i h1;exact Axa hx n _ _ _ hr (h0.trans (hx _ _ _ _ _ _ h1))
  ·rename_i h1;cases hr;exact h0.trans (hx _ _ _ _ _ _ h1)
  ·cases hr
theorem Ahg(hk:∀f,Ba (cf f))(N:Nat){od:Nat→Option (List Nat × Bool)}:∀(c:Code),Ato (exec C h od cf N c):=by
 intro c;induction c with
 |region id ops draw=>
  intro e st x e' st' W hr;unfold exec at hr;split at hr
  ·rename_i hreg;cases hr;exact Avg hk hreg
  ·cases hr
 |seq p q ihp ihq=>
  intro e st x e' st' W hr;unfold exec at hr;split at hr
  ·rename_i hp;split at hr
   ·rename_i hq;cases hr;exact(ihp _ _ _ _ _ _ hp).trans (ihq _ _ _ _ _ _ hq)
   ·cases hr
  ·exact ihp _ _ _ _ _ _ hr
 |cond c p q ihp ihq=>
  intro e st x e' st' W hr;unfold exec at hr;split at hr
  ·exact ihp _ _ _ _ _ _ hr
  ·exact ihq _ _ _ _ _ _ hr
  ·cases hr
 |block id p ihp=>
  intro e st x e' st' W hr;unfold exec at hr;split at hr
  ·rename_i hp;cases hr;exact ihp _ _ _ _ _ _ hp
  ·exact ihp _ _ _ _ _ _ hr
 |loop p ihp=>intro e st x e' st' W hr;unfold exec at hr;exact Axa ihp N e st [] hr (K.refl _ _)
 |skip|exit id|label n|ret=>intro e st x e' st' W hr;simp only[exec,Option.some.injEq,Prod.mk.injEq]at hr;obtain⟨rfl,rfl,rfl,rfl⟩:=hr;exact K.refl _ _
 |_=>intro e st x e' st' W hr;simp[exec]at hr
theorem Ajt{f:FuncId}{vs vs':List D}{st st':St}(hr:Ls C f vs st=some (vs',st')):Yj st st':=by
 unfold Ls at hr;split at hr
 ·cases hr;exact .refl _
 ·split at hr
  ·split at hr
   ·cases hr;exact .refl _
   ·exact Zm hr
  ·exact Zm hr
theorem K.cut{st st':St}{W:Cb}(h:K st st' W):K st (st'.take st.length) W:=
 ⟨by rw[List.length_take];have:=h.1;omega,fun id hi hn=>by rw[List.getElem?_take,if_pos hi];exact h.2 id hi hn⟩
theorem Arx(hk:∀f,Ba (cf f))(N:Nat)(f:FuncId):Ba (run C cf N f):=by
 intro args st v st' W hr;unfold run at hr;split at hr
 ·cases hr
 split at hr
 ·cases hr
 split at hr
 ·cases hr
 ·cases hr
 rename_i e1 st1 W1 _ hex;split at hr
 ·cases hr
 split at hr
 ·rename_i hfr;have h1:=((Ahg hk N _ _ _ _ _ _ _ hex).trans (Ajt hfr).k);have h2:K st _ ((Dj (Dn _ _) W1).filter (· <st.length)):=⟨h1.1,fun id hi hn=>h1.2 id hi fun hm=>hn (by
   rw[List.mem_filter];exact⟨hm,by simpa using hi⟩)⟩
  unfold finish at hr;dsimp only at hr;split at hr
  ·cases hr;exact h2
  ·cases hr;exact h2.cut
 ·cases hr
end
section
variable{P:Program}{g g':G}{st st':St}{w w':World}{v:D}
def Axh(tmps:Array Value):ResultVar→Sem Value
 | .tmp t=>pure (tmps.getD t undef)
 | .cell a t=>do loadVar t (← asAddr (tmps.getD a undef))
theorem Yo{e:Env}{tmps:Array Value}(hs:Co g st w)(he:F8 g e tmps):∀(l:List ResultVar) (vs:List D),Gm P e st l=some vs→∃A:List Value,(l.mapM (Axh tmps)).run P w= .ok A w∧F8 g vs A.toArray
 | [],vs,hr=>by simp only[Gm,Option.some.injEq]at hr;subst hr;exact⟨[],by simp,F8.nil⟩
 | .tmp t::l,vs,hr=>by
  simp only[Gm,Option.map_eq_some_iff]at hr;obtain⟨vs',h1,rfl⟩:=hr;obtain⟨A,h2,h3⟩:=Yo hs he l vs' h1;have hv:=V4 (a:= {tmps,defers:= []}) he (.tmp t);refine⟨tmps.getD t undef::A,?_,?_⟩
  ·rw[List.mapM_cons];simp only[Axh,Sem.run_bind,Sem.run_pure,Result.andThen_ok,h2]
  ·refine⟨by have:=h3.size;simp at this ⊢;exact this,fun j d x hj hx=>?_⟩
   cases j with
   |zero=>simp only[List.getElem?_cons_zero,Option.some.injEq,List.getElem?_toArray]at hj hx;subst hj;subst hx;exact hv
   |succ j=>exact h3.at_ j d x (by simpa using hj) (by simpa using hx)
 | .cell a t::l,vs,hr=>by
  simp only[Gm]at hr;split at hr
  ·rename_i v fx vs' h0 h1;cases hr;obtain⟨A,h2,h3⟩:=Yo hs he l vs' h1;have hv:=V4 (a:= {tmps,defers:= []}) he (.tmp a);simp only[ev,Act.eval]at hv;have key:∃r,(Axh tmps (.cell a t)).run P w= .ok r w∧VR g v r:=by
    unfold Axh;dsimp only;generalize tmps.getD a undef=x at hv;unfold Fp at h0;split at h0
    ·rename_i id off heq;rw[heq]at hv;cases hv with
     |ptr hl=>
      split at h0
      case h_3=>cases h0
      all_goals
       rename_i cs hst;cases ht:Dk P t cs off with
       |none=>simp[ht]at h0
       |some v'=>
        simp only[ht,Option.map_some,Option.some.injEq,Prod.mk.injEq]at h0;obtain⟨rfl,rfl⟩:=h0;obtain⟨r,h4,h5⟩:=Oq (P:=P) (off:=off) (J3 hs hl (by first|exact .inl hst|exact .inr hst)) ht
        rw[Nat.zero_add]at h4;exact⟨r,by simp[asAddr,h4],h5⟩
    ·rename_i cs heq;rw[heq]at hv;cases hv with
     |eptr hI hvv=>
      cases ht:Dk P t cs 0 with
      |none=>simp[ht]at h0
      |some v'=>simp only[ht,Option.map_some,Option.some.injEq,Prod.mk.injEq]at h0;obtain⟨rfl,rfl⟩:=h0;obtain⟨r,h4,h5⟩:=Oq (P:=P) (off:=0) (Acm hs hI hvv) ht;rw[Nat.add_zero]at h4;exact⟨r,by simp[asAddr,h4],h5⟩
    ·cases h0
   obtain⟨r,h4,h5⟩:=key;refine⟨r::A,?_,?_⟩
   ·rw[List.mapM_cons];rw[Sem.run_bind,h4];simp only[Sem.run_bind,Sem.run_pure,Result.andThen_ok,h2]
   ·refine⟨by have:=h3.size;simp at this ⊢;exact this,fun j d x hj hx=>?_⟩
    cases j with
    |zero=>simp only[List.getElem?_cons_zero,Option.some.injEq,List.getElem?_toArray]at hj hx;subst hj;subst hx;exact h5
    |succ j=>exact h3.at_ j d x (by simpa using hj) (by simpa using hx)
  ·cases hr
theorem Oi{fn:Func}{e:Env}{tmps:Array Value}{vs:List D}(hs:Co g st w)(he:F8 g e tmps)(hr:Gm P e st fn.results.toList=some vs):
  ∃A:List Value,(results fn tmps).run P w= .ok (if h:A.toArray.size=1 then A.toArray[0]else .tuple A.toArray) w∧F8 g vs A.toArray:=by
 obtain⟨A,h1,h2⟩:=Yo hs he _ _ hr;refine⟨A,?_,h2⟩;have e1:results fn tmps=(fn.results.mapM (Axh tmps) >>= fun vs=>pure (if h:vs.size=1 then vs[0]else .tuple vs)):=by unfold results;congr 1
 rw[e1,Array.mapM_eq_mapM_toList];simp only[map_eq_pure_bind,bind_assoc,Sem.run_bind,h1,Result.andThen_ok,Sem.run_pure,pure_bind]
theorem Ac9{vs:List D}{A:List Value}(h:F8 g vs A.toArray):VR g (oneOf vs) (if h:A.toArray.size=1 then A.toArray[0]else .tuple A.toArray):=by
 unfold oneOf;split
 ·rename_i d;have hs:=h.size
  match A,hs with
  | [x],_=>simp only[List.size_toArray,List.length_cons,List.length_nil,dite_true];exact h.at_ 0 d x rfl rfl
 ·rename_i hne;have hs:=h.size;rw[dif_neg]
  ·exact h.tup
  ·intro h1;rw[h1]at hs
   match vs,hs with
   | [d],_=>exact hne d rfl
end
section
variable{P:Program}{g g' g0:G}{st st' st0:St}{w w' w0:World}{v:D}{n:Nat}{W:Cb}
theorem Fv{cs:List D}:F6 n cs=false↔∀(j:Nat) (d:D),cs[j]?=some d→D8 n d=false:=by
 induction cs with
 |nil=>simp[F6]
 |cons c cs ih=>
  simp only[F6,Bool.or_eq_false_iff,ih];constructor
  ·rintro⟨h1,h2⟩ j d hj;cases j with
   |zero=>simp at hj;subst hj;exact h1
   |succ j=>exact h2 j d (by simpa using hj)
  ·intro h;exact⟨h 0 c rfl,fun j d hj=>h (j+1) d (by simpa using hj)⟩
theorem Pj{rows:List (List D)}:Gt n rows=false↔∀(i:Nat) (r:List D) (j:Nat) (d:D),rows[i]?=some r→r[j]?=some d→D8 n d=false:=by
 induction rows with
 |nil=>simp[Gt]
 |cons c rows ih=>
  simp only[Gt,Bool.or_eq_false_iff,ih,Fv];constructor
  ·rintro⟨h1,h2⟩ i r j d hi hj;cases i with
   |zero=>simp at hi;subst hi;exact h1 j d hj
   |succ i=>exact h2 i r j d (by simpa using hi) hj
  ·intro h;exact⟨fun j d hj=>h 0 c j d rfl hj,fun i r j d hi hj=>h (i+1) r j d (by simpa using hi) hj⟩
theorem VR.ref(hl:∀id c,g.loc id=some c→id<n)(ht:∀t k,g.tk t=some k→t<n){d:D}{x:Value}(h:VR g d x):D8 n d=false:=by
 induction h with
 |undef|int|bool|str|nilp|nilsl|nilmap|nilfunc|nilif=>rfl
 |ptr h=>have:=hl _ _ h;simp[D8];omega
 |eptr hI hv ih=>simp only[D8];rw[Fv];intro j d hj;obtain⟨v,e⟩:=hI j d hj;exact ih j d v hj e
 |slNil h=>
  rename_i gr;cases gr with
  |tok t k=>exact absurd rfl (h t k)
  |_=>simp[D8,Gt]
 |slEmp h hc=>
  rename_i gr a cap;cases gr with
  |tok t k=>exact absurd rfl (h t k)
  |_=>simp[D8,Gt]
 |sl hsz hI hv hcap hgr ih=>
  rename_i rows gr c o sz cap;have h1:Gt n rows=false:=by rw[Pj];intro i r j d hi hj;obtain⟨v,e⟩:=hI i r j d hi hj;exact ih i r j d v hi hj e
  simp only[D8,h1,Bool.or_false];cases gr with
  |tok t k=>obtain⟨k,e,_⟩:=hgr;have:=ht t k e;simp;omega
  |_=>rfl
 |arr h=>have:=hl _ _ h;simp[D8];omega
 |map h=>have:=hl _ _ h;simp[D8];omega
 |func ha hb hva hvb iha ihb=>
  rename_i f a b A B;simp only[D8,Bool.or_eq_false_iff,Fv];constructor
  ·intro j d hj;have hlt:j<A.size:=by rw[ha];exact(List.getElem?_eq_some_iff.1 hj).1
   exact iha j d _ hj (Array.getElem?_eq_getElem hlt)
  ·intro j d hj;have hlt:j<B.size:=by rw[hb];exact(List.getElem?_eq_some_iff.1 hj).1
   exact ihb j d _ hj (Array.getElem?_eq_getElem hlt)
 |iface _ ih=>exact ih
 |agg hs hv ih=>
  rename_i cs A;simp only[D8,Fv];intro j d hj;have hlt:j<A.size:=by rw[hs];exact(List.getElem?_eq_some_iff.1 hj).1
  exact ih j d _ hj (Array.getElem?_eq_getElem hlt)
 |tup hs hv ih=>
  rename_i cs A;simp only[D8,Fv];intro j d hj;have hlt:j<A.size:=by rw[hs];exact(List.getElem?_eq_some_iff.1 hj).1
  exact ih j d _ hj (Array.getElem?_eq_getElem hlt)
def G.cut(g:G)(n:Nat):G:= {g with loc:=fun id=>if id<n then g.loc id else none,tk:=fun t=>if t<n then g.tk t else none}
theorem VR.cut{d:D}{x:Value}(h:VR g d x):D8 n d=false→VR (g.cut n) d x:=by
 have hl:∀{id c:Nat},g.loc id=some c→id<n→(g.cut n).loc id=some c:=fun h hlt=>by simp[G.cut,hlt,h]
 induction h with
 |undef v=>exact fun _=> .undef v
 |int k n=>exact fun _=> .int k n
 |bool b=>exact fun _=> .bool b
 |str s=>exact fun _=> .str s
 |nilp=>exact fun _=> .nilp
 |nilsl=>exact fun _=> .nilsl
 |nilmap=>exact fun _=> .nilmap
 |nilfunc=>exact fun _=> .nilfunc
 |nilif=>exact fun _=> .nilif
 |ptr h=>exact fun hr=> .ptr (hl h (by simpa[D8]using hr))
 |eptr hI hv ih=>intro hr;simp only[D8]at hr;rw[Fv]at hr;exact .eptr hI fun j d v hj e=>ih j d v hj e (hr j d hj)
 |slNil h=>exact fun _=> .slNil h
 |slEmp h hc=>exact fun _=> .slEmp h hc
 |sl hsz hI hv hcap hgr ih=>
  rename_i rows gr c o sz cap;intro hr;simp only[D8,Bool.or_eq_false_iff]at hr;obtain⟨h1,h2⟩:=hr;rw[Pj]at h2;refine .sl hsz hI (fun i r j d v hi hj e=>ih i r j d v hi hj e (h2 i r j d hi hj)) hcap ?_;cases gr with
  |none=>trivial
  |exact=>exact hgr
  |tok t gen=>
   obtain⟨k,e,q⟩:=hgr;refine⟨k,?_,q⟩;have:t<n:=by simpa using h1
   simp[G.cut,this,e]
 |arr h h1 h2 h3=>exact fun hr=> .arr (hl h (by simpa[D8]using hr)) h1 h2 h3
 |map h=>exact fun hr=> .map (hl h (by simpa[D8]using hr))
 |func ha hb _ _ iha ihb=>intro hr;simp only[D8,Bool.or_eq_false_iff,Fv]at hr;exact .func ha hb (fun j d v hj e=>iha j d v hj e (hr.1 j d hj)) (fun j d v hj e=>ihb j d v hj e (hr.2 j d hj))
 |iface _ ih=>exact fun hr=> .iface (ih hr)
 |agg hs _ ih=>intro hr;simp only[D8,Fv]at hr;exact .agg hs fun j d v hj e=>ih j d v hj e (hr j d hj)
 |tup hs _ ih=>intro hr;simp only[D8,Fv]at hr;exact .tup hs fun j d v hj e=>ih j d v hj e (hr j d hj)
theorem Ri.ref(hl:∀id c,g.loc id=some c→id<n)(ht:∀t k,g.tk t=some k→t<n){o:Obj}{c:Nat}(h:Ri g o c w):Zl n o=false:=by
 cases o with
 |cells cs=>obtain⟨A,T,fr,h⟩:=h;simp only[Zl,Fv];intro j d hj;have hlt:j<A.size:=Nat.lt_of_lt_of_le (List.getElem?_eq_some_iff.1 hj).1 h.len;exact(h.at_ j d _ hj (Array.getElem?_eq_getElem hlt)).ref hl ht
 |fcells cs=>simp only[Zl,Fv];intro j d hj;obtain⟨v,_,h1⟩:=h j d hj;exact h1.ref hl ht
 |map es=>
  obtain⟨M,k,h⟩:=h;simp only[Zl,List.any_eq_false];intro p hp;obtain⟨j,hj⟩:=List.mem_iff_getElem?.1 hp;have hlt:j<M.size:=by rw[h.size];exact(List.getElem?_eq_some_iff.1 hj).1
  obtain⟨h1,h2⟩:=h.at_ j p _ hj (Array.getElem?_eq_getElem hlt);rw[h1.ref hl ht,h2.ref hl ht];simp
 |tok _=>rfl
 |iter _ _=>rfl
 |dead=>rfl
theorem Ri.cut{o:Obj}{c:Nat}(h:Ri g o c w)(hr:Zl n o=false):Ri (g.cut n) o c w:=by
 cases o with
 |cells cs=>obtain⟨A,T,fr,h⟩:=h;simp only[Zl,Fv]at hr;exact⟨A,T,fr,h.heap,h.size,h.fr,h.len,fun j d v hj e=>(h.at_ j d v hj e).cut (hr j d hj),h.own⟩
 |fcells cs=>simp only[Zl,Fv]at hr;intro j d hj;obtain⟨v,h1,h2⟩:=h j d hj;exact⟨v,h1,h2.cut (hr j d hj)⟩
 |map es=>obtain⟨M,k,h⟩:=h;simp only[Zl,List.any_eq_false,Bool.or_eq_true,not_or,Bool.not_eq_true]at hr;exact⟨M,k,h.heap,h.size,fun j e m hj hm=>by have:=hr e (List.mem_of_getElem? hj);exact⟨(h.at_ j e m hj hm).1.cut this.1,(h.at_ j e m hj hm).2.cut this.2⟩,h.born,h.lt⟩
 |tok _=>exact h
 |iter _ _=>exact h
 |dead=>trivial
theorem Qs{v':D}{V:Cb}{r:Value}(h:finish st0.length v st W=some (v',st',V))(h0:Co g0 st0 w0)(hs:Co g st w)(hstep:Step g0 st0 w0 W g st w)(hf:Dx g0 st0 g)
  (hk:K st0 st W)(hv:VR g v r):∃g',VR g' v' r∧Co g' st' w∧Step g0 st0 w0 V g' st' w∧Dx g0 st0 g':=by
 have hlt0:∀id b,Own g0 st0 id b→id<st0.length:=by
  rintro id b (⟨h1,_⟩|⟨k,h1,_⟩)
  ·exact h0.loc_lt h1
  ·exact h0.tk_lt h1
 have hV:∀id∈W,∀b,Own g0 st0 id b→∃i∈W.filter (· <st0.length),Own g0 st0 i b:=fun id hid b ho=>⟨id,by rw[List.mem_filter];exact⟨hid,by simpa using hlt0 id b ho⟩,ho⟩
 have hstepV:=hstep.weaken hV;unfold finish at h;dsimp only at h;split at h
 ·cases h;exact⟨g,hv,hs,hstepV,hf⟩
 ·rename_i hc;cases h;simp only[Bool.or_eq_true,not_or,Bool.not_eq_true,List.any_eq_false]at hc;obtain⟨hc1,hc2⟩:=hc;have hown:∀id b,Own (g.cut st0.length) (st.take st0.length) id b→Own g st id b:=by
   rintro id b (⟨h1,o,h2,h3⟩|⟨k,h1,h2⟩)
   ·simp only[G.cut]at h1;split at h1
    ·rename_i hlt;rw[List.getElem?_take,if_pos hlt]at h2;exact .inl ⟨h1,o,h2,h3⟩
    ·cases h1
   ·simp only[G.cut]at h1;split at h1
    ·exact .inr ⟨k,h1,h2⟩
    ·cases h1
  have hm:Gd g0 (g.cut st0.length):=by
   refine⟨fun id c h1=>?_,fun b o u h1=>hstep.mono.I b o u h1,fun t k h1=>?_,hstep.mono.base⟩
   ·obtain⟨h2,h3⟩:=hstep.mono.loc id c h1;have hlt:id<st0.length:=h0.loc_lt h1;exact⟨by simp[G.cut,hlt,h2],h3⟩
   ·obtain⟨k',h2,h3⟩:=hstep.mono.tk t k h1;have hlt:t<st0.length:=h0.tk_lt h1;exact⟨k',by simp[G.cut,hlt,h2],h3⟩
  refine⟨g.cut st0.length,hv.cut hc1,⟨?_,?_,?_,hs.imm,?_,fun b o v h=>⟨(hs.base b o v h).1,fun id ho=>(hs.base b o v h).2.1 id (hown id b ho),(hs.base b o v h).2.2⟩⟩,⟨hm,hstepV.size,hstepV.fr,?_,hstepV.os,hstepV.out⟩,?_⟩
  ·intro id c h1;simp only[G.cut]at h1;split at h1
   case isFalse=>cases h1
   rename_i hlt;obtain⟨o,ho,hr⟩:=hs.obj _ _ h1;refine⟨o,by rw[List.getElem?_take,if_pos hlt];exact ho,hr.cut ?_⟩
   by_cases hW:id∈W
   ·have:=hc2 id (by rw[List.mem_filter];exact⟨hW,by simpa using hlt⟩)
    rw[ho]at this;simpa using this
   ·have hk':=hk.2 id hlt hW;rw[ho]at hk';cases hl:g0.loc id with
    |some c0=>obtain⟨o0,ho0,hr0⟩:=h0.obj _ _ hl;rw[← hk']at ho0;cases ho0;exact hr0.ref (fun i c h=>h0.loc_lt h) (fun t k h=>h0.tk_lt h)
    |none=>
     cases ht:g0.tk id with
     |some k=>have:=(h0.tok _ _ ht).1;rw[← hk']at this;cases this;rfl
     |none=>have:=(hf id hlt hl ht).1;rw[this]at h1;cases h1
  ·intro t k h1;simp only[G.cut]at h1;split at h1
   case isFalse=>cases h1
   rename_i hlt;obtain⟨h2,A,T,fr,h3⟩:=hs.tok _ _ h1;exact⟨by rw[List.getElem?_take,if_pos hlt];exact h2,A,T,fr,h3.heap,h3.hi,h3.ce,h3.fr,h3.own⟩
  ·intro id id' b h1 h2;exact hs.inj id id' b (hown _ _ h1) (hown _ _ h2)
  ·intro id c h1;simp only[G.cut]at h1;split at h1
   ·exact hs.blk _ _ h1
   ·cases h1
  ·intro id b h1 hb;exact hstepV.own id b (hown _ _ h1) hb
  ·intro id hid h1 h2;obtain⟨h3,h4⟩:=hf id hid h1 h2;exact⟨by simp[G.cut,h3],by simp[G.cut,h4]⟩
theorem Aix{C:Eo}{f:FuncId}{vs vs':List D}{A:Array Value}(h:Ls C f vs st=some (vs',st'))(hs:Co g st w)(hA:F8 g vs A):∃g',Frz g st w st' g'∧F8 g' vs' A:=by
 unfold Ls at h;split at h
 ·cases h;exact⟨g,Frz.refl hs,hA⟩
 ·split at h
  ·split at h
   ·cases h;exact⟨g,Frz.refl hs,hA⟩
   ·exact Ox h hs hA
  ·exact Ox h hs hA
theorem Ar5{C:Eo}{cf:Ah}{β:Nat→Nat→Option Value}(hX:Ctx C cf β)(N:Nat)(f:FuncId):Ji C.P β f (run C cf N f):=by
 intro args st v st' W hr g w A hb hs hA;have hr0:=hr;unfold run at hr;split at hr
 ·cases hr
 rename_i fn hfn;split at hr
 ·cases hr
 rename_i c hbody;split at hr
 ·cases hr
 ·cases hr
 rename_i x e1 st1 W1 hne hex;split at hr
 ·cases hr
 rename_i vs hres;split at hr
 case h_2=>cases hr
 rename_i vs2 st2 hfr;have hk:=Ahg hX.keeps N c _ _ _ _ _ _ hex;refine calls_of_wp hfn hbody (Vp hX N c (hX.ords f fn c hfn hbody) _ st _ e1 st1 W1 hex _ _ w g hs ?_ hb fun a' w' g' hA'=>?_)
 ·show F8 g _ (A++Array.replicate (fn.ntmps - A.size) undef);rw[hA.size];refine hA.append ⟨by simp,fun j d x hj hx=>?_⟩
  rw[List.getElem?_replicate]at hj;split at hj
  ·cases hj;exact .undef x
  ·cases hj
 ·have hpost:a'.defers= []∧∃u,(results fn a'.tmps).run C.P w'= .ok u w'∧(∃r g',Ending.returned u=Ending.returned r∧VR g' v r∧Co g' st' w'∧Step g st w W g' st' w'∧Dx g st g'):=by
   refine⟨hA'.defers,?_⟩;obtain⟨B,h1,h2⟩:=Oi (P:=C.P) hA'.sim hA'.env hres;obtain⟨g2,hF,h3⟩:=Aix hfr hA'.sim h2;have hF0:Dx g' st1 g2:=fun i _ p q=>⟨by rw[hF.loc];exact p,by rw[hF.tk];exact q⟩
   have hstep2:Step g st w (Dj (Dn st1 st2) W1) g2 st2 w':=(hA'.step.trans hF.step).weaken fun i hi b hb=>⟨i,by
    rw[Cm]at hi ⊢;rcases hi with hi|hi
    ·cases hi
    ·exact .inr hi,hb⟩
   obtain⟨g3,h4,h5,h6,h7⟩:=Qs hr hs hF.sim hstep2 (hA'.free.trans hF0 hA'.k.1) (hk.trans (Ajt hfr).k) (Ac9 h3);exact⟨_,h1,_,g3,rfl,h4,h5,h6,h7⟩
  cases x with
  |norm=>exact hpost
  |ret=>exact hpost
  |exit id=>exact(hne id rfl).elim
structure Ww(C:Eo)(β:Nat→Nat→Option Value)(nat:FuncId→Option Bz):Prop where
 just:∀f nt,nat f=some nt→∀cf,Ctx C cf β→Ji C.P β f (nt cf)
 keeps:∀f nt,nat f=some nt→∀cf,(∀f,Ba (cf f))→Ba (nt cf)
theorem Bka{C:Eo}{β:Nat→Nat→Option Value}{nat:FuncId→Option Bz}(hc:Aa6 C.P)(hx:Aky C)
  (ho:∀(f:FuncId) (fn:Func) (c:Code),C.P.funcs[f]?=some fn→fn.body=some c→H6 (C.ords f) c)(hm:C.P.follows .mixedOrders=true)(hn:Ww C β nat)(N:Nat):
  ∀n,Ctx C (Ii C nat N n) β
 |0=>⟨fun f args st v st' W h=>by simp[Ii]at h,fun f args st v st' W h=>by simp[Ii]at h,hc,hx,ho,hm⟩
 |n+1=>by
  have ih:=Bka hc hx ho hm hn N n;have hj:∀f,Ji C.P β f (Ii C nat N (n+1) f):=fun f=>by
   intro args st v st' W h;unfold Ii at h;split at h
   ·rename_i nt hnt;exact hn.just f nt hnt _ ih args st v st' W h
   ·exact Ar5 ih N f args st v st' W h
  have hkk:∀f,Ba (Ii C nat N (n+1) f):=fun f=>by
   intro args st v st' W h;unfold Ii at h;split at h
   ·rename_i nt hnt;exact hn.keeps f nt hnt _ ih.keeps args st v st' W h
   ·exact Arx ih.keeps N f args st v st' W h
  exact⟨hj,hkk,hc,hx,ho,hm⟩
end
noncomputable section
structure Fg where
 (x0 x1 x2 x3 x4 x5 x6 x7 x8 x9 x10 x11 x12 x13 x14 x15:D)
structure Rt where
 (x0 x1 x2 x3 x4 x5 x6 x7 x8 x9 x10 x11 x12 x13 x14 x15:Fg)
def uA:Fg:=⟨.undef,.undef,.undef,.undef,.undef,.undef,.undef,.undef,.undef,.undef,.undef,.undef,.undef,.undef,.undef,.undef⟩
def uT:Rt:=⟨uA,uA,uA,uA,uA,uA,uA,uA,uA,uA,uA,uA,uA,uA,uA,uA⟩
def gaL:List (Fg→D):= [fun t=> @Fg.rec.{1} (fun _=>D) (fun x _ _ _ _ _ _ _ _ _ _ _ _ _ _ _=>x) t,fun t=> @Fg.rec.{1} (fun _=>D) (fun _ x _ _ _ _ _ _ _ _ _ _ _ _ _ _=>x) t,fun t=> @Fg.rec.{1} (fun _=>D) (fun _ _ x _ _ _ _ _ _ _ _ _ _ _ _ _=>x) t,fun t=> @Fg.rec.{1} (fun _=>D) (fun _ _ _ x _ _ _ _ _ _ _ _ _ _ _ _=>x) t,fun t=> @Fg.rec.{1} (fun _=>D) (fun _ _ _ _ x _ _ _ _ _ _ _ _ _ _ _=>x) t,fun t=> @Fg.rec.{1} (fun _=>D) (fun _ _ _ _ _ x _ _ _ _ _ _ _ _ _ _=>x) t,fun t=> @Fg.rec.{1} (fun _=>D) (fun _ _ _ _ _ _ x _ _ _ _ _ _ _ _ _=>x) t,fun t=> @Fg.rec.{1} (fun _=>D) (fun _ _ _ _ _ _ _ x _ _ _ _ _ _ _ _=>x) t,fun t=> @Fg.rec.{1} (fun _=>D) (fun _ _ _ _ _ _ _ _ x _ _ _ _ _ _ _=>x) t,fun t=> @Fg.rec.{1} (fun _=>D) (fun _ _ _ _ _ _ _ _ _ x _ _ _ _ _ _=>x) t,fun t=> @Fg.rec.{1} (fun _=>D) (fun _ _ _ _ _ _ _ _ _ _ x _ _ _ _ _=>x) t,fun t=> @Fg.rec.{1} (fun _=>D) (fun _ _ _ _ _ _ _ _ _ _ _ x _ _ _ _=>x) t,fun t=> @Fg.rec.{1} (fun _=>D) (fun _ _ _ _ _ _ _ _ _ _ _ _ x _ _ _=>x) t,fun t=> @Fg.rec.{1} (fun _=>D) (fun _ _ _ _ _ _ _ _ _ _ _ _ _ x _ _=>x) t,fun t=> @Fg.rec.{1} (fun _=>D) (fun _ _ _ _ _ _ _ _ _ _ _ _ _ _ x _=>x) t,fun t=> @Fg.rec.{1} (fun _=>D) (fun _ _ _ _ _ _ _ _ _ _ _ _ _ _ _ x=>x) t]
def paL:List (D→Fg→Fg):= [fun v t=> @Fg.rec.{1} (fun _=>D→Fg) (fun _ x1 x2 x3 x4 x5 x6 x7 x8 x9 x10 x11 x12 x13 x14 x15 v=>⟨v,x1,x2,x3,x4,x5,x6,x7,x8,x9,x10,x11,x12,x13,x14,x15⟩) t v,fun v t=> @Fg.rec.{1} (fun _=>D→Fg) (fun x0 _ x2 x3 x4 x5 x6 x7 x8 x9 x10 x11 x12 x13 x14 x15 v=>⟨x0,v,x2,x3,x4,x5,x6,x7,x8,x9,x10,x11,x12,x13,x14,x15⟩) t v,fun v t=> @Fg.rec.{1} (fun _=>D→Fg) (fun x0 x1 _ x3 x4 x5 x6 x7 x8 x9 x10 x11 x12 x13 x14 x15 v=>⟨x0,x1,v,x3,x4,x5,x6,x7,x8,x9,x10,x11,x12,x13,x14,x15⟩) t v,fun v t=> @Fg.rec.{1} (fun _=>D→Fg) (fun x0 x1 x2 _ x4 x5 x6 x7 x8 x9 x10 x11 x12 x13 x14 x15 v=>⟨x0,x1,x2,v,x4,x5,x6,x7,x8,x9,x10,x11,x12,x13,x14,x15⟩) t v,fun v t=> @Fg.rec.{1} (fun _=>D→Fg) (fun x0 x1 x2 x3 _ x5 x6 x7 x8 x9 x10 x11 x12 x13 x14 x15 v=>⟨x0,x1,x2,x3,v,x5,x6,x7,x8,x9,x10,x11,x12,x13,x14,x15⟩) t v,fun v t=> @Fg.rec.{1} (fun _=>D→Fg) (fun x0 x1 x2 x3 x4 _ x6 x7 x8 x9 x10 x11 x12 x13 x14 x15 v=>⟨x0,x1,x2,x3,x4,v,x6,x7,x8,x9,x10,x11,x12,x13,x14,x15⟩) t v,fun v t=> @Fg.rec.{1} (fun _=>D→Fg) (fun x0 x1 x2 x3 x4 x5 _ x7 x8 x9 x10 x11 x12 x13 x14 x15 v=>⟨x0,x1,x2,x3,x4,x5,v,x7,x8,x9,x10,x11,x12,x13,x14,x15⟩) t v,fun v t=> @Fg.rec.{1} (fun _=>D→Fg) (fun x0 x1 x2 x3 x4 x5 x6 _ x8 x9 x10 x11 x12 x13 x14 x15 v=>⟨x0,x1,x2,x3,x4,x5,x6,v,x8,x9,x10,x11,x12,x13,x14,x15⟩) t v,fun v t=> @Fg.rec.{1} (fun _=>D→Fg) (fun x0 x1 x2 x3 x4 x5 x6 x7 _ x9 x10 x11 x12 x13 x14 x15 v=>⟨x0,x1,x2,x3,x4,x5,x6,x7,v,x9,x10,x11,x12,x13,x14,x15⟩) t v,fun v t=> @Fg.rec.{1} (fun _=>D→Fg) (fun x0 x1 x2 x3 x4 x5 x6 x7 x8 _ x10 x11 x12 x13 x14 x15 v=>⟨x0,x1,x2,x3,x4,x5,x6,x7,x8,v,x10,x11,x12,x13,x14,x15⟩) t v,fun v t=> @Fg.rec.{1} (fun _=>D→Fg) (fun x0 x1 x2 x3 x4 x5 x6 x7 x8 x9 _ x11 x12 x13 x14 x15 v=>⟨x0,x1,x2,x3,x4,x5,x6,x7,x8,x9,v,x11,x12,x13,x14,x15⟩) t v,fun v t=> @Fg.rec.{1} (fun _=>D→Fg) (fun x0 x1 x2 x3 x4 x5 x6 x7 x8 x9 x10 _ x12 x13 x14 x15 v=>⟨x0,x1,x2,x3,x4,x5,x6,x7,x8,x9,x10,v,x12,x13,x14,x15⟩) t v,fun v t=> @Fg.rec.{1} (fun _=>D→Fg) (fun x0 x1 x2 x3 x4 x5 x6 x7 x8 x9 x10 x11 _ x13 x14 x15 v=>⟨x0,x1,x2,x3,x4,x5,x6,x7,x8,x9,x10,x11,v,x13,x14,x15⟩) t v,fun v t=> @Fg.rec.{1} (fun _=>D→Fg) (fun x0 x1 x2 x3 x4 x5 x6 x7 x8 x9 x10 x11 x12 _ x14 x15 v=>⟨x0,x1,x2,x3,x4,x5,x6,x7,x8,x9,x10,x11,x12,v,x14,x15⟩) t v,fun v t=> @Fg.rec.{1} (fun _=>D→Fg) (fun x0 x1 x2 x3 x4 x5 x6 x7 x8 x9 x10 x11 x12 x13 _ x15 v=>⟨x0,x1,x2,x3,x4,x5,x6,x7,x8,x9,x10,x11,x12,x13,v,x15⟩) t v,fun v t=> @Fg.rec.{1} (fun _=>D→Fg) (fun x0 x1 x2 x3 x4 x5 x6 x7 x8 x9 x10 x11 x12 x13 x14 _ v=>⟨x0,x1,x2,x3,x4,x5,x6,x7,x8,x9,x10,x11,x12,x13,x14,v⟩) t v]
def gtL:List (Rt→Fg):= [fun t=> @Rt.rec.{1} (fun _=>Fg) (fun x _ _ _ _ _ _ _ _ _ _ _ _ _ _ _=>x) t,fun t=> @Rt.rec.{1} (fun _=>Fg) (fun _ x _ _ _ _ _ _ _ _ _ _ _ _ _ _=>x) t,fun t=> @Rt.rec.{1} (fun _=>Fg) (fun _ _ x _ _ _ _ _ _ _ _ _ _ _ _ _=>x) t,fun t=> @Rt.rec.{1} (fun _=>Fg) (fun _ _ _ x _ _ _ _ _ _ _ _ _ _ _ _=>x) t,fun t=> @Rt.rec.{1} (fun _=>Fg) (fun _ _ _ _ x _ _ _ _ _ _ _ _ _ _ _=>x) t,fun t=> @Rt.rec.{1} (fun _=>Fg) (fun _ _ _ _ _ x _ _ _ _ _ _ _ _ _ _=>x) t,fun t=> @Rt.rec.{1} (fun _=>Fg) (fun _ _ _ _ _ _ x _ _ _ _ _ _ _ _ _=>x) t,fun t=> @Rt.rec.{1} (fun _=>Fg) (fun _ _ _ _ _ _ _ x _ _ _ _ _ _ _ _=>x) t,fun t=> @Rt.rec.{1} (fun _=>Fg) (fun _ _ _ _ _ _ _ _ x _ _ _ _ _ _ _=>x) t,fun t=> @Rt.rec.{1} (fun _=>Fg) (fun _ _ _ _ _ _ _ _ _ x _ _ _ _ _ _=>x) t,fun t=> @Rt.rec.{1} (fun _=>Fg) (fun _ _ _ _ _ _ _ _ _ _ x _ _ _ _ _=>x) t,fun t=> @Rt.rec.{1} (fun _=>Fg) (fun _ _ _ _ _ _ _ _ _ _ _ x _ _ _ _=>x) t,fun t=> @Rt.rec.{1} (fun _=>Fg) (fun _ _ _ _ _ _ _ _ _ _ _ _ x _ _ _=>x) t,fun t=> @Rt.rec.{1} (fun _=>Fg) (fun _ _ _ _ _ _ _ _ _ _ _ _ _ x _ _=>x) t,fun t=> @Rt.rec.{1} (fun _=>Fg) (fun _ _ _ _ _ _ _ _ _ _ _ _ _ _ x _=>x) t,fun t=> @Rt.rec.{1} (fun _=>Fg) (fun _ _ _ _ _ _ _ _ _ _ _ _ _ _ _ x=>x) t]
def ptL:List (Fg→Rt→Rt):= [fun v t=> @Rt.rec.{1} (fun _=>Fg→Rt) (fun _ x1 x2 x3 x4 x5 x6 x7 x8 x9 x10 x11 x12 x13 x14 x15 v=>⟨v,x1,x2,x3,x4,x5,x6,x7,x8,x9,x10,x11,x12,x13,x14,x15⟩) t v,fun v t=> @Rt.rec.{1} (fun _=>Fg→Rt) (fun x0 _ x2 x3 x4 x5 x6 x7 x8 x9 x10 x11 x12 x13 x14 x15 v=>⟨x0,v,x2,x3,x4,x5,x6,x7,x8,x9,x10,x11,x12,x13,x14,x15⟩) t v,fun v t=> @Rt.rec.{1} (fun _=>Fg→Rt) (fun x0 x1 _ x3 x4 x5 x6 x7 x8 x9 x10 x11 x12 x13 x14 x15 v=>⟨x0,x1,v,x3,x4,x5,x6,x7,x8,x9,x10,x11,x12,x13,x14,x15⟩) t v,fun v t=> @Rt.rec.{1} (fun _=>Fg→Rt) (fun x0 x1 x2 _ x4 x5 x6 x7 x8 x9 x10 x11 x12 x13 x14 x15 v=>⟨x0,x1,x2,v,x4,x5,x6,x7,x8,x9,x10,x11,x12,x13,x14,x15⟩) t v,fun v t=> @Rt.rec.{1} (fun _=>Fg→Rt) (fun x0 x1 x2 x3 _ x5 x6 x7 x8 x9 x10 x11 x12 x13 x14 x15 v=>⟨x0,x1,x2,x3,v,x5,x6,x7,x8,x9,x10,x11,x12,x13,x14,x15⟩) t v,fun v t=> @Rt.rec.{1} (fun _=>Fg→Rt) (fun x0 x1 x2 x3 x4 _ x6 x7 x8 x9 x10 x11 x12 x13 x14 x15 v=>⟨x0,x1,x2,x3,x4,v,x6,x7,x8,x9,x10,x11,x12,x13,x14,x15⟩) t v,fun v t=> @Rt.rec.{1} (fun _=>Fg→Rt) (fun x0 x1 x2 x3 x4 x5 _ x7 x8 x9 x10 x11 x12 x13 x14 x15 v=>⟨x0,x1,x2,x3,x4,x5,v,x7,x8,x9,x10,x11,x12,x13,x14,x15⟩) t v,fun v t=> @Rt.rec.{1} (fun _=>Fg→Rt) (fun x0 x1 x2 x3 x4 x5 x6 _ x8 x9 x10 x11 x12 x13 x14 x15 v=>⟨x0,x1,x2,x3,x4,x5,x6,v,x8,x9,x10,x11,x12,x13,x14,x15⟩) t v,fun v t=> @Rt.rec.{1} (fun _=>Fg→Rt) (fun x0 x1 x2 x3 x4 x5 x6 x7 _ x9 x10 x11 x12 x13 x14 x15 v=>⟨x0,x1,x2,x3,x4,x5,x6,x7,v,x9,x10,x11,x12,x13,x14,x15⟩) t v,fun v t=> @Rt.rec.{1} (fun _=>Fg→Rt) (fun x0 x1 x2 x3 x4 x5 x6 x7 x8 _ x10 x11 x12 x13 x14 x15 v=>⟨x0,x1,x2,x3,x4,x5,x6,x7,x8,v,x10,x11,x12,x13,x14,x15⟩) t v,fun v t=> @Rt.rec.{1} (fun _=>Fg→Rt) (fun x0 x1 x2 x3 x4 x5 x6 x7 x8 x9 _ x11 x12 x13 x14 x15 v=>⟨x0,x1,x2,x3,x4,x5,x6,x7,x8,x9,v,x11,x12,x13,x14,x15⟩) t v,fun v t=> @Rt.rec.{1} (fun _=>Fg→Rt) (fun x0 x1 x2 x3 x4 x5 x6 x7 x8 x9 x10 _ x12 x13 x14 x15 v=>⟨x0,x1,x2,x3,x4,x5,x6,x7,x8,x9,x10,v,x12,x13,x14,x15⟩) t v,fun v t=> @Rt.rec.{1} (fun _=>Fg→Rt) (fun x0 x1 x2 x3 x4 x5 x6 x7 x8 x9 x10 x11 _ x13 x14 x15 v=>⟨x0,x1,x2,x3,x4,x5,x6,x7,x8,x9,x10,x11,v,x13,x14,x15⟩) t v,fun v t=> @Rt.rec.{1} (fun _=>Fg→Rt) (fun x0 x1 x2 x3 x4 x5 x6 x7 x8 x9 x10 x11 x12 _ x14 x15 v=>⟨x0,x1,x2,x3,x4,x5,x6,x7,x8,x9,x10,x11,x12,v,x14,x15⟩) t v,fun v t=> @Rt.rec.{1} (fun _=>Fg→Rt) (fun x0 x1 x2 x3 x4 x5 x6 x7 x8 x9 x10 x11 x12 x13 _ x15 v=>⟨x0,x1,x2,x3,x4,x5,x6,x7,x8,x9,x10,x11,x12,x13,v,x15⟩) t v,fun v t=> @Rt.rec.{1} (fun _=>Fg→Rt) (fun x0 x1 x2 x3 x4 x5 x6 x7 x8 x9 x10 x11 x12 x13 x14 _ v=>⟨x0,x1,x2,x3,x4,x5,x6,x7,x8,x9,x10,x11,x12,x13,x14,v⟩) t v]
def Ma{α:Type}(R:Type)(l:List α)(i:Nat)(k:α→R)(bad:R):R:=
 @List.rec.{1,0} α (fun _=>Nat→R) (fun _=>bad) (fun a _ ih i=> @Nat.rec.{1} (fun _=>R) (k a) (fun j _=>ih j) i) l i
theorem Jk{α R:Type}(k:α→R)(bad:R):∀(l:List α) (i:Nat),Ma R l i k bad=match l[i]? with|some a=>k a|none=>bad
 | [],i=>rfl
 |a::l,0=>rfl
 |a::l,i+1=>by have:=Jk k bad l i;rw[List.getElem?_cons_succ];exact this
theorem O6{α R:Type}{k:α→R}{bad:R}{l:List α}{i:Nat}{a:α}(h:l[i]?=some a):Ma R l i k bad=k a:=by rw[Jk,h]
def gaN(i:Nat):Fg→D:=gaL.getD i fun _=> .undef
def paN(i:Nat):D→Fg→Fg:=paL.getD i fun _ t=>t
def gtN(i:Nat):Rt→Fg:=gtL.getD i fun _=>uA
def ptN(i:Nat):Fg→Rt→Rt:=ptL.getD i fun _ t=>t
def gN(i:Nat):Rt→D:=fun t=>gaN (i % 16) (gtN (i / 16) t)
def pN(i:Nat):D→Rt→Rt:=fun v t=>ptN (i / 16) (paN (i % 16) v (gtN (i / 16) t)) t
theorem Arz{i:Nat}(h:i<16):i=0∨i=1∨i=2∨i=3∨i=4∨i=5∨i=6∨i=7∨i=8∨i=9∨i=10∨i=11∨i=12∨i=13∨i=14∨i=15:=by omega
theorem Be3{i j:Nat}(hi:i<16)(hj:j<16)(v:D)(t:Fg):gaN i (paN j v t)=if j=i then v else gaN i t:=by rcases Arz hi with rfl|rfl|rfl|rfl|rfl|rfl|rfl|rfl|rfl|rfl|rfl|rfl|rfl|rfl|rfl|rfl<;>rcases Arz hj with rfl|rfl|rfl|rfl|rfl|rfl|rfl|rfl|rfl|rfl|rfl|rfl|rfl|rfl|rfl|rfl<;>rfl
theorem Bfp{i j:Nat}(hi:i<16)(hj:j<16)(v:Fg)(t:Rt):gtN i (ptN j v t)=if j=i then v else gtN i t:=by rcases Arz hi with rfl|rfl|rfl|rfl|rfl|rfl|rfl|rfl|rfl|rfl|rfl|rfl|rfl|rfl|rfl|rfl<;>rcases Arz hj with rfl|rfl|rfl|rfl|rfl|rfl|rfl|rfl|rfl|rfl|rfl|rfl|rfl|rfl|rfl|rfl<;>rfl
theorem Bes{i j:Nat}(hi:i<256)(hj:j<256)(v:D)(t:Rt):gN i (pN j v t)=if j=i then v else gN i t:=by
 unfold gN pN;have h1:i / 16<16:=by omega
 have h2:j / 16<16:=by omega
 have h3:i % 16<16:=by omega
 have h4:j % 16<16:=by omega
 rw[Bfp h1 h2];by_cases e:j / 16=i / 16
 ·rw[if_pos e,Be3 h3 h4];by_cases e2:j % 16=i % 16
  ·rw[if_pos (by omega:j=i),if_pos e2]
  ·rw[if_neg (by omega:¬ j=i),if_neg e2,e]
 ·rw[if_neg e,if_neg (by omega:¬ j=i)]
theorem Bdt{i:Nat}(hi:i<256):gN i uT= .undef:=by
 unfold gN;have h1:i / 16<16:=by omega
 have h3:i % 16<16:=by omega
 rcases Arz h1 with h|h|h|h|h|h|h|h|h|h|h|h|h|h|h|h<;>rw[h]<;>rcases Arz h3 with h2|h2|h2|h2|h2|h2|h2|h2|h2|h2|h2|h2|h2|h2|h2|h2<;>rw[h2]<;>rfl
def Auj(i:Nat)(R:Type)(k:(Rt→D)→R)(bad:R):R:=Ma R gtL (i / 16) (fun m=>Ma R gaL (i % 16) (fun a=>k fun t=>a (m t)) bad) bad
def A9d(i:Nat)(R:Type)(k:(D→Rt→Rt)→R)(bad:R):R:=Ma R gtL (i / 16) (fun g=>Ma R ptL (i / 16) (fun m=>Ma R paL (i % 16) (fun a=>k fun v t=>m (a v (g t)) t) bad) bad) bad
theorem getD_at{α:Type}{l:List α}{i:Nat}{d:α}(h:i<l.length):l.getD i d=l[i]:=by rw[List.getD_eq_getElem?_getD,List.getElem?_eq_getElem h];rfl
theorem Ao6{i:Nat}(hi:i<256){R:Type}(k:(Rt→D)→R)(bad:R):Auj i R k bad=k (gN i):=by
 have h1:i / 16<gtL.length:=by show _<16;omega
 have h3:i % 16<gaL.length:=by show _<16;omega
 have e1:gtN (i / 16)=gtL[i / 16]:=getD_at h1;have e3:gaN (i % 16)=gaL[i % 16]:=getD_at h3;unfold Auj gN;rw[O6 (List.getElem?_eq_getElem h1),O6 (List.getElem?_eq_getElem h3),e1,e3]
theorem A5h{i:Nat}(hi:i<256){R:Type}(k:(D→Rt→Rt)→R)(bad:R):A9d i R k bad=k (pN i):=by
 have h1:i / 16<ptL.length:=by show _<16;omega
 have h3:i % 16<paL.length:=by show _<16;omega
 have h5:i / 16<gtL.length:=by show _<16;omega
 have e1:ptN (i / 16)=ptL[i / 16]:=getD_at h1;have e3:paN (i % 16)=paL[i % 16]:=getD_at h3;have e5:gtN (i / 16)=gtL[i / 16]:=getD_at h5;unfold A9d pN;rw[O6 (List.getElem?_eq_getElem h5),O6 (List.getElem?_eq_getElem h1),O6 (List.getElem?_eq_getElem h3),e1,e3,e5];rfl
structure Rel(e:Env)(t:Rt):Prop where
 lt:e.length≤256
 at_:∀i,i<e.length→e[i]?=some (gN i t)
theorem Rel.put{e:Env}{t:Rt}(h:Rel e t){i:Nat}(hi:i<256)(v:D):Rel (e.set i v) (pN i v t):=by
 refine⟨by rw[List.length_set];exact h.lt,fun j hj=>?_⟩
 rw[List.length_set]at hj;have:=h.lt;rw[Bes (by omega) hi,List.getElem?_set]
 by_cases e1:i=j
 ·subst e1;simp[hj]
 ·rw[if_neg e1,if_neg e1];exact h.at_ j hj
theorem Rel.get{e:Env}{t:Rt}(h:Rel e t)(i:Nat)(hi:i<e.length):e.getD i .undef=gN i t:=by rw[List.getD_eq_getElem?_getD,h.at_ i hi];rfl
end
noncomputable section
structure FS where
 n:Nat
 l:List Obj
inductive KR where
 |bad
 |ok(t:Rt)(s:FS)(W:Cb)
inductive Fh where
 |bad
 |ok(v:D)(s:FS)(W:Cb)
inductive KX where
 |bad
 |norm(t:Rt)(s:FS)(W:Cb)
 |exit(id:Nat)(t:Rt)(s:FS)(W:Cb)
 |ret(t:Rt)(s:FS)(W:Cb)
abbrev FF:=FuncId→List D→FS→Fh
def O1(st:St)(s:FS):Prop:=s.n=st.length∧s.l=st.reverse
def Aqq(st:St):FS:=⟨st.length,st.reverse⟩
theorem O1.eq{st:St}{s:FS}(h:O1 st s):s=Aqq st:=by cases s;obtain⟨h1,h2⟩:=h;simp at h1 h2;subst h1;subst h2;rfl
theorem Ep{a b:Nat}:Nat.ble a b=decide (a≤b):=by
 by_cases h:a≤b
 ·rw[Nat.ble_eq_true_of_le h];simp[h]
 ·rw[show Nat.ble a b=false from by rw[Bool.eq_false_iff];exact fun h'=>h (Nat.le_of_ble_eq_true h')];simp[h]
theorem Ul{a b:Nat}:Nat.beq a b=decide (a=b):=by
 by_cases h:a=b
 ·subst h;simp
 ·rw[show Nat.beq a b=false from by rw[Bool.eq_false_iff];exact fun h'=>h (Nat.eq_of_beq_eq_true h')];simp[h]
def Aau(R:Type)(s:FS)(id:Nat)(k:Obj→R)(bad:R):R:=
 @FS.rec.{1} (fun _=>R) (fun n l=> @Bool.rec.{1} (fun _=>R) bad (Ma R l (Nat.sub (Nat.sub n 1) id) k bad) (Nat.ble (Nat.succ id) n)) s
theorem Tw{R:Type}{st:St}{s:FS}(h:O1 st s)(id:Nat)(k:Obj→R)(bad:R):Aau R s id k bad=match st[id]? with|some o=>k o|none=>bad:=by
 rw[h.eq];unfold Aau Aqq;dsimp only;by_cases hi:id<st.length
 ·rw[show Nat.ble (Nat.succ id) st.length=true from by rw[Ep];exact decide_eq_true hi]
  dsimp only;rw[Jk,List.getElem?_reverse (by show st.length - 1 - id<st.length;omega),show st.length - 1 - (Nat.sub (Nat.sub st.length 1) id)=id from by show st.length - 1 - (st.length - 1 - id)=id;omega]
  cases st[id]?<;>rfl
 ·rw[show Nat.ble (Nat.succ id) st.length=false from by rw[Ep];exact decide_eq_false hi,List.getElem?_eq_none (Nat.le_of_not_lt hi)]
def Bci(l:List Obj)(i:Nat)(x:Obj):List Obj:=
 @List.rec.{1,0} Obj (fun _=>Nat→List Obj) (fun _=> []) (fun a l ih i=> @Nat.rec.{1} (fun _=>List Obj) (x::l) (fun j _=>a::ih j) i) l i
theorem Ao8(x:Obj):∀(l:List Obj) (i:Nat),Bci l i x=l.set i x
 | [],i=>rfl
 |a::l,0=>rfl
 |a::l,i+1=>congrArg (a:: ·) (Ao8 x l i)
def Aqz(s:FS)(id:Nat)(x:Obj):FS:= @FS.rec.{1} (fun _=>FS) (fun n l=>⟨n,Bci l (Nat.sub (Nat.sub n 1) id) x⟩) s
theorem Amf{st:St}{s:FS}(h:O1 st s){id:Nat}(hi:id<st.length)(x:Obj):O1 (st.set id x) (Aqz s id x):=by
 rw[h.eq];refine⟨by simp[Aqz,Aqq],?_⟩
 show Bci st.reverse (st.length - 1 - id) x=(st.set id x).reverse;rw[Ao8];apply List.ext_getElem?;intro j;by_cases hj:j<st.length
 ·rw[List.getElem?_set,List.length_reverse,List.getElem?_reverse hj,List.getElem?_reverse (by simpa using hj),List.length_set,List.getElem?_set]
  by_cases e:st.length - 1 - id=j
  ·rw[if_pos e,if_pos (by omega),if_pos (by omega),if_pos (by omega)]
  ·rw[if_neg e,if_neg (by omega)]
 ·rw[List.getElem?_eq_none (by simp;omega),List.getElem?_eq_none (by simp;omega)]
def Po(s:FS)(x:Obj):FS:= @FS.rec.{1} (fun _=>FS) (fun n l=>⟨Nat.succ n,x::l⟩) s
theorem Aa4{st:St}{s:FS}(h:O1 st s)(x:Obj):O1 (st++ [x]) (Po s x):=by rw[h.eq];exact⟨by simp[Po,Aqq],by simp[Po,Aqq]⟩
def A9q(x:Nat)(W:Cb):Bool:= @List.rec.{1,0} Nat (fun _=>Bool) false (fun a _ ih=> @Bool.rec.{1} (fun _=>Bool) ih true (Nat.beq x a)) W
theorem Aou(x:Nat):∀(W:Cb),A9q x W=W.contains x
 | []=>rfl
 |a::W=>by
  have ih:=Aou x W;rw[List.contains_cons];show(@Bool.rec (fun _=>Bool) (A9q x W) true (Nat.beq x a))=_;rw[ih];by_cases e:x=a
  ·subst e;simp
  ·have h1:Nat.beq x a=false:=by rw[Bool.eq_false_iff];exact fun h=>e (Nat.eq_of_beq_eq_true h)
   have h2:(x == a)=false:=by simpa using e
   rw[h1,h2];rfl
def Aub(x:Nat)(W:Cb):Cb:= @Bool.rec.{1} (fun _=>Cb) (x::W) W (A9q x W)
theorem Ao7(x:Nat)(W:Cb):Aub x W=Art W x:=by unfold Aub Art;rw[Aou];cases W.contains x<;>rfl
def jw(V W:Cb):Cb:= @List.rec.{1,0} Nat (fun _=>Cb→Cb) (fun W=>W) (fun x _ ih W=>ih (Aub x W)) V W
theorem Ab2:∀(V W:Cb),jw V W=Dj V W
 | [],W=>rfl
 |x::V,W=>by have:=Ab2 V (Aub x W);rw[Ao7]at this;show jw V (Aub x W)=_;rw[Ao7,this];rfl
def Axu(n:Nat)(W:Cb):Cb:= @List.rec.{1,0} Nat (fun _=>Cb) [] (fun x _ ih=> @Bool.rec.{1} (fun _=>Cb) ih (x::ih) (Nat.ble (Nat.succ x) n)) W
theorem Ao3(n:Nat):∀(W:Cb),Axu n W=W.filter (· <n)
 | []=>rfl
 |x::W=>by
  have ih:=Ao3 n W;rw[List.filter_cons];show(@Bool.rec (fun _=>Cb) (Axu n W) (x::Axu n W) (Nat.ble (Nat.succ x) n))=_;rw[ih];by_cases e:x<n
  ·rw[show Nat.ble (Nat.succ x) n=true from by rw[Ep];exact decide_eq_true e];simp[e]
  ·rw[show Nat.ble (Nat.succ x) n=false from by rw[Ep];exact decide_eq_false e];simp[e]
def Bee(W:Cb):Bool:= @List.rec.{1,0} Nat (fun _=>Bool) true (fun _ _ _=>false) W
theorem A3a(W:Cb):Bee W=W.isEmpty:=by cases W<;>rfl
def Uz{α:Type}(l:List α):Nat:= @List.rec.{1,0} α (fun _=>Nat) 0 (fun _ _ n=>Nat.succ n) l
theorem Oe{α:Type}:∀(l:List α),Uz l=l.length
 | []=>rfl
 |_::l=>congrArg Nat.succ (Oe l)
def Agi{α:Type}(l:List α)(n:Nat):List α:= @List.rec.{1,0} α (fun _=>Nat→List α) (fun _=> []) (fun a _ ih n=> @Nat.rec.{1} (fun _=>List α) [] (fun j _=>a::ih j) n) l n
theorem Ad5{α:Type}:∀(l:List α) (n:Nat),Agi l n=l.take n
 | [],n=>by cases n<;>rfl
 |a::l,0=>rfl
 |a::l,n+1=>congrArg (a:: ·) (Ad5 l n)
def U9{α:Type}(l:List α)(n:Nat):List α:= @List.rec.{1,0} α (fun _=>Nat→List α) (fun _=> []) (fun a l ih n=> @Nat.rec.{1} (fun _=>List α) (a::l) (fun j _=>ih j) n) l n
theorem Rw{α:Type}:∀(l:List α) (n:Nat),U9 l n=l.drop n
 | [],n=>by cases n<;>rfl
 |a::l,0=>rfl
 |a::l,n+1=>Rw l n
def Aeb{α:Type}(l m:List α):List α:= @List.rec.{1,0} α (fun _=>List α) m (fun a _ ih=>a::ih) l
theorem Ur{α:Type}(m:List α):∀(l:List α),Aeb l m=l++m
 | []=>rfl
 |a::l=>congrArg (a:: ·) (Ur m l)
def Asl{α:Type}(f:α→Bool)(l:List α):Bool:= @List.rec.{1,0} α (fun _=>Bool) true (fun a _ ih=> @Bool.rec.{1} (fun _=>Bool) false ih (f a)) l
theorem Aic{α:Type}(f:α→Bool):∀(l:List α),Asl f l=l.all f
 | []=>rfl
 |a::l=>by show(@Bool.rec (fun _=>Bool) false (Asl f l) (f a))=_;rw[Aic f l,List.all_cons];cases f a<;>rfl
def Ai8(a b:List UInt8):Bool:= @List.rec.{1,0} UInt8 (fun _=>List UInt8→Bool) (fun b=> @List.rec.{1,0} UInt8 (fun _=>Bool) true (fun _ _ _=>false) b)
 (fun x _ ih b=> @List.rec.{1,0} UInt8 (fun _=>Bool) false (fun y b _=> @Bool.rec.{1} (fun _=>Bool) false (ih b) (Nat.beq x.toNat y.toNat)) b) a b
theorem Ap9:∀(a b:List UInt8),Ai8 a b=(a == b)
 | [],[]=>rfl
 | [],_::_=>rfl
 |_::_,[]=>rfl
 |x::a,y::b=>by
  show(@Bool.rec (fun _=>Bool) false (Ai8 a b) (Nat.beq x.toNat y.toNat))=_;rw[Ap9 a b];have:((x::a) == (y::b))=(x == y && a == b):=rfl;rw[this];by_cases e:x=y
  ·subst e;rw[show Nat.beq x.toNat x.toNat=true from Nat.beq_refl _];simp
  ·rw[show Nat.beq x.toNat y.toNat=false from by rw[Bool.eq_false_iff];exact fun h=>e (UInt8.toNat_inj.1 (Nat.eq_of_beq_eq_true h))]
   simp[e]
def Ah2(d:D)(k:IntKind→Int→KR):KR:= @D.rec.{1} (fun _=>KR) (fun _=>KR) (fun _=>KR) .bad (fun a n=>k a n) (fun _=> .bad) (fun _=> .bad) .bad (fun _ _=> .bad) (fun _ _=> .bad) .bad (fun _ _ _=> .bad) (fun _ _ _ _ _=> .bad) .bad (fun _=> .bad) .bad (fun _ _ _ _ _=> .bad) .bad (fun _ _ _=> .bad) (fun _ _=> .bad) (fun _ _=> .bad) .bad (fun _ _ _ _=> .bad) .bad (fun _ _ _ _=> .bad) d
def Ald(d:D)(k:List UInt8→KR):KR:= @D.rec.{1} (fun _=>KR) (fun _=>KR) (fun _=>KR) .bad (fun _ _=> .bad) (fun _=> .bad) (fun s=>k s) .bad (fun _ _=> .bad) (fun _ _=> .bad) .bad (fun _ _ _=> .bad) (fun _ _ _ _ _=> .bad) .bad (fun _=> .bad) .bad (fun _ _ _ _ _=> .bad) .bad (fun _ _ _=> .bad) (fun _ _=> .bad) (fun _ _=> .bad) .bad (fun _ _ _ _=> .bad) .bad (fun _ _ _ _=> .bad) d
def Apv(d:D)(k:Bool→KR):KR:= @D.rec.{1} (fun _=>KR) (fun _=>KR) (fun _=>KR) .bad (fun _ _=> .bad) (fun b=>k b) (fun _=> .bad) .bad (fun _ _=> .bad) (fun _ _=> .bad) .bad (fun _ _ _=> .bad) (fun _ _ _ _ _=> .bad) .bad (fun _=> .bad) .bad (fun _ _ _ _ _=> .bad) .bad (fun _ _ _=> .bad) (fun _ _=> .bad) (fun _ _=> .bad) .bad (fun _ _ _ _=> .bad) .bad (fun _ _ _ _=> .bad) d
def Ar9(d:D)(k:Nat→Nat→KR)(ke:List D→KR):KR:= @D.rec.{1} (fun _=>KR) (fun _=>KR) (fun _=>KR) .bad (fun _ _=> .bad) (fun _=> .bad) (fun _=> .bad) .bad (fun a n=>k a n) (fun cs _=>ke cs) .bad (fun _ _ _=> .bad) (fun _ _ _ _ _=> .bad) .bad (fun _=> .bad) .bad (fun _ _ _ _ _=> .bad) .bad (fun _ _ _=> .bad) (fun _ _=> .bad) (fun _ _=> .bad) .bad (fun _ _ _ _=> .bad) .bad (fun _ _ _ _=> .bad) d
def vSl(d:D)(k0:KR)(k:List (List D)→KR)(ka:Nat→Nat→Nat→Nat→KR):KR:= @D.rec.{1} (fun _=>KR) (fun _=>KR) (fun _=>KR) .bad (fun _ _=> .bad) (fun _=> .bad) (fun _=> .bad) .bad (fun _ _=> .bad) (fun _ _=> .bad) (k0) (fun rows _ _=>k rows) (fun a b c d _=>ka a b c d) .bad (fun _=> .bad) .bad (fun _ _ _ _ _=> .bad) .bad (fun _ _ _=> .bad) (fun _ _=> .bad) (fun _ _=> .bad) .bad (fun _ _ _ _=> .bad) .bad (fun _ _ _ _=> .bad) d
def A97(d:D)(k:List D→KR):KR:= @D.rec.{1} (fun _=>KR) (fun _=>KR) (fun _=>KR) .bad (fun _ _=> .bad) (fun _=> .bad) (fun _=> .bad) .bad (fun _ _=> .bad) (fun _ _=> .bad) .bad (fun _ _ _=> .bad) (fun _ _ _ _ _=> .bad) .bad (fun _=> .bad) .bad (fun _ _ _ _ _=> .bad) .bad (fun _ _ _=> .bad) (fun _ _=> .bad) (fun ds _=>k ds) .bad (fun _ _ _ _=> .bad) .bad (fun _ _ _ _=> .bad) d
def Axx(d:D)(k:FuncId→List D→List D→KR):KR:= @D.rec.{1} (fun _=>KR) (fun _=>KR) (fun _=>KR) .bad (fun _ _=> .bad) (fun _=> .bad) (fun _=> .bad) .bad (fun _ _=> .bad) (fun _ _=> .bad) .bad (fun _ _ _=> .bad) (fun _ _ _ _ _=> .bad) .bad (fun _=> .bad) .bad (fun f a b _ _=>k f a b) .bad (fun _ _ _=> .bad) (fun _ _=> .bad) (fun _ _=> .bad) .bad (fun _ _ _ _=> .bad) .bad (fun _ _ _ _=> .bad) d
def vNc(d:D)(k:KR):KR:= @D.rec.{1} (fun _=>KR) (fun _=>KR) (fun _=>KR) .bad (fun _ _=> .bad) (fun _=> .bad) (fun _=> .bad) .bad (fun _ _=>k) (fun _ _=>k) .bad (fun _ _ _=> .bad) (fun _ _ _ _ _=> .bad) .bad (fun _=> .bad) .bad (fun _ _ _ _ _=>k) .bad (fun _ _ _=> .bad) (fun _ _=> .bad) (fun _ _=> .bad) .bad (fun _ _ _ _=> .bad) .bad (fun _ _ _ _=> .bad) d
def Amu(d:D)(k:KR):KR:= @D.rec.{1} (fun _=>KR) (fun _=>KR) (fun _=>KR) (.bad) (fun _ _=>k) (fun _=>k) (fun _=>k) k (fun _ _=>k) (fun _ _=>k) k (fun _ _ _=>k) (fun _ _ _ _ _=>k) k (fun _=>k) k (fun _ _ _ _ _=>k) k (fun _ _ _=>k) (fun _ _=>k) (fun _ _=>k) k (fun _ _ _ _=>k) k (fun _ _ _ _=>k) d
def Ako(d:D)(kt kf:KX):KX:= @D.rec.{1} (fun _=>KX) (fun _=>KX) (fun _=>KX) .bad (fun _ _=> .bad) (fun b=> @Bool.rec.{1} (fun _=>KX) kf kt b) (fun _=> .bad) .bad (fun _ _=> .bad) (fun _ _=> .bad) .bad (fun _ _ _=> .bad) (fun _ _ _ _ _=> .bad) .bad (fun _=> .bad) .bad (fun _ _ _ _ _=> .bad) .bad (fun _ _ _=> .bad) (fun _ _=> .bad) (fun _ _=> .bad) .bad (fun _ _ _ _=> .bad) .bad (fun _ _ _ _=> .bad) d
def Qu(d:D):List D:= @D.rec.{1} (fun _=>List D) (fun _=>List D) (fun _=>List D) [d] (fun _ _=> [d]) (fun _=> [d]) (fun _=> [d]) [d] (fun _ _=> [d]) (fun _ _=> [d]) [d] (fun _ _ _=> [d]) (fun _ _ _ _ _=> [d]) [d] (fun _=> [d]) [d] (fun _ _ _ _ _=> [d]) [d] (fun _ _ _=> [d]) (fun cs _=>cs) (fun _ _=> [d]) [d] (fun _ _ _ _=> [d]) [d] (fun _ _ _ _=> [d]) d
def okC(d:D):Bool:= @D.rec.{1} (fun _=>Bool) (fun _=>Bool) (fun _=>Bool) (false) (fun _ _=>true) (fun _=>true) (fun _=>true) true (fun _ _=>true) (fun _ _=>true) true (fun _ _ _=>true) (fun _ _ _ _ _=>true) true (fun _=>true) true (fun _ _ _ _ _=>true) true (fun _ _ _=>true) (fun _ _=>false) (fun _ _=>false) true (fun _ _ _ _=>true) true (fun _ _ _ _=>true) d
def scF(d:D):Bool:= @D.rec.{1} (fun _=>Bool) (fun _=>Bool) (fun _=>Bool) false (fun _ _=>true) (fun _=>true) (fun _=>true) false (fun _ _=>false) (fun _ _=>false) false (fun _ _ _=>false) (fun _ _ _ _ _=>false) false (fun _=>false) false (fun _ _ _ _ _=>false) false (fun _ _ _=>false) (fun _ _=>false) (fun _ _=>false) false (fun _ _ _ _=>false) false (fun _ _ _ _=>false) d
def scV(d:D):Bool:= @D.rec.{1} (fun _=>Bool) (fun _=>Bool) (fun _=>Bool) (true) (fun _ _=>true) (fun _=>true) (fun _=>true) false (fun _ _=>false) (fun _ _=>false) false (fun _ _ _=>false) (fun _ _ _ _ _=>false) false (fun _=>false) false (fun _ _ _ _ _=>false) false (fun _ _ _=>false) (fun _ _=>false) (fun ds _=>Asl scF ds) false (fun _ _ _ _=>false) false (fun _ _ _ _=>false) d
def Azt(n:Nat)(d:D):Bool:= @D.rec.{1} (fun _=>Bool) (fun _=>Bool) (fun _=>Bool) false (fun _ _=>false) (fun _=>false) (fun _=>false) false (fun id _=>Nat.ble n id) (fun _ ih=>ih) false (fun _ gr ih=> @Bool.rec.{1} (fun _=>Bool) ih true (@Gr.rec.{1} (fun _=>Bool) false false (fun id _=>Nat.ble n id) gr)) (fun _ id _ _ _=>Nat.ble n id) false (fun id=>Nat.ble n id) false (fun _ _ _ a b=> @Bool.rec.{1} (fun _=>Bool) b true a) false (fun _ _ ih=>ih) (fun _ ih=>ih) (fun _ ih=>ih) false (fun _ _ a b=> @Bool.rec.{1} (fun _=>Bool) b true a) false (fun _ _ a b=> @Bool.rec.{1} (fun _=>Bool) b true a) d
def fz0(d:D):Option D:= @D.rec.{1} (fun _=>Option D) (fun _=>Option D) (fun _=>Option D) (some d) (fun _ _=>(some d)) (fun _=>(some d)) (fun _=>(some d)) (some d) (fun _ _=>(some d)) (fun _ _=>(some d)) (some (.sl [] .none)) (fun rows _ _=>some (.sl rows .none)) (fun _ _ _ _ _=>none) (some d) (fun _=>(some d)) (some d) (fun _ _ _ _ _=>(some d)) (some d) (fun _ _ _=>(some d)) (fun _ _=>none) (fun _ _=>(some d)) (some d) (fun _ _ _ _=>some d) (some d) (fun _ _ _ _=>some d) d
def fzR(R:Type)(f:D→Option D)(l:List D)(k:List D→R)(bad:R):R:=
 @List.rec.{1,0} D (fun _=>(List D→R)→R) (fun k=>k []) (fun d _ ih k=> @Option.rec.{1,0} D (fun _=>R) bad (fun d=>ih fun l=>k (d::l)) (f d)) l k
def fz1(d:D):Option D:= @D.rec.{1} (fun _=>Option D) (fun _=>Option D) (fun _=>Option D) (some d) (fun _ _=>(some d)) (fun _=>(some d)) (fun _=>(some d)) (some d) (fun _ _=>(some d)) (fun _ _=>(some d)) (some (.sl [] .none)) (fun rows _ _=>some (.sl rows .none)) (fun _ _ _ _ _=>none) (some d) (fun _=>(some d)) (some d) (fun _ _ _ _ _=>(some d)) (some d) (fun _ _ _=>(some d)) (fun cs _=>fzR (Option D) fz0 cs (fun cs=>some (.agg cs)) none) (fun _ _=>(some d)) (some d) (fun _ _ _ _=>some d) (some d) (fun _ _ _ _=>some d) d
theorem Xb{R:Type}{f:D→Option D}{k:List D→R}{bad:R}:∀(l:List D),fzR R f l k bad=bad∨∃l',Eb f l=some l'∧fzR R f l k bad=k l'
 | []=> .inr ⟨[],rfl,rfl⟩
 |d::l=>by
  show(@Option.rec D (fun _=>R) bad (fun d=>fzR R f l (fun l=>k (d::l)) bad) (f d))=bad∨_;unfold Eb;cases hd:f d with
  |none=>exact .inl rfl
  |some d'=>
   rcases Xb (f:=f) (k:=fun l=>k (d'::l)) (bad:=bad) l with h|⟨l',h1,h2⟩
   ·exact .inl h
   ·refine .inr ⟨d'::l',by rw[h1],?_⟩
    show(@Option.rec D (fun _=>R) bad (fun d=>fzR R f l (fun l=>k (d::l)) bad) (f d))=_;rw[hd];exact h2
theorem A01{d d':D}(h:fz0 d=some d')(n:Nat)(st:St):Sl (n+1) st d=some (d',st):=by cases d<;>first|(cases h;rfl)|(cases h)
theorem Acw{f:D→Option D}{g:St→D→Option (D × St)}{st:St}(hf:∀d d',f d=some d'→g st d=some (d',st)):∀{l l':List D},Eb f l=some l'→Eu g st l=some (l',st)
 | [],l',h=>by simp only[Eb,Option.some.injEq]at h;subst h;rfl
 |d::l,l',h=>by
  unfold Eb at h;split at h
  ·rename_i d1 l1 h1 h2;cases h;unfold Eu;rw[hf _ _ h1];dsimp only;rw[Acw hf h2]
  ·cases h
theorem Ao4{d d':D}(h:fz1 d=some d')(n:Nat)(st:St):Sl (n+2) st d=some (d',st):=by
 cases d with
 |agg cs=>
  change fzR (Option D) fz0 cs (fun cs=>some (.agg cs)) none=some d' at h;rcases Xb (R:=Option D) (f:=fz0) (k:=fun cs=>some (.agg cs)) (bad:=none) cs with h1|⟨l',h1,h2⟩
  ·rw[h1]at h;cases h
  ·rw[h2]at h;cases h;unfold Sl;dsimp only;rw[Acw (fun d d' h=>A01 h n st) h1]
 |_=>first|(cases h;rfl)|(cases h)
theorem Ap2{l l':List D}(h:Eb fz1 l=some l')(st:St):Cw st l=some (l',st):=Acw (fun d d' h=>Ao4 h 7 st) h
theorem Du(st:St):Dn st st= []:=by
 unfold Dn;rw[List.filter_eq_nil_iff];intro id _;cases st[id]? with
 |none=>simp
 |some o=>cases o<;>simp
theorem A9z(d:D):scF d=R3 d:=by cases d<;>rfl
theorem A7n(d:D):scV d=Sn d:=by
 cases d with
 |tup ds=>show Asl scF ds=ds.all R3;rw[Aic,show scF=R3 from funext A9z]
 |_=>rfl
theorem A98(d:D):okC d=Al d:=by cases d<;>rfl
theorem Agk(d:D):Qu d=d.cells:=by cases d<;>rfl
theorem orB(x y:Bool):(@Bool.rec (fun _=>Bool) y true x)=(x || y):=by cases x<;>rfl
mutual
theorem Aip(n:Nat):∀(d:D),Azt n d=D8 n d
 | .undef| .int _ _| .bool _| .str _| .nilp| .nilsl| .nilmap| .nilfunc| .nilif=>by rfl
 | .ptr id _=>by exact Ep
 | .arr _ id _ _ _=>by exact Ep
 | .map id=>by exact Ep
 | .eptr cs=>by show _=F6 n cs;exact Vs n cs
 | .agg cs=>by show _=F6 n cs;exact Vs n cs
 | .tup cs=>by show _=F6 n cs;exact Vs n cs
 | .iface _ d=>by show _=D8 n d;exact Aip n d
 | .func _ a b=>by have h1:=Vs n a;have h2:=Vs n b;rw[D8,← h1,← h2];show(@Bool.rec (fun _=>Bool) _ true _)=_;exact orB _ _
 | .sl rows .none=>Aa8 n rows
 | .sl rows .exact=>Aa8 n rows
 | .sl rows (.tok id k)=>by have h1:=Aa8 n rows;rw[D8,← h1];show(@Bool.rec (fun _=>Bool) _ true (Nat.ble n id))=_;rw[Ep];exact orB _ _
theorem Vs(n:Nat):∀(l:List D),@D.rec_1.{1} (fun _=>Bool) (fun _=>Bool) (fun _=>Bool) false (fun _ _=>false) (fun _=>false) (fun _=>false) false (fun id _=>Nat.ble n id) (fun _ ih=>ih) false (fun _ gr ih=> @Bool.rec.{1} (fun _=>Bool) ih true (@Gr.rec.{1} (fun _=>Bool) false false (fun id _=>Nat.ble n id) gr)) (fun _ id _ _ _=>Nat.ble n id) false (fun id=>Nat.ble n id) false (fun _ _ _ a b=> @Bool.rec.{1} (fun _=>Bool) b true a) false (fun _ _ ih=>ih) (fun _ ih=>ih) (fun _ ih=>ih) false (fun _ _ a b=> @Bool.rec.{1} (fun _=>Bool) b true a) false (fun _ _ a b=> @Bool.rec.{1} (fun _=>Bool) b true a) l=F6 n l
 | []=>by rfl
 |d::l=>by have h1:=Aip n d;have h2:=Vs n l;rw[F6,← h1,← h2];show(@Bool.rec (fun _=>Bool) _ true (Azt n d))=_;cases Azt n d<;>rfl
theorem Aa8(n:Nat):∀(l:List (List D)),@D.rec_2.{1} (fun _=>Bool) (fun _=>Bool) (fun _=>Bool) false (fun _ _=>false) (fun _=>false) (fun _=>false) false (fun id _=>Nat.ble n id) (fun _ ih=>ih) false (fun _ gr ih=> @Bool.rec.{1} (fun _=>Bool) ih true (@Gr.rec.{1} (fun _=>Bool) false false (fun id _=>Nat.ble n id) gr)) (fun _ id _ _ _=>Nat.ble n id) false (fun id=>Nat.ble n id) false (fun _ _ _ a b=> @Bool.rec.{1} (fun _=>Bool) b true a) false (fun _ _ ih=>ih) (fun _ ih=>ih) (fun _ ih=>ih) false (fun _ _ a b=> @Bool.rec.{1} (fun _=>Bool) b true a) false (fun _ _ a b=> @Bool.rec.{1} (fun _=>Bool) b true a) l=Gt n l
 | []=>by rfl
 |d::l=>by have h1:=Vs n d;have h2:=Aa8 n l;rw[Gt,← h1,← h2];show(@Bool.rec (fun _=>Bool) _ true _)=_;exact orB _ _
end
def kN(k:IntKind):Nat:= @IntKind.rec.{1} (fun _=>Nat) 0 1 2 3 4 5 6 7 k
def kEq(a b:IntKind):Bool:=Nat.beq (kN a) (kN b)
theorem Atz{a b:IntKind}(h:kEq a b=true):a=b:=by cases a<;>cases b<;>first|rfl|(cases h)
def Ut(R:Type)(n:Int)(k m:Nat→R):R:= @Int.rec.{1} (fun _=>R) k m n
def iLt(x y:Int):Bool:=Ut Bool x (fun a=>Ut Bool y (fun b=>Nat.ble (Nat.succ a) b) (fun _=>false)) (fun a=>Ut Bool y (fun _=>true) (fun b=>Nat.ble (Nat.succ b) a))
def iEq(x y:Int):Bool:=Ut Bool x (fun a=>Ut Bool y (fun b=>Nat.beq a b) (fun _=>false)) (fun a=>Ut Bool y (fun _=>false) (fun b=>Nat.beq a b))
def nB(b:Bool):Bool:= @Bool.rec.{1} (fun _=>Bool) true false b
def Be2(x y:Int):Int:=Ut Int x (fun a=>Ut Int y (fun b=> .ofNat (Nat.add a b)) (fun b=>Int.add x y)) (fun a=>Int.add x y)
def Bdw(x y:Int):Int:=Ut Int x (fun a=>Ut Int y (fun b=> @Bool.rec.{1} (fun _=>Int) (.negSucc (Nat.sub (Nat.sub b a) 1)) (.ofNat (Nat.sub a b)) (Nat.ble b a)) (fun b=>Int.sub x y)) (fun a=>Int.sub x y)
def Agf(k:IntKind)(n:Int):Int:=
 @Bool.rec.{1} (fun _=>Int) (k.wrap n) (Ut Int n (fun a=> @Bool.rec.{1} (fun _=>Int) (k.wrap n) n (Nat.ble a 9223372036854775807)) (fun a=> @Bool.rec.{1} (fun _=>Int) (k.wrap n) n (Nat.ble a 9223372036854775807))) (Nat.beq (kN k) 3)
theorem Ahy(x y:Int):iLt x y=decide (x<y):=by cases x<;>cases y<;>simp only[iLt,Ut,Ep,Int.ofNat_eq_natCast,Int.negSucc_eq]<;>first|(rw[decide_eq_decide];omega)|(symm;rw[decide_eq_false_iff_not];omega)|(symm;rw[decide_eq_true_iff];omega)
theorem As4(x y:Int):iEq x y=decide (x=y):=by cases x<;>cases y<;>simp only[iEq,Ut,Ul,Int.ofNat_eq_natCast,Int.negSucc_eq]<;>first|(rw[decide_eq_decide];omega)|(symm;rw[decide_eq_false_iff_not];omega)
theorem A0u(x y:Int):Be2 x y=x+y:=by cases x<;>cases y<;>rfl
theorem A0m(x y:Int):Bdw x y=x - y:=by
 cases x with
 |ofNat a=>
  cases y with
  |ofNat b=>
   show @Bool.rec (fun _=>Int) (Int.negSucc (b - a - 1)) (Int.ofNat (a - b)) (Nat.ble b a)=_;rw[Ep];by_cases h:b≤a
   ·simp only[h,decide_true,Int.ofNat_eq_natCast];omega
   ·simp only[h,decide_false,Int.ofNat_eq_natCast,Int.negSucc_eq];omega
  |negSucc b=>rfl
 |negSucc a=>rfl
theorem Awt(k:IntKind)(n:Int):Agf k n=k.wrap n:=by
 unfold Agf;cases k with
 |i64=>
  have key:∀(n:Int),-9223372036854775808≤n→n≤9223372036854775807→n=IntKind.wrap .i64 n:=fun n h1 h2=>by
   show n=if(true && decide (n % 18446744073709551616≥9223372036854775808))=true then n % 18446744073709551616 - 18446744073709551616 else n % 18446744073709551616;by_cases h:n % 18446744073709551616≥9223372036854775808
   ·simp[h];omega
   ·simp[h];omega
  show Ut Int n _ _=_;cases n with
  |ofNat a=>
   show @Bool.rec (fun _=>Int) _ _ (Nat.ble a 9223372036854775807)=_;rw[Ep];by_cases h:a≤9223372036854775807
   ·simp only[h,decide_true];exact key _ (by first|(simp;omega)|(simp only[Int.ofNat_eq_natCast];omega)) (by first|(simp only[Int.ofNat_eq_natCast];omega))
   ·simp only[h,decide_false]
  |negSucc a=>
   show @Bool.rec (fun _=>Int) _ _ (Nat.ble a 9223372036854775807)=_;rw[Ep];by_cases h:a≤9223372036854775807
   ·simp only[h,decide_true];exact key _ (by first|(simp;omega)|(simp only[Int.negSucc_eq];omega)) (by first|(simp only[Int.negSucc_eq];omega))
   ·simp only[h,decide_false]
 |_=>rfl
end
noncomputable section
abbrev KQ:=D→FS→Cb→KR
abbrev QF:=Rt→FS→KQ→KR
abbrev LF:=FF→Rt→FS→KQ→KR
def Atu(l:List Obj):List Obj:= @List.rec.{1,0} Obj (fun _=>List Obj→List Obj) (fun a=>a) (fun x _ ih a=>ih (x::a)) l []
theorem Aoo(l:List Obj):Atu l=l.reverse:=by
 have key:∀(l a:List Obj),@List.rec.{1,0} Obj (fun _=>List Obj→List Obj) (fun a=>a) (fun x _ ih a=>ih (x::a)) l a=l.reverse++a:=by
  intro l;induction l with
  |nil=>intro a;rfl
  |cons x l ih=>intro a;show _=_;rw[List.reverse_cons,List.append_assoc];exact ih (x::a)
 unfold Atu;rw[key,List.append_nil]
def stF(s:FS):St:= @FS.rec.{1} (fun _=>St) (fun _ l=>Atu l) s
def Yn(st:St):FS:=⟨Uz st,Atu st⟩
theorem O1.stF{st:St}{s:FS}(h:O1 st s):stF s=st:=by rw[h.eq];show Atu st.reverse=st;rw[Aoo,List.reverse_reverse]
theorem Ada(st:St):O1 st (Yn st):=⟨Oe st,Aoo st⟩
def rdI(st:St):Fx→Cb
 | .rd ids=>ids
 | .al _=> [st.length]
def Af2(spec:Rj)(st:St)(F:KQ→KR):Prop:=∀κ,F κ= .bad∨∃v fx s',spec=some (v,fx)∧O1 (Dy st fx) s'∧F κ=κ v s' (rdI st fx)
def Ai9(spec:O9)(F:KQ→KR):Prop:=∀κ,F κ= .bad∨∃v st' V s',spec=some (v,st',V)∧O1 st' s'∧F κ=κ v s' V
structure In(L:Nat)(e:Env)(t:Rt)(st:St)(s:FS):Prop where
 len:e.length=L
 rel:Rel e t
 fs:O1 st s
def Qt(L:Nat)(x:Operand)(g:Rt→D):Prop:=∀e t,e.length=L→Rel e t→g t=ev e x
def Lv(P:Program)(h:Bool)(L:Nat)(o:Oper)(f:QF):Prop:=∀e t st s,In L e t st s→Af2 (Af P h o (ev e) st) st (f t s)
def CfR(cfF:FF)(cf:Ah):Prop:=∀f args st s,O1 st s→cfF f args s= .bad∨∃v st' s' W,cf f args st=some (v,st',W)∧O1 st' s'∧cfF f args s= .ok v s' W
def Ai3(C:Eo)(h:Bool)(L:Nat)(o:Oper)(f:LF):Prop:=∀cfF cf,CfR cfF cf→∀e t st s,In L e t st s→Ai9 (Bj C h cf o (ev e) st) (f cfF t s)
theorem Pk{d:D}{k:IntKind→Int→KR}:Ah2 d k= .bad∨∃a n,d= .int a n∧Ah2 d k=k a n:=by cases d<;>first|exact .inl rfl|exact .inr ⟨_,_,rfl,rfl⟩
theorem Um{d:D}{k:List UInt8→KR}:Ald d k= .bad∨∃a,d= .str a∧Ald d k=k a:=by cases d<;>first|exact .inl rfl|exact .inr ⟨_,rfl,rfl⟩
theorem Aby{d:D}{k:Bool→KR}:Apv d k= .bad∨∃a,d= .bool a∧Apv d k=k a:=by cases d<;>first|exact .inl rfl|exact .inr ⟨_,rfl,rfl⟩
theorem Zb{d:D}{k:Nat→Nat→KR}{ke:List D→KR}:Ar9 d k ke= .bad∨(∃a n,d= .ptr a n∧Ar9 d k ke=k a n)∨∃cs,d= .eptr cs∧Ar9 d k ke=ke cs:=by cases d<;>first|exact .inl rfl|exact .inr (.inl ⟨_,_,rfl,rfl⟩)|exact .inr (.inr ⟨_,rfl,rfl⟩)
theorem Aln{d:D}{k0:KR}{k:List (List D)→KR}{ka:Nat→Nat→Nat→Nat→KR}:vSl d k0 k ka= .bad∨(d= .nilsl∧vSl d k0 k ka=k0)∨(∃rows gr,d= .sl rows gr∧vSl d k0 k ka=k rows)∨∃a b c l m,d= .arr a b c l m∧vSl d k0 k ka=ka a b c l:=by cases d<;>first|exact .inl rfl|exact .inr (.inl ⟨rfl,rfl⟩)|exact .inr (.inr (.inl ⟨_,_,rfl,rfl⟩))|exact .inr (.inr (.inr ⟨_,_,_,_,_,rfl,rfl⟩))
theorem Arb{d:D}{k:List D→KR}:A97 d k= .bad∨∃a,d= .tup a∧A97 d k=k a:=by cases d<;>first|exact .inl rfl|exact .inr ⟨_,rfl,rfl⟩
theorem Ams{d:D}{k:FuncId→List D→List D→KR}:Axx d k= .bad∨∃f a b,d= .func f a b∧Axx d k=k f a b:=by cases d<;>first|exact .inl rfl|exact .inr ⟨_,_,_,rfl,rfl⟩
theorem Ax2{d:D}{k:KR}:vNc d k= .bad∨(((∃a n,d= .ptr a n)∨(∃cs,d= .eptr cs)∨∃f a b,d= .func f a b)∧vNc d k=k):=by cases d<;>first|exact .inl rfl|exact .inr ⟨.inl ⟨_,_,rfl⟩,rfl⟩|exact .inr ⟨.inr (.inl ⟨_,rfl⟩),rfl⟩|exact .inr ⟨.inr (.inr ⟨_,_,_,rfl⟩),rfl⟩
theorem Akc{d:D}{k:KR}:Amu d k= .bad∨(d.known=true∧Amu d k=k):=by cases d<;>first|exact .inl rfl|exact .inr ⟨rfl,rfl⟩
def Av9(o:Obj)(k:List D→KR):KR:= @Obj.rec.{1} (fun _=>KR) (fun cs=>k cs) (fun cs=>k cs) (fun _=> .bad) (fun _=> .bad) (fun _ _=> .bad) .bad o
def Ba9(o:Obj)(k:List D→KR):KR:= @Obj.rec.{1} (fun _=>KR) (fun cs=>k cs) (fun _=> .bad) (fun _=> .bad) (fun _=> .bad) (fun _ _=> .bad) .bad o
def tkv(n:Nat)(agg:Bool)(cs:List D)(off:Nat)(k:D→KR):KR:=
 @Bool.rec.{1} (fun _=>KR) (Ma KR cs off k .bad) (@Bool.rec.{1} (fun _=>KR) .bad (k (.agg (Agi (U9 cs off) n))) (Nat.ble (Nat.add off n) (Uz cs))) agg
theorem Akz{P:Program}{t:TypeId}{n:Nat}{agg:Bool}{cs:List D}{off:Nat}{k:D→KR}(h1:Bw P t=some n)(h2:(P.underlying t).isSome=true)(h3:Jg P t=agg)(h4:agg=false→n=1):
  tkv n agg cs off k= .bad∨∃v,Dk P t cs off=some v∧tkv n agg cs off k=k v:=by
 unfold Dk;rw[h1];dsimp only;cases agg with
 |false=>
  have hn:=h4 rfl;subst hn;show Ma KR cs off k .bad= .bad∨∃v,_∧Ma KR cs off k .bad=k v;rw[Jk];cases hc:cs[off]? with
  |none=>exact .inl rfl
  |some v=>have hl:=(List.getElem?_eq_some_iff.1 hc).1;exact .inr ⟨v,by simp[h2,h3,show off+1≤cs.length from hl],rfl⟩
 |true=>
  show @Bool.rec (fun _=>KR) .bad (k (.agg (Agi (U9 cs off) n))) (Nat.ble (off+n) (Uz cs))= .bad∨∃v,_∧ @Bool.rec (fun _=>KR) .bad (k (.agg (Agi (U9 cs off) n))) (Nat.ble (off+n) (Uz cs))=k v;rw[Ep,Oe,Ad5,Rw];by_cases hl:off+n≤cs.length
  ·refine .inr ⟨.agg ((cs.drop off).take n),by simp[h2,h3,hl],by simp[hl]⟩
  ·exact .inl (by simp[hl])
def fLd(n:Nat)(agg:Bool)(g:Rt→D):QF:=fun t s κ=>Ar9 (g t) (fun id off=>Aau KR s id (fun o=>Av9 o fun cs=>tkv n agg cs off fun v=>κ v s [id]) .bad) (fun cs=>tkv n agg cs 0 fun v=>κ v s [])
theorem Axy{P:Program}{ty:TypeId}{n:Nat}{agg:Bool}{g:Rt→D}{t:Rt}{st:St}{s:FS}(hs:O1 st s)(h1:Bw P ty=some n)(h2:(P.underlying ty).isSome=true)(h3:Jg P ty=agg)(h4:agg=false→n=1):
  Af2 (Fp P ty (g t) st) st (fLd n agg g t s):=by
 intro κ;unfold fLd;rcases Zb (d:=g t) (k:=fun id off=>Aau KR s id (fun o=>Av9 o fun cs=>tkv n agg cs off fun v=>κ v s [id]) .bad) (ke:=fun cs=>tkv n agg cs 0 fun v=>κ v s [])with h|⟨id,off,hd,h⟩|⟨cs,hd,h⟩
 ·exact .inl h
 ·rw[h,hd,Tw hs];unfold Fp;dsimp only;cases ho:st[id]? with
  |none=>exact .inl rfl
  |some o=>
   have key:∀cs:List D,tkv n agg cs off (fun v=>κ v s [id])= .bad∨∃v fx s',(Dk P ty cs off).map (fun v=>(v,Fx.rd [id]))=some (v,fx)∧O1 (Dy st fx) s'∧tkv n agg cs off (fun v=>κ v s [id])=κ v s' (rdI st fx):=fun cs=>by
    rcases Akz (cs:=cs) (off:=off) (k:=fun v=>κ v s [id]) h1 h2 h3 h4 with h|⟨v,h5,h6⟩
    ·exact .inl h
    ·exact .inr ⟨v,.rd [id],s,by rw[h5];rfl,hs,h6⟩
   cases o with
   |cells cs=>exact key cs
   |fcells cs=>exact key cs
   |_=>exact .inl rfl
 ·rw[h,hd];rcases Akz (cs:=cs) (off:=0) (k:=fun v=>κ v s []) h1 h2 h3 h4 with h|⟨v,h5,h6⟩
  ·exact .inl h
  ·exact .inr ⟨v,.rd [],s,by unfold Fp;simp[h5],hs,h6⟩
def fPk(gc ga gb:Rt→D):QF:=fun t s κ=>Apv (gc t) fun b=> @Bool.rec.{1} (fun _=>KR) (κ (gb t) s []) (κ (ga t) s []) b
def fAl(cs:List D):QF:=fun _ s κ=>κ (.ptr s.n 0) (Po s (.cells cs)) [s.n]
def fBx(g:Rt→D):QF:=fun t s κ=>Amu (g t) (κ (.ptr s.n 0) (Po s (.cells (Qu (g t)))) [s.n])
def fFa(off:Nat)(g:Rt→D):QF:=fun t s κ=>Ar9 (g t) (fun id o=>κ (.ptr id (Nat.add o off)) s []) (fun cs=>κ (.eptr (U9 cs off)) s [])
def Avj(d:D)(k:Nat→KR):KR:=Ah2 d fun _ n=>Ut KR n k (fun _=> .bad)
theorem Af6{d:D}{k:Nat→KR}:Avj d k= .bad∨∃n,E5 d=some n∧Avj d k=k n:=by
 unfold Avj;rcases Pk (d:=d) (k:=fun _ n=>Ut KR n k (fun _=> .bad))with h|⟨a,n,rfl,h⟩
 ·exact .inl h
 ·rw[h];cases n with
  |ofNat m=>exact .inr ⟨m,by simp[E5],rfl⟩
  |negSucc m=>exact .inl rfl
def fIa(sz:Nat)(gx gi:Rt→D):QF:=fun t s κ=>Avj (gi t) fun n=>
 vSl (gx t) .bad (fun rows=>Ma KR rows n (fun r=> @Bool.rec.{1} (fun _=>KR) .bad (κ (.eptr r) s []) (Nat.beq (Uz r) sz)) .bad)
  (fun sz' id off len=> @Bool.rec.{1} (fun _=>KR) .bad (@Bool.rec.{1} (fun _=>KR) .bad (κ (.ptr id (Nat.add off (Nat.mul n sz'))) s []) (Nat.beq sz' sz)) (Nat.ble (Nat.succ n) len))
def fIx(gx gi:Rt→D):QF:=fun t s κ=>Avj (gi t) fun n=>Ald (gx t) fun b=>Ma KR b n (fun c=>κ (.int .u8 (.ofNat c.toNat)) s []) .bad
def A82(g:Rt→D):QF:=fun t s κ=>Ald (g t) fun b=>κ (.int .i64 (.ofNat (Uz b))) s []
def Bax(g:Rt→D):QF:=fun t s κ=>vSl (g t) (κ (.int .i64 (.ofNat 0)) s []) (fun rows=>κ (.int .i64 (.ofNat (Uz rows))) s []) (fun _ _ _ len=>κ (.int .i64 (.ofNat len)) s [])
def fEx(g:Rt→D)(i:Nat):QF:=fun t s κ=>A97 (g t) fun ds=>Ma KR ds i (fun v=>κ v s []) .bad
def Bbp(g:Rt→D):QF:=fun t s κ=>Apv (g t) fun b=>κ (.bool (nB b)) s []
def fNc(g:Rt→D):QF:=fun t s κ=>vNc (g t) (κ (g t) s [])
def A8i(c:Int→Int→Bool)(gx gy:Rt→D):QF:=fun t s κ=>Ah2 (gx t) fun kx x=>Ah2 (gy t) fun ky y=> @Bool.rec.{1} (fun _=>KR) .bad (κ (.bool (c x y)) s []) (kEq kx ky)
def fAr(c:Int→Int→Int)(gx gy:Rt→D):QF:=fun t s κ=>Ah2 (gx t) fun kx x=>Ah2 (gy t) fun ky y=> @Bool.rec.{1} (fun _=>KR) .bad (κ (.int kx (Agf kx (c x y))) s []) (kEq kx ky)
def A4j(b:Bool)(gx gy:Rt→D):QF:=fun t s κ=>Ald (gx t) fun x=>Ald (gy t) fun y=>κ (.bool (@Bool.rec.{1} (fun _=>Bool) (nB (Ai8 x y)) (Ai8 x y) b)) s []
def Ahk(r:Rj)(s:FS)(κ:KQ):KR:=
 @Option.rec.{1,0} (D × Fx) (fun _=>KR) .bad (fun p=> @Prod.rec.{1,0,0} D Fx (fun _=>KR) (fun v fx=> @Fx.rec.{1} (fun _=>KR) (fun ids=>κ v s ids) (fun o=>κ v (Po s o) [s.n]) fx) p) r
theorem V8{r:Rj}{st:St}{s:FS}(hs:O1 st s):Af2 r st (Ahk r s):=by
 intro κ
 match r with
 |none=>exact .inl rfl
 |some (v,.rd ids)=>exact .inr ⟨v,.rd ids,s,rfl,hs,rfl⟩
 |some (v,.al o)=>exact .inr ⟨v,.al o,Po s o,rfl,Aa4 hs o,by show κ v (Po s o) [s.n]=_;rw[hs.1];rfl⟩
def Aqm(P:Program)(ty:TypeId)(ok:Bool)(gm gk:Rt→D):QF:=fun t s κ=>match Aar P ty,gm t with
 |some (kt,et),.map id=>if Xo P kt (gk t)then Aau KR s id (fun o=>match o with
   | .map es=>match Jc P kt (gk t) es 0 with
    |some (some (_,v))=>κ (if ok then .tup [v,.bool true]else v) s [id]
    |some none=>match Xn P et with
     |some z=>κ (if ok then .tup [z,.bool false]else z) s [id]
     |none=> .bad
    |none=> .bad
   |_=> .bad) .bad else .bad
 |_,_=>Ahk (Io P ty (gm t) (gk t) ok (stF s)) s κ
theorem Anm{P:Program}{ty:TypeId}{ok:Bool}{gm gk:Rt→D}{t:Rt}{st:St}{s:FS}(hs:O1 st s):Af2 (Io P ty (gm t) (gk t) ok st) st (Aqm P ty ok gm gk t s):=by
 intro κ;unfold Aqm;split
 ·rename_i kt et id hmt hm;unfold Io;rw[hmt,hm];dsimp only;by_cases hk:Xo P kt (gk t)=true
  ·rw[if_pos hk,if_pos hk,Tw hs];cases ho:st[id]? with
   |none=>exact .inl rfl
   |some o=>
    cases o<;>first|exact .inl rfl|skip
    rename_i es;dsimp only;cases Jc P kt (gk t) es 0 with
    |none=>exact .inl rfl
    |some q=>
     cases q with
     |none=>
      dsimp only;cases Xn P et with
      |none=>exact .inl rfl
      |some z=>exact .inr ⟨_,.rd [id],s,rfl,hs,rfl⟩
     |some q=>obtain⟨i,x⟩:=q;exact .inr ⟨_,.rd [id],s,rfl,hs,rfl⟩
  ·rw[if_neg hk];exact .inl rfl
 ·rw[hs.stF];exact V8 hs κ
def evT(L:Nat)(t:Rt)(x:Operand):D:=
 @Operand.rec.{1} (fun _=>D) (fun i=> @Bool.rec.{1} (fun _=>D) .undef (Auj i D (fun g=>g t) .undef) (Nat.ble (Nat.succ i) L)) (fun v=>Ak v) (fun _=> .undef) (fun f=> .func f [] []) x
theorem Au6{L:Nat}{e:Env}{t:Rt}(hl:e.length=L)(h:Rel e t):evT L t=ev e:=by
 funext x;cases x with
 |tmp i=>
  show @Bool.rec (fun _=>D) .undef (Auj i D (fun g=>g t) .undef) (Nat.ble (Nat.succ i) L)=e.getD i .undef;rw[Ep];have hL:L≤256:=hl ▸ h.lt;by_cases hi:i<L
  ·rw[decide_eq_true (show Nat.succ i≤L from hi),Ao6 (Nat.lt_of_lt_of_le hi hL)];exact(h.get i (by rw[hl];exact hi)).symm
  ·rw[decide_eq_false (show ¬ Nat.succ i≤L from hi),List.getD_eq_getElem?_getD,List.getElem?_eq_none (by rw[hl];exact Nat.le_of_not_lt hi)]
   rfl
 |const v=>rfl
 |global n=>rfl
 |func f=>rfl
def fOp(P:Program)(h:Bool)(L:Nat)(o:Oper):QF:=fun t s κ=>Ahk (Af P h o (evT L t) (stF s)) s κ
theorem Bbi(P:Program)(h:Bool)(L:Nat)(o:Oper):Lv P h L o (fOp P h L o):=by intro e t st s hI;unfold fOp;rw[Au6 hI.len hI.rel,hI.fs.stF];exact V8 hI.fs
section
variable{P:Program}{h:Bool}{L:Nat}{dst:Option Tmp}{ty:TypeId}{pos:String}{af:Array Edge}{gd:Option (Nat × Bool)}
theorem Au7{u:TypeId}{ok:Bool}{m k:Operand}{gm gk:Rt→D}(hm:Qt L m gm)(hk:Qt L k gk):Lv P h L ⟨dst,.lookup u m k ok,ty,pos,af,gd⟩ (Aqm P u ok gm gk):=by intro e t st s hI;unfold Af;dsimp only;rw[← hm e t hI.len hI.rel,← hk e t hI.len hI.rel];exact Anm hI.fs
theorem Af2.pure{spec:Rj}{st:St}{s:FS}{F:KQ→KR}(hs:O1 st s)(h:∀κ,F κ= .bad∨∃v,spec=some (v,.pure)∧F κ=κ v s []):Af2 spec st F:=fun κ=>by
 rcases h κ with h|⟨v,h1,h2⟩
 ·exact .inl h
 ·exact .inr ⟨v,.pure,s,h1,hs,h2⟩
theorem Bcd{c a b:Operand}{gc ga gb:Rt→D}(hc:Qt L c gc)(ha:Qt L a ga)(hb:Qt L b gb):Lv P h L ⟨dst,.pick c a b,ty,pos,af,gd⟩ (fPk gc ga gb):=by
 intro e t st s hI;refine .pure hI.fs fun κ=>?_;unfold fPk Af;dsimp only;rw[← hc e t hI.len hI.rel,← ha e t hI.len hI.rel,← hb e t hI.len hI.rel];rcases Aby (d:=gc t) (k:=fun b=> @Bool.rec.{1} (fun _=>KR) (κ (gb t) s []) (κ (ga t) s []) b)with h|⟨b,hd,h⟩
 ·exact .inl h
 ·rw[h,hd];cases b with
  |false=>exact .inr ⟨_,rfl,rfl⟩
  |true=>exact .inr ⟨_,rfl,rfl⟩
theorem A9a{u:TypeId}{cs:List D}(hz:zeroOf P u=some cs):Lv P h L ⟨dst,.alloc u,ty,pos,af,gd⟩ (fAl cs):=by
 intro e t st s hI κ;refine .inr ⟨.ptr st.length 0,.al (.cells cs),Po s (.cells cs),?_,Aa4 hI.fs _,?_⟩
 ·unfold Af;simp[hz]
 ·unfold fAl;rw[hI.fs.1];rfl
theorem A8w{u:TypeId}{x:Operand}{g:Rt→D}(hx:Qt L x g):Lv P h L ⟨dst,.box u x,ty,pos,af,gd⟩ (fBx g):=by
 intro e t st s hI κ;unfold fBx Af;dsimp only;rw[← hx e t hI.len hI.rel];rcases Akc (d:=g t) (k:=κ (.ptr s.n 0) (Po s (.cells (Qu (g t)))) [s.n])with h|⟨h1,h2⟩
 ·exact .inl h
 ·refine .inr ⟨.ptr st.length 0,.al (.cells (g t).cells),Po s (.cells (g t).cells),by simp[h1],Aa4 hI.fs _,?_⟩
  rw[h2,hI.fs.1,Agk];rfl
theorem A6x{u:TypeId}{x:Operand}{g:Rt→D}{f:Nat}{fs:Array Field}{fd:Field}{n:Nat}(hx:Qt L x g)(h1:P.underlying u=some (.struct fs))(h2:fs[f]?=some fd)(h3:Bw P fd.type=some n)(h4:n≠0):
  Lv P h L ⟨dst,.fieldAddr u x f,ty,pos,af,gd⟩ (fFa fd.offset g):=by
 intro e t st s hI;refine .pure hI.fs fun κ=>?_;unfold fFa Af Eh;dsimp only;rw[← hx e t hI.len hI.rel,h1];dsimp only;rw[h2];dsimp only;rw[h3];dsimp only;rw[if_neg h4];rcases Zb (d:=g t) (k:=fun id o=>κ (.ptr id (Nat.add o fd.offset)) s []) (ke:=fun cs=>κ (.eptr (U9 cs fd.offset)) s [])with h|⟨id,o,hd,h⟩|⟨cs,hd,h⟩
 ·exact .inl h
 ·rw[h,hd];exact .inr ⟨_,rfl,rfl⟩
 ·rw[h,hd];exact .inr ⟨_,rfl,by rw[Rw]⟩
theorem A8z{u el:TypeId}{x i:Operand}{gx gi:Rt→D}{sz:Nat}(hx:Qt L x gx)(hi:Qt L i gi)(h1:P.underlying u=some (.slice el))(h2:Bw P el=some sz):
  Lv P h L ⟨dst,.indexAddr u x i,ty,pos,af,gd⟩ (fIa sz gx gi):=by
 intro e t st s hI;refine .pure hI.fs fun κ=>?_;unfold fIa Af Cf;dsimp only;rw[← hx e t hI.len hI.rel,← hi e t hI.len hI.rel,h1];generalize hF:(fun n=>vSl (gx t) .bad (fun rows=>Ma KR rows n (fun r=> @Bool.rec.{1} (fun _=>KR) .bad (κ (.eptr r) s []) (Nat.beq (Uz r) sz)) .bad)
  (fun sz' id off len=> @Bool.rec.{1} (fun _=>KR) .bad (@Bool.rec.{1} (fun _=>KR) .bad (κ (.ptr id (Nat.add off (Nat.mul n sz'))) s []) (Nat.beq sz' sz)) (Nat.ble (Nat.succ n) len)))=F
 rcases Af6 (d:=gi t) (k:=F)with h|⟨n,hn,h⟩
 ·exact .inl h
 rw[h,hn];subst hF;dsimp only;rcases Aln (d:=gx t) (k0:= .bad) (k:=fun rows=>Ma KR rows n (fun r=> @Bool.rec.{1} (fun _=>KR) .bad (κ (.eptr r) s []) (Nat.beq (Uz r) sz)) .bad)
  (ka:=fun sz' id off len=> @Bool.rec.{1} (fun _=>KR) .bad (@Bool.rec.{1} (fun _=>KR) .bad (κ (.ptr id (Nat.add off (Nat.mul n sz'))) s []) (Nat.beq sz' sz)) (Nat.ble (Nat.succ n) len))with h|⟨hd,h⟩|⟨rows,gr,hd,h⟩|⟨a,b,c,l,m,hd,h⟩
 ·exact .inl h
 ·exact .inl h
 ·rw[h,hd,Jk];dsimp only;cases hr:rows[n]? with
  |none=>exact .inl rfl
  |some r=>
   dsimp only;rw[Ul,Oe,h2];by_cases hz:r.length=sz
   ·refine .inr ⟨.eptr r,by simp[hz],by simp[hz]⟩
   ·exact .inl (by simp[hz])
 ·rw[h,hd,Ep,Ul];dsimp only;rw[h2];by_cases h3:n<l
  ·by_cases h4:a=sz
   ·subst h4;refine .inr ⟨.ptr b (c+n*a),by simp[h3],?_⟩
    rw[decide_eq_true (show Nat.succ n≤l from h3)];simp
   ·exact .inl (by rw[decide_eq_false h4];cases decide (Nat.succ n≤l)<;>rfl)
  ·exact .inl (by rw[decide_eq_false (show ¬ Nat.succ n≤l from h3)])
theorem Bcn{u:TypeId}{x i:Operand}{gx gi:Rt→D}(hx:Qt L x gx)(hi:Qt L i gi)(h1:P.underlying u=some .string):
  Lv P h L ⟨dst,.index u x i,ty,pos,af,gd⟩ (fIx gx gi):=by
 intro e t st s hI;refine .pure hI.fs fun κ=>?_;unfold fIx Af Qa;dsimp only;rw[← hx e t hI.len hI.rel,← hi e t hI.len hI.rel,h1];rcases Af6 (d:=gi t) (k:=fun n=>Ald (gx t) fun b=>Ma KR b n (fun c=>κ (.int .u8 (.ofNat c.toNat)) s []) .bad)with h|⟨n,hn,h⟩
 ·exact .inl h
 rw[h,hn];dsimp only;rcases Um (d:=gx t) (k:=fun b=>Ma KR b n (fun c=>κ (.int .u8 (.ofNat c.toNat)) s []) .bad)with h|⟨b,hd,h⟩
 ·exact .inl h
 rw[h,hd,Jk];dsimp only;cases hr:b[n]? with
 |none=>exact .inl rfl
 |some r=>exact .inr ⟨_,rfl,rfl⟩
theorem A1i{u:TypeId}{x:Operand}{ts:Array TypeId}{g:Rt→D}{as:Array Operand}(hx:Qt L x g)(ha:as.toList= [x])(h0:ts.toList.head?=some u)(h1:P.underlying u=some .string):
  Lv P h L ⟨dst,.call {callee:= .builtin .len,args:=as,argTypes:=ts},ty,pos,af,gd⟩ (A82 g):=by
 intro e t st s hI;refine .pure hI.fs fun κ=>?_;unfold A82 Af;dsimp only;rw[ha]
 match hts:ts.toList,h0 with
 |u'::rest,h0=>
  simp only[List.head?_cons,Option.some.injEq]at h0;subst h0;unfold Aj Ny;rw[hts];simp only[MC];rw[← hx e t hI.len hI.rel,h1];rcases Um (d:=g t) (k:=fun b=>κ (.int .i64 (.ofNat (Uz b))) s [])with h|⟨b,hd,h⟩
  ·exact .inl h
  ·rw[h,hd,Oe];exact .inr ⟨_,rfl,rfl⟩
theorem A4u{u el:TypeId}{x:Operand}{ts:Array TypeId}{g:Rt→D}{as:Array Operand}(hx:Qt L x g)(ha:as.toList= [x])(h0:ts.toList.head?=some u)(h1:P.underlying u=some (.slice el)):
  Lv P h L ⟨dst,.call {callee:= .builtin .len,args:=as,argTypes:=ts},ty,pos,af,gd⟩ (Bax g):=by
 intro e t st s hI;refine .pure hI.fs fun κ=>?_;unfold Bax Af;dsimp only;rw[ha]
 match hts:ts.toList,h0 with
 |u'::rest,h0=>
  simp only[List.head?_cons,Option.some.injEq]at h0;subst h0;unfold Aj Ny;rw[hts];simp only[MC];rw[← hx e t hI.len hI.rel,h1];rcases Aln (d:=g t) (k0:=κ (.int .i64 (.ofNat 0)) s []) (k:=fun rows=>κ (.int .i64 (.ofNat (Uz rows))) s []) (ka:=fun _ _ _ len=>κ (.int .i64 (.ofNat len)) s [])with h|⟨hd,h⟩|⟨rows,gr,hd,h⟩|⟨a,b,c,l,m,hd,h⟩
  ·exact .inl h
  ·rw[h,hd];exact .inr ⟨_,rfl,rfl⟩
  ·rw[h,hd,Oe];exact .inr ⟨_,rfl,rfl⟩
  ·rw[h,hd];exact .inr ⟨_,rfl,rfl⟩
theorem A7j{x:Operand}{g:Rt→D}{i:Nat}(hx:Qt L x g):Lv P h L ⟨dst,.extract x i,ty,pos,af,gd⟩ (fEx g i):=by
 intro e t st s hI;refine .pure hI.fs fun κ=>?_;unfold fEx Af;dsimp only;rw[← hx e t hI.len hI.rel];rcases Arb (d:=g t) (k:=fun ds=>Ma KR ds i (fun v=>κ v s []) .bad)with h|⟨ds,hd,h⟩
 ·exact .inl h
 rw[h,hd,Jk];dsimp only;cases ds[i]? with
 |none=>exact .inl rfl
 |some v=>exact .inr ⟨_,rfl,rfl⟩
theorem A4y{x:Operand}{g:Rt→D}{u:TypeId}(hx:Qt L x g):Lv P h L ⟨dst,.unOp .not u x,ty,pos,af,gd⟩ (Bbp g):=by
 intro e t st s hI;refine .pure hI.fs fun κ=>?_;unfold Bbp Af Gc;dsimp only;rw[← hx e t hI.len hI.rel];rcases Aby (d:=g t) (k:=fun b=>κ (.bool (nB b)) s [])with h|⟨b,hd,h⟩
 ·exact .inl h
 rw[h,hd];exact .inr ⟨_,rfl,by cases b<;>rfl⟩
theorem Bat{x:Operand}{g:Rt→D}(hx:Qt L x g):Lv P h L ⟨dst,.nilCheck x,ty,pos,af,gd⟩ (fNc g):=by
 intro e t st s hI;refine .pure hI.fs fun κ=>?_;unfold fNc Af;dsimp only;rw[← hx e t hI.len hI.rel];rcases Ax2 (d:=g t) (k:=κ (g t) s [])with h|⟨⟨a,n,hd⟩|⟨cs,hd⟩|⟨f,a,b,hd⟩,h⟩
 ·exact .inl h
 ·rw[h,hd];exact .inr ⟨_,rfl,rfl⟩
 ·rw[h,hd];exact .inr ⟨_,rfl,rfl⟩
 ·rw[h,hd];exact .inr ⟨_,rfl,rfl⟩
def A28:BinOp→Option (Int→Int→Bool)
 | .eql=>some iEq
 | .neq=>some fun x y=>nB (iEq x y)
 | .lss=>some iLt
 | .leq=>some fun x y=>nB (iLt y x)
 | .gtr=>some fun x y=>iLt y x
 | .geq=>some fun x y=>nB (iLt x y)
 |_=>none
theorem Aon(b:Bool):nB b=!b:=by cases b<;>rfl
theorem A3v{op:BinOp}{c:Int→Int→Bool}(hc:A28 op=some c){k:IntKind}{u:TypeId}(x y:Int):Bo P op u (.int k x) (.int k y)=some (.bool (c x y)):=by
 unfold A28 at hc;split at hc<;>first|cases hc|skip
 all_goals
  unfold Bo;dsimp only;rw[if_pos rfl];simp only[Op.intCmp,Ai]
  first
  |(rw[As4];rfl)
  |(rw[Aon,As4];rfl)
  |(rw[Ahy];rfl)
  |(rw[Ahy];done)
  |(rw[Aon,Ahy,← decide_not,show(decide ¬ (y<x))=decide (x≤y)from by rw[decide_eq_decide];omega];rfl)
  |(rw[Aon,Ahy,← decide_not,show(decide ¬ (x<y))=decide (x≥y)from by rw[decide_eq_decide];omega];rfl)
theorem A1o{op:BinOp}{c:Int→Int→Bool}(hc:A28 op=some c){u v:TypeId}{x y:Operand}{gx gy:Rt→D}(hx:Qt L x gx)(hy:Qt L y gy):Lv P h L ⟨dst,.binOp op u x y v,ty,pos,af,gd⟩ (A8i c gx gy):=by
 intro e t st s hI;refine .pure hI.fs fun κ=>?_;unfold A8i Af;dsimp only;rw[← hx e t hI.len hI.rel,← hy e t hI.len hI.rel];rcases Pk (d:=gx t) (k:=fun kx x=>Ah2 (gy t) fun ky y=> @Bool.rec.{1} (fun _=>KR) .bad (κ (.bool (c x y)) s []) (kEq kx ky))with h|⟨a,n,hd,h⟩
 ·exact .inl h
 rw[h,hd];rcases Pk (d:=gy t) (k:=fun ky y=> @Bool.rec.{1} (fun _=>KR) .bad (κ (.bool (c n y)) s []) (kEq a ky))with h|⟨b,m,hd,h⟩
 ·exact .inl h
 rw[h,hd];cases hk:kEq a b with
 |false=>exact .inl rfl
 |true=>have:=Atz hk;subst this;dsimp only;rw[A3v hc];exact .inr ⟨_,rfl,rfl⟩
def arF:BinOp→Option (Int→Int→Int)
 | .add=>some Be2
 | .sub=>some Bdw
 |_=>none
theorem Bal{op:BinOp}{c:Int→Int→Int}(hc:arF op=some c){k:IntKind}{u:TypeId}(x y:Int):Bo P op u (.int k x) (.int k y)=some (.int k (Agf k (c x y))):=by
 unfold arF at hc;split at hc<;>first|cases hc|skip
 all_goals
  unfold Bo;dsimp only;rw[if_pos rfl];simp only[Op.intArith,Ai,Awt]
  first
  |(rw[A0u];rfl)
  |(rw[A0m];rfl)
theorem Bak{op:BinOp}{c:Int→Int→Int}(hc:arF op=some c){u v:TypeId}{x y:Operand}{gx gy:Rt→D}(hx:Qt L x gx)(hy:Qt L y gy):Lv P h L ⟨dst,.binOp op u x y v,ty,pos,af,gd⟩ (fAr c gx gy):=by
 intro e t st s hI;refine .pure hI.fs fun κ=>?_;unfold fAr Af;dsimp only;rw[← hx e t hI.len hI.rel,← hy e t hI.len hI.rel];rcases Pk (d:=gx t) (k:=fun kx x=>Ah2 (gy t) fun ky y=> @Bool.rec.{1} (fun _=>KR) .bad (κ (.int kx (Agf kx (c x y))) s []) (kEq kx ky))with h|⟨a,n,hd,h⟩
 ·exact .inl h
 rw[h,hd];rcases Pk (d:=gy t) (k:=fun ky y=> @Bool.rec.{1} (fun _=>KR) .bad (κ (.int a (Agf a (c n y))) s []) (kEq a ky))with h|⟨b,m,hd,h⟩
 ·exact .inl h
 rw[h,hd];cases hk:kEq a b with
 |false=>exact .inl rfl
 |true=>have:=Atz hk;subst this;dsimp only;rw[Bal hc];exact .inr ⟨_,rfl,rfl⟩
theorem Apy{op:BinOp}{b:Bool}(hb:(op= .eql∧b=true)∨(op= .neq∧b=false)){u v:TypeId}{x y:Operand}{gx gy:Rt→D}(hx:Qt L x gx)(hy:Qt L y gy):Lv P h L ⟨dst,.binOp op u x y v,ty,pos,af,gd⟩ (A4j b gx gy):=by
 intro e t st s hI;refine .pure hI.fs fun κ=>?_;unfold A4j Af;dsimp only;rw[← hx e t hI.len hI.rel,← hy e t hI.len hI.rel];rcases Um (d:=gx t) (k:=fun x=>Ald (gy t) fun y=>κ (.bool (@Bool.rec.{1} (fun _=>Bool) (nB (Ai8 x y)) (Ai8 x y) b)) s [])with h|⟨p,hd,h⟩
 ·exact .inl h
 rw[h,hd];rcases Um (d:=gy t) (k:=fun y=>κ (.bool (@Bool.rec.{1} (fun _=>Bool) (nB (Ai8 p y)) (Ai8 p y) b)) s [])with h|⟨q,hd,h⟩
 ·exact .inl h
 rw[h,hd,Ap9,Aon];rcases hb with⟨rfl,rfl⟩|⟨rfl,rfl⟩
 ·exact .inr ⟨_,rfl,rfl⟩
 ·exact .inr ⟨_,rfl,rfl⟩
end
end
noncomputable section
def Ad1(r:O9)(κ:KQ):KR:=
 @Option.rec.{1,0} (D × St × Cb) (fun _=>KR) .bad (fun p=> @Prod.rec.{1,0,0} D (St × Cb) (fun _=>KR) (fun v q=> @Prod.rec.{1,0,0} St Cb (fun _=>KR) (fun st V=>κ v (Yn st) V) q) p) r
theorem U7(r:O9):Ai9 r (Ad1 r):=by
 intro κ
 match r with
 |none=>exact .inl rfl
 |some (v,st,V)=>exact .inr ⟨v,st,V,Yn st,rfl,Ada st,rfl⟩
def Sy(o:Oper):Bool:=match o.op with
 | .call {callee:= .value _,..}=>false
 |_=>true
def cf0:Ah:=fun _ _ _=>none
def A9r(C:Eo)(h:Bool)(L:Nat)(o:Oper):LF:=fun _ t s κ=>Ad1 (Bj C h cf0 o (evT L t) (stF s)) κ
theorem Ag4{C:Eo}{h:Bool}{o:Oper}(hn:Sy o=true)(cf cf':Ah)(ρ:Operand→D)(st:St):Bj C h cf o ρ st=Bj C h cf' o ρ st:=by
 rcases o with⟨dst,op,type,pos,after,guard⟩;cases op with
 |call c=>
  rcases c with⟨callee,args,ts⟩;cases callee with
  |value x=>cases hn
  |_=>rfl
 |_=>rfl
theorem A11{C:Eo}{h:Bool}{L:Nat}{o:Oper}(hn:Sy o=true):Ai3 C h L o (A9r C h L o):=by intro cfF cf hcf e t st s hI;unfold A9r;rw[Au6 hI.len hI.rel,hI.fs.stF,Ag4 hn cf0 cf];exact U7 _
def Aak(P:Program)(ty:TypeId)(gm gk gv:Rt→D):LF:=fun _ t s κ=>
 match fz1 (gv t)with
 |none=>Ad1 (Hq P ty (gm t) (gk t) (gv t) (stF s)) κ
 |some v'=>match Aar P ty,gm t with
  |some (kt,_),.map id=>if Xo P kt (gk t)then Aau KR s id (fun o=>match o with
    | .map es=>match Jc P kt (gk t) es 0 with
     |some (some (i,_))=>if sameAt es i (gk t)then κ .undef (Aqz s id (.map (es.set i (gk t,v')))) [id]else .bad
     |some none=>κ .undef (Aqz s id (.map (es++ [(gk t,v')]))) [id]
     |none=> .bad
    |_=> .bad) .bad else .bad
  |_,_=> .bad
theorem Agh{P:Program}{ty:TypeId}{gm gk gv:Rt→D}{cfF:FF}{t:Rt}{st:St}{s:FS}(hs:O1 st s):Ai9 (Hq P ty (gm t) (gk t) (gv t) st) (Aak P ty gm gk gv cfF t s):=by
 intro κ;unfold Aak;cases hz:fz1 (gv t)with
 |none=>dsimp only;rw[hs.stF];exact U7 _ κ
 |some v'=>
  dsimp only;have hf:Sl Gu st (gv t)=some (v',st):=Ao4 hz 7 st;unfold Hq;cases hmt:Aar P ty with
  |none=>exact .inl rfl
  |some p=>
   obtain⟨kt,et⟩:=p;cases hm:gm t<;>first|exact .inl rfl|skip
   rename_i id;dsimp only;by_cases hk:Xo P kt (gk t)=true
   ·rw[if_pos hk,if_pos hk,Tw hs,hf];dsimp only;cases ho:st[id]? with
    |none=>exact .inl rfl
    |some o=>
     cases o<;>first|exact .inl rfl|skip
     rename_i es;dsimp only;have hid:id<st.length:=(List.getElem?_eq_some_iff.1 ho).1;cases Jc P kt (gk t) es 0 with
     |none=>exact .inl rfl
     |some q=>
      cases q with
      |none=>exact .inr ⟨_,_,_,_,rfl,Amf hs hid _,by rw[Du];rfl⟩
      |some q=>
       obtain⟨i,x⟩:=q;dsimp only;split
       ·exact .inr ⟨_,_,_,_,rfl,Amf hs hid _,by rw[Du];rfl⟩
       ·exact .inl rfl
   ·rw[if_neg hk];exact .inl rfl
def fSt(n:Nat)(ga gv:Rt→D):LF:=fun _ t s κ=>
 Ar9 (ga t) (fun id off=>Aau KR s id (fun o=>Ba9 o fun cs=>
  @Bool.rec.{1} (fun _=>KR) .bad (@Bool.rec.{1} (fun _=>KR) .bad (@Bool.rec.{1} (fun _=>KR) .bad (κ .undef (Aqz s id (.cells (Aeb (Agi cs off) (Aeb (Qu (gv t)) (U9 cs (Nat.add off n)))))) [id])
   (Asl okC (Qu (gv t)))) (Nat.ble (Nat.add off n) (Uz cs))) (Nat.beq (Uz (Qu (gv t))) n)) .bad) (fun _=> .bad)
section
variable{C:Eo}{h:Bool}{L:Nat}{dst:Option Tmp}{ty:TypeId}{pos:String}{af:Array Edge}{gd:Option (Nat × Bool)}
theorem A9j{u:TypeId}{a v:Operand}{n:Nat}{ga gv:Rt→D}(ha:Qt L a ga)(hv:Qt L v gv)(h1:Bw C.P u=some n):Ai3 C h L ⟨dst,.store u a v,ty,pos,af,gd⟩ (fSt n ga gv):=by
 intro cfF cf hcf e t st s hI κ;unfold fSt Bj I4;dsimp only;rw[← ha e t hI.len hI.rel,← hv e t hI.len hI.rel,h1];generalize hF:(fun id off=>Aau KR s id (fun o=>Ba9 o fun cs=>
  @Bool.rec.{1} (fun _=>KR) .bad (@Bool.rec.{1} (fun _=>KR) .bad (@Bool.rec.{1} (fun _=>KR) .bad (κ .undef (Aqz s id (.cells (Aeb (Agi cs off) (Aeb (Qu (gv t)) (U9 cs (Nat.add off n)))))) [id])
   (Asl okC (Qu (gv t)))) (Nat.ble (Nat.add off n) (Uz cs))) (Nat.beq (Uz (Qu (gv t))) n)) .bad)=F
 rcases Zb (d:=ga t) (k:=F) (ke:=fun _=> .bad)with h|⟨id,off,hd,h⟩|⟨cs,hd,h⟩
 ·exact .inl h
 ·rw[h,hd];subst hF;dsimp only;rw[Tw hI.fs];cases ho:st[id]? with
  |none=>exact .inl rfl
  |some o=>
   cases o with
   |cells cs=>
    unfold Ba9;dsimp only;rw[Ul,Ep,Aic,Oe,Oe,Agk,show okC=Al from funext A98,Ur,Ur,Ad5,Rw];by_cases p1:(gv t).cells.length=n
    ·by_cases p2:off+n≤cs.length
     ·cases p3:(gv t).cells.all Al with
      |false=>exact .inl (by simp[p1,p2])
      |true=>
       refine .inr ⟨.undef,st.set id (.cells (cs.take off++(gv t).cells++cs.drop (off+n))),[id],_,?_,Amf hI.fs (List.getElem?_eq_some_iff.1 ho).1 _,?_⟩
       ·simp[p1,p2]
       ·rw[decide_eq_true p1,decide_eq_true (show Nat.add off n≤cs.length from p2),List.append_assoc];rfl
     ·exact .inl (by simp[p1,p2])
    ·exact .inl (by simp[p1])
   |_=>exact .inl rfl
 ·rw[h];exact .inl rfl
theorem A24{u:TypeId}{m k v:Operand}{gm gk gv:Rt→D}(hm:Qt L m gm)(hk:Qt L k gk)(hv:Qt L v gv):Ai3 C h L ⟨dst,.mapUpdate u m k v,ty,pos,af,gd⟩ (Aak C.P u gm gk gv):=by intro cfF cf hcf e t st s hI;unfold Bj;dsimp only;rw[← hm e t hI.len hI.rel,← hk e t hI.len hI.rel,← hv e t hI.len hI.rel];exact Agh hI.fs
theorem A5q{u:TypeId}{m k v:Operand}{gm gk gv:Rt→D}(hm:Qt L m gm)(hk:Qt L k gk)(hv:Qt L v gv):Ai3 C h L ⟨dst,.insert u m k v,ty,pos,af,gd⟩ (Aak C.P u gm gk gv):=by intro cfF cf hcf e t st s hI;unfold Bj;dsimp only;rw[← hm e t hI.len hI.rel,← hk e t hI.len hI.rel,← hv e t hI.len hI.rel];exact Agh hI.fs
def Ax6(s:FS)(κ:KQ)(r:Fh):KR:= @Fh.rec.{1} (fun _=>KR) .bad (fun v s' W=> @Bool.rec.{1} (fun _=>KR) (κ v s' W) (@Bool.rec.{1} (fun _=>KR) (κ v s' W) (κ v s []) (scV v)) (Bee W)) r
def Rn(cf:FF)(f:FuncId)(first caps args:List D)(s:FS)(κ:KQ):KR:=
 @Option.rec.{1,0} (List D × St) (fun _=>KR) .bad (fun p=> @Prod.rec.{1,0,0} (List D) St (fun _=>KR) (fun as st1=>@Fh.rec.{1} (fun _=>KR) .bad (fun v s2 W=> @Bool.rec.{1} (fun _=>KR) (κ v s2 (Dj (Dn (stF s) st1) W)) (κ v s []) (W.isEmpty && Sn v)) (cf f (first++as++caps) (Yn st1))) p) (Cw (stF s) args)
def Bae(a b c:List D):List D:=
 @List.rec.{1,0} D (fun _=>List D) (@List.rec.{1,0} D (fun _=>List D) b (fun _ _ _=>Aeb b c) c) (fun _ _ _=>Aeb a (Aeb b c)) a
theorem A2g(a b c:List D):Bae a b c=a++b++c:=by
 cases a with
 |nil=>cases c with
  |nil=>show b=_;simp
  |cons d c=>show Aeb b (d::c)=_;rw[Ur];rfl
 |cons d a=>show Aeb (d::a) (Aeb b c)=_;rw[Ur,Ur,List.append_assoc]
def Ade(byRef:Bool)(f:FuncId)(first caps args:List D)(cf:FF)(s:FS)(κ:KQ):KR:=
 @Bool.rec.{1} (fun _=>KR) (fzR KR fz1 args (fun as=>Ax6 s κ (cf f (Bae first as caps) s)) (Rn cf f first caps args s κ))
  (@Fh.rec.{1} (fun _=>KR) .bad (fun v s' W=>κ v s' W) (cf f (Bae first args caps) s)) byRef
theorem Aq8{cfF:FF}{cf:Ah}(hcf:CfR cfF cf){f:FuncId}{as args first caps:List D}{st:St}{s:FS}(hs:O1 st s)(hb:Dm C.P f=true)(hr:C.byRef.contains f=false)(hz:Eb fz1 args=some as)
  (κ:KQ):Ax6 s κ (cfF f (first++as++caps) s)= .bad∨∃v st' V s',G6 C cf f first caps args st=some (v,st',V)∧O1 st' s'∧Ax6 s κ (cfF f (first++as++caps) s)=κ v s' V:=by
 unfold G6;rw[hb,hr,Ap2 hz];simp only[Bool.not_true,BF];rcases hcf f (first++as++caps) st s hs with h|⟨v,st',s',W,h1,h2,h3⟩
 ·exact .inl (by rw[h];rfl)
 ·rw[h3,h1];unfold Ax6;dsimp only;rw[A3a,A7n,Du];cases hw:W.isEmpty with
  |false=>exact .inr ⟨v,st',W,s',by simp[Dj],h2,rfl⟩
  |true=>
   cases hv:Sn v with
   |false=>exact .inr ⟨v,st',W,s',by simp[Dj],h2,rfl⟩
   |true=>exact .inr ⟨v,st,[],s,by simp,hs,rfl⟩
theorem Aev{cfF:FF}{cf:Ah}(hcf:CfR cfF cf){f:FuncId}{args first caps:List D}{st:St}{s:FS}(hs:O1 st s)(hb:Dm C.P f=true)(hr:C.byRef.contains f=false)(κ:KQ):
  Rn cfF f first caps args s κ= .bad∨∃v st' V s',G6 C cf f first caps args st=some (v,st',V)∧O1 st' s'∧Rn cfF f first caps args s κ=κ v s' V:=by
 unfold G6 Rn;rw[hb,hr,hs.stF];simp only[Bool.not_true,BF];cases hz:Cw st args with
 |none=>exact .inl rfl
 |some p=>
  obtain⟨as,st1⟩:=p;dsimp only;rcases hcf f (first++as++caps) st1 (Yn st1) (Ada st1)with h|⟨v,st',s',W,h1,h2,h3⟩
  ·exact .inl (by rw[h])
  ·rw[h3,h1];dsimp only;cases hw:(W.isEmpty && Sn v)with
   |false=>exact .inr ⟨v,st',_,s',by simp,h2,rfl⟩
   |true=>exact .inr ⟨v,st,[],s,by simp,hs,rfl⟩
theorem Aab{cfF:FF}{cf:Ah}(hcf:CfR cfF cf){f:FuncId}{args first caps:List D}{st:St}{s:FS}(hs:O1 st s)(hb:Dm C.P f=true){br:Bool}(hr:C.byRef.contains f=br):
  Ai9 (G6 C cf f first caps args st) (Ade br f first caps args cfF s):=by
 intro κ;unfold Ade;simp only[A2g];cases br with
 |false=>
  dsimp only;rcases Xb (R:=KR) (f:=fz1) (k:=fun as=>Ax6 s κ (cfF f (first++as++caps) s)) (bad:=Rn cfF f first caps args s κ) args with h|⟨as,h1,h2⟩
  ·rw[h];exact Aev hcf hs hb hr κ
  ·rw[h2];exact Aq8 hcf hs hb hr h1 κ
 |true=>
  dsimp only;unfold G6;rw[hb,hr];simp only[Bool.not_true,BF,if_true];rcases hcf f (first++args++caps) st s hs with h|⟨v,st',s',W,h1,h2,h3⟩
  ·exact .inl (by rw[h])
  ·exact .inr ⟨v,st',W,s',h1,h2,by rw[h3]⟩
def Awh(x:Option (List D→Option D))(args:List D)(s:FS)(κ:KQ):KR:=
 @Option.rec.{1,0} (List D→Option D) (fun _=>KR) .bad (fun x=> @Option.rec.{1,0} D (fun _=>KR) .bad (fun v=>κ v s []) (x args)) x
theorem Agp{cf:Ah}{f:FuncId}{args first caps:List D}{st:St}{s:FS}(hs:O1 st s)(hb:Dm C.P f=false):Ai9 (G6 C cf f first caps args st) (Awh (C.ext f) (first++args++caps) s):=by
 intro κ;unfold G6 Awh;rw[hb];simp only[Bool.not_false,if_true];cases C.ext f with
 |none=>exact .inl rfl
 |some x=>
  dsimp only;cases hx:x (first++args++caps)with
  |none=>exact .inl rfl
  |some v=>exact .inr ⟨v,st,[],s,rfl,hs,rfl⟩
def Qn(gs:List (Rt→D))(t:Rt):List D:= @List.rec.{1,0} (Rt→D) (fun _=>List D) [] (fun g _ ih=>g t::ih) gs
def Azy(L:Nat)(xs:List Operand)(gs:List (Rt→D)):Prop:=∀e t,e.length=L→Rel e t→Qn gs t=xs.map (ev e)
def Ahh(byRef:Bool)(f:FuncId)(gs:List (Rt→D)):LF:=fun cf t s κ=>Ade byRef f [] [] (Qn gs t) cf s κ
def Ahe(x:Option (List D→Option D))(gs:List (Rt→D)):LF:=fun _ t s κ=>Awh x (Qn gs t) s κ
def Abi(hb:FuncId→Bool)(br:FuncId→Bool)(ext:FuncId→Option (List D→Option D))(g:Rt→D)(gs:List (Rt→D)):LF:=fun cf t s κ=>Axx (g t) fun f first caps=> @Bool.rec.{1} (fun _=>KR) (Awh (ext f) (first++Qn gs t++caps) s κ) (Ade (br f) f first caps (Qn gs t) cf s κ) (hb f)
theorem Asg{f:FuncId}{as:Array Operand}{ts:Array TypeId}{gs:List (Rt→D)}(hg:Azy L as.toList gs)(hb:Dm C.P f=true){br:Bool}(hr:C.byRef.contains f=br):
  Ai3 C h L ⟨dst,.call {callee:= .value (.func f),args:=as,argTypes:=ts},ty,pos,af,gd⟩ (Ahh br f gs):=by
 intro cfF cf hcf e t st s hI;unfold Ahh Bj;dsimp only[ev];rw[← hg e t hI.len hI.rel];exact Aab hcf hI.fs hb hr
theorem Ar0{f:FuncId}{as:Array Operand}{ts:Array TypeId}{gs:List (Rt→D)}(hg:Azy L as.toList gs)(hb:Dm C.P f=false):
  Ai3 C h L ⟨dst,.call {callee:= .value (.func f),args:=as,argTypes:=ts},ty,pos,af,gd⟩ (Ahe (C.ext f) gs):=by
 intro cfF cf hcf e t st s hI;unfold Ahe Bj;dsimp only[ev];rw[← hg e t hI.len hI.rel];have:=Agp (C:=C) (cf:=cf) (f:=f) (args:=Qn gs t) (first:= []) (caps:= []) hI.fs hb
 simpa using this
theorem Aq9{x:Operand}{g:Rt→D}{as:Array Operand}{ts:Array TypeId}{gs:List (Rt→D)}(hx:Qt L x g)(hg:Azy L as.toList gs):
  Ai3 C h L ⟨dst,.call {callee:= .value x,args:=as,argTypes:=ts},ty,pos,af,gd⟩ (Abi (Dm C.P) C.byRef.contains C.ext g gs):=by
 intro cfF cf hcf e t st s hI κ;unfold Abi Bj;dsimp only;rw[← hg e t hI.len hI.rel,← hx e t hI.len hI.rel];generalize hF:(fun f first caps=> @Bool.rec.{1} (fun _=>KR) (Awh (C.ext f) (first++Qn gs t++caps) s κ) (Ade (C.byRef.contains f) f first caps (Qn gs t) cfF s κ) (Dm C.P f))=F
 rcases Ams (d:=g t) (k:=F)with h|⟨f,a,b,hd,h⟩
 ·exact .inl h
 rw[h,hd];subst hF;dsimp only;cases hb:Dm C.P f with
 |false=>exact Agp hI.fs hb κ
 |true=>exact Aab hcf hI.fs hb rfl κ
end
end
noncomputable section
inductive Kc where
 |nil
 |bad
 |mv(g:Rt→D)(p:D→Rt→Rt)(k:Kc)
 |q(f:QF)(p:D→Rt→Rt)(k:Kc)
 |ql(i:Nat)(f:QF)(p:D→Rt→Rt)(k:Kc)
 |l(f:LF)(p:D→Rt→Rt)(k:Kc)
 |ll(m:Nat)(f:LF)(p:D→Rt→Rt)(k:Kc)
 |gd(g:Rt→D)(want:Bool)(p:D→Rt→Rt)(k ks:Kc)
def Aum(i:Nat)(rd:Cb)(lg:Rh):Rh:= @List.rec.{1,0} Nat (fun _=>Rh) lg (fun id _ ih=>(i,id)::ih) rd
def Aho(m:Nat)(lg:Rh)(V:Cb):Bool:= @List.rec.{1,0} Nat (fun _=>Bool) false (fun _ _ _=>lg.any fun p=>V.contains p.2 && !m.testBit p.1) V
def gdF(d:D)(want:Bool)(a b:KR):KR:= @D.rec.{1} (fun _=>KR) (fun _=>KR) (fun _=>KR) .bad (fun _ _=> .bad) (fun x=> @Bool.rec.{1} (fun _=>KR) (@Bool.rec.{1} (fun _=>KR) a b want) (@Bool.rec.{1} (fun _=>KR) b a want) x) (fun _=> .bad) .bad (fun _ _=> .bad) (fun _ _=> .bad) .bad (fun _ _ _=> .bad) (fun _ _ _ _ _=> .bad) .bad (fun _=> .bad) .bad (fun _ _ _ _ _=> .bad) .bad (fun _ _ _=> .bad) (fun _ _=> .bad) (fun ds _=> @List.rec.{1,0} D (fun _=>KR) b (fun _ _ _=> .bad) ds) .bad (fun _ _ _ _=> .bad) .bad (fun _ _ _ _=> .bad) d
def Oy(k:Kc):FF→Rt→FS→Cb→Rh→KR:=
 @Kc.rec.{1} (fun _=>FF→Rt→FS→Cb→Rh→KR)
  (fun _ t s W _=> .ok t s W)
  (fun _ _ _ _ _=> .bad)
  (fun g p _ ih cf t s W lg=>ih cf (p (g t) t) s W lg)
  (fun f p _ ih cf t s W lg=>f t s fun v s' _=>ih cf (p v t) s' W lg)
  (fun i f p _ ih cf t s W lg=>f t s fun v s' rd=>ih cf (p v t) s' W (Aum i rd lg))
  (fun f p _ ih cf t s W lg=>f cf t s fun v s' V=>ih cf (p v t) s' (jw V W) lg)
  (fun m f p _ ih cf t s W lg=>f cf t s fun v s' V=> @Bool.rec.{1} (fun _=>KR) (ih cf (p v t) s' (jw V W) lg) .bad (Aho m lg V))
  (fun g want p _ _ ih ihs cf t s W lg=>gdF (g t) want (ih cf t s W lg) (ihs cf (p (.tup []) t) s W lg))
  k
theorem Apu(i:Nat)(lg:Rh):∀(rd:Cb),Aum i rd lg=rd.map (fun id=>(i,id))++lg
 | []=>rfl
 |id::rd=>congrArg ((i,id):: ·) (Apu i lg rd)
theorem A18(i:Nat)(st:St)(lg:Rh)(fx:Fx):Aum i (rdI st fx) lg=Ju true i st lg fx:=by rw[Apu];cases fx<;>rfl
theorem Aru(B:Array Nat)(i:Nat)(lg:Rh)(V:Cb):Aho (maskAt B i) lg V=clash B i lg V:=by
 cases V with
 |nil=>unfold clash;show false=_;symm;rw[List.any_eq_false];simp
 |cons _ _=>rfl
theorem Awn{d:D}{want:Bool}{a b:KR}:gdF d want a b= .bad∨(∃x,d= .bool x∧gdF d want a b=if x == want then a else b)∨(d= .tup []∧gdF d want a b=b):=by
 cases d with
 |bool x=>exact .inr (.inl ⟨x,rfl,by cases x<;>cases want<;>rfl⟩)
 |tup ds=>cases ds with
  |nil=>exact .inr (.inr ⟨rfl,rfl⟩)
  |cons _ _=>exact .inl rfl
 |_=>exact .inl rfl
inductive GW where
 |non
 |mk(g:Rt→D)
inductive PW where
 |non
 |mk(p:D→Rt→Rt)
def Auc(i:Nat):GW:=Auj i GW .mk .non
def Bbu(i:Nat):PW:=A9d i PW .mk .non
def Anz(d:D):GW:= @D.rec.{1} (fun _=>GW) (fun _=>GW) (fun _=>GW) (.mk fun _=> .undef) (fun a b=> .mk fun _=> .int a b) (fun a=> .mk fun _=> .bool a) (fun a=> .mk fun _=> .str a) (.mk fun _=> .nilp) (fun a b=> .mk fun _=> .ptr a b) (fun a _=> .mk fun _=> .eptr a) (.mk fun _=> .nilsl) (fun a b _=> .mk fun _=> .sl a b) (fun a b c d e=> .mk fun _=> .arr a b c d e) (.mk fun _=> .nilmap) (fun a=> .mk fun _=> .map a) (.mk fun _=> .nilfunc) (fun a b c _ _=> .mk fun _=> .func a b c) (.mk fun _=> .nilif) (fun a b _=> .mk fun _=> .iface a b) (fun a _=> .mk fun _=> .agg a) (fun a _=> .mk fun _=> .tup a) .non (fun _ _ _ _=> .non) .non (fun _ _ _ _=> .non) d
def A8b(v:Value):GW:=Anz (Ak v)
theorem Aqk{i:Nat}(hi:i<256):Auc i= .mk (gN i):=Ao6 hi _ _
theorem Aog{i:Nat}(hi:i<256):Bbu i= .mk (pN i):=A5h hi _ _
theorem Ara(d:D):Anz d= .mk fun _=>d:=by cases d<;>rfl
def cG(L:Nat)(x:Operand)(R:Type)(k:(Rt→D)→R)(bad:R):R:=
 @Operand.rec.{1} (fun _=>R) (fun i=> @Bool.rec.{1} (fun _=>R) bad (@GW.rec.{1} (fun _=>R) bad (fun g=>k g) (Auc i)) (Nat.ble (Nat.succ i) L))
  (fun v=> @GW.rec.{1} (fun _=>R) bad (fun g=>k g) (A8b v)) (fun _=>k fun _=> .undef) (fun f=>k fun _=> .func f [] []) x
theorem El{L:Nat}(hL:L≤256){x:Operand}{R:Type}{k:(Rt→D)→R}{bad:R}:cG L x R k bad=bad∨∃g,Qt L x g∧cG L x R k bad=k g:=by
 cases x with
 |tmp i=>
  show @Bool.rec (fun _=>R) bad (@GW.rec (fun _=>R) bad (fun g=>k g) (Auc i)) (Nat.ble (Nat.succ i) L)=bad∨∃g,_∧ @Bool.rec (fun _=>R) bad (@GW.rec (fun _=>R) bad (fun g=>k g) (Auc i)) (Nat.ble (Nat.succ i) L)=k g;rw[Ep];by_cases hi:i<L
  ·rw[decide_eq_true (show Nat.succ i≤L from hi),Aqk (Nat.lt_of_lt_of_le hi hL)];exact .inr ⟨gN i,fun e t hl hr=>(hr.get i (by rw[hl];exact hi)).symm,rfl⟩
  ·rw[decide_eq_false (show ¬ Nat.succ i≤L from hi)];exact .inl rfl
 |const v=>refine .inr ⟨fun _=>Ak v,fun _ _ _ _=>rfl,?_⟩;show @GW.rec (fun _=>R) bad (fun g=>k g) (Anz (Ak v))=_;rw[Ara]
 |global n=>exact .inr ⟨fun _=> .undef,fun _ _ _ _=>rfl,rfl⟩
 |func f=>exact .inr ⟨fun _=> .func f [] [],fun _ _ _ _=>rfl,rfl⟩
def cGs(L:Nat)(xs:List Operand)(R:Type)(k:List (Rt→D)→R)(bad:R):R:=
 @List.rec.{1,0} Operand (fun _=>(List (Rt→D)→R)→R) (fun k=>k []) (fun x _ ih k=>cG L x R (fun g=>ih fun gs=>k (g::gs)) bad) xs k
theorem Acd{L:Nat}(hL:L≤256){R:Type}{bad:R}:∀{xs:List Operand} {k:List (Rt→D)→R},cGs L xs R k bad=bad∨∃gs,Azy L xs gs∧cGs L xs R k bad=k gs
 | [],k=> .inr ⟨[],fun _ _ _ _=>rfl,rfl⟩
 |x::xs,k=>by
  show cG L x R (fun g=>cGs L xs R (fun gs=>k (g::gs)) bad) bad=bad∨∃gs,_∧cG L x R (fun g=>cGs L xs R (fun gs=>k (g::gs)) bad) bad=k gs;rcases El hL (x:=x) (k:=fun g=>cGs L xs R (fun gs=>k (g::gs)) bad) (bad:=bad)with h|⟨g,h1,h2⟩
  ·exact .inl h
  ·rw[h2];rcases Acd hL (bad:=bad) (xs:=xs) (k:=fun gs=>k (g::gs))with h|⟨gs,h3,h4⟩
   ·exact .inl h
   ·refine .inr ⟨g::gs,fun e t hl hr=>?_,h4⟩;show g t::Qn gs t=_;rw[h1 e t hl hr,h3 e t hl hr];rfl
def Afh(P:Program)(t:TypeId):Option TypeInfo:=Ma (Option TypeInfo) P.types.toList t some (P.info? t)
theorem Wj(P:Program)(t:TypeId):Afh P t=P.info? t:=by
 unfold Afh;rw[Jk,Array.getElem?_toList];split
 ·rename_i i h;unfold Tables.info?;rw[if_pos (Array.getElem?_eq_some_iff.1 h).1,h]
 ·rfl
def Af4(P:Program)(t:TypeId):Option Nat:=(Afh P t).map (·.size)
theorem Akl(P:Program)(t:TypeId):Af4 P t=Bw P t:=by unfold Af4 Bw;rw[Wj]
def Ag3(P:Program)(t:TypeId):Option TypeDesc:=
 match Afh P t with
 |some {desc:= .named _ u,..}=>(Afh P u).map (·.desc)
 |some i=>some i.desc
 |none=>none
theorem Ap5(P:Program)(t:TypeId):Ag3 P t=P.underlying t:=by unfold Ag3 Program.underlying;rw[Wj];split<;>simp_all [Wj]
def A75(P:Program)(t:TypeId):Bool:=
 match Ag3 P t with
 |some (.struct _)|some (.array ..)=>true
 |_=>false
theorem A4w(P:Program)(t:TypeId):A75 P t=Jg P t:=by unfold A75 Jg;rw[Ap5];rfl
def Ajj(P:Program)(f:FuncId):Bool:=Ma Bool P.funcs.toList f (fun fn=>match fn.body with
 |some _=>true
 |none=>false) false
theorem Ak1(P:Program)(f:FuncId):Ajj P f=Dm P f:=by
 unfold Ajj Dm;rw[Jk,Array.getElem?_toList];cases P.funcs[f]? with
 |none=>rfl
 |some fn=>dsimp only;cases fn.body<;>rfl
def Ax5(P:Program)(t:TypeId):Option (List D):=
 match Afh P t with
 |some i=>match i.zero with
  |some z=>
   let cs:=z.cells.toList.map Ag
   if Aij cs then some cs else none
  |none=>none
 |none=>none
theorem Atn(P:Program)(t:TypeId):Ax5 P t=zeroOf P t:=by unfold Ax5 zeroOf;rw[Wj];rfl
def Bcl(P:Program)(h:Bool)(L:Nat)(o:Oper)(k:QF→Kc):Kc:=
 match o.op with
 | .pick c a b=>cG L c Kc (fun gc=>cG L a Kc (fun ga=>cG L b Kc (fun gb=>k (fPk gc ga gb)) .bad) .bad) .bad
 | .alloc t=>match Ax5 P t with
  |some cs=>k (fAl cs)
  |none=> .bad
 | .box _ x=>cG L x Kc (fun g=>k (fBx g)) .bad
 | .load t a=>match Af4 P t,(Ag3 P t).isSome with
  |some n,true=>cG L a Kc (fun g=>if A75 P t then k (fLd n true g)else if n=1 then k (fLd 1 false g)else k (fOp P h L o)) .bad
  |_,_=>k (fOp P h L o)
 | .fieldAddr t x f=>match Ag3 P t with
  |some (.struct fs)=>match fs[f]? with
   |some fd=>match Af4 P fd.type with
    |some n=>if n=0 then .bad else cG L x Kc (fun g=>k (fFa fd.offset g)) .bad
    |none=> .bad
   |none=> .bad
  |_=> .bad
 | .indexAddr t x i=>match Ag3 P t with
  |some (.slice el)=>match Af4 P el with
   |some sz=>cG L x Kc (fun gx=>cG L i Kc (fun gi=>k (fIa sz gx gi)) .bad) .bad
   |none=> .bad
  |_=>k (fOp P h L o)
 | .index t x i=>match Ag3 P t with
  |some .string=>cG L x Kc (fun gx=>cG L i Kc (fun gi=>k (fIx gx gi)) .bad) .bad
  |_=>k (fOp P h L o)
 | .extract x i=>cG L x Kc (fun g=>k (fEx g i)) .bad
 | .lookup t m x ok=>cG L m Kc (fun gm=>cG L x Kc (fun gx=>k (Aqm P t ok gm gx)) .bad) .bad
 | .unOp .not _ x=>cG L x Kc (fun g=>k (Bbp g)) .bad
 | .nilCheck x=>cG L x Kc (fun g=>k (fNc g)) .bad
 | .binOp op t x y _=>match Ag3 P t with
  |some (.int _)=>match A28 op with
   |some c=>cG L x Kc (fun gx=>cG L y Kc (fun gy=>k (A8i c gx gy)) .bad) .bad
   |none=>match arF op with
    |some c=>cG L x Kc (fun gx=>cG L y Kc (fun gy=>k (fAr c gx gy)) .bad) .bad
    |none=>k (fOp P h L o)
  |some .string=>match op with
   | .eql=>cG L x Kc (fun gx=>cG L y Kc (fun gy=>k (A4j true gx gy)) .bad) .bad
   | .neq=>cG L x Kc (fun gx=>cG L y Kc (fun gy=>k (A4j false gx gy)) .bad) .bad
   |_=>k (fOp P h L o)
  |_=>k (fOp P h L o)
 | .call {callee:= .builtin .len,args,argTypes}=>match args.toList,argTypes.toList.head? with
  | [x],some u=>match Ag3 P u with
   |some .string=>cG L x Kc (fun g=>k (A82 g)) .bad
   |some (.slice _)=>cG L x Kc (fun g=>k (Bax g)) .bad
   |_=>k (fOp P h L o)
  |_,_=>k (fOp P h L o)
 |_=>k (fOp P h L o)
def Awf{α:Type}(ok:α→Prop)(F:(α→Kc)→Kc):Prop:=∀k,F k= .bad∨∃a,ok a∧F k=k a
theorem Ar6{P:Program}{h:Bool}{L:Nat}(hL:L≤256){o:Oper}:Awf (Lv P h L o) (Bcl P h L o):=by
 intro k;have one:∀(x:Operand) (F:(Rt→D)→QF),(∀g,Qt L x g→Lv P h L o (F g))→cG L x Kc (fun g=>k (F g)) .bad= .bad∨∃f,Lv P h L o f∧cG L x Kc (fun g=>k (F g)) .bad=k f:=fun x F hF=>by
  rcases El hL (x:=x) (k:=fun g=>k (F g)) (bad:= .bad)with h|⟨g,h1,h2⟩
  ·exact .inl h
  ·exact .inr ⟨F g,hF g h1,h2⟩
 have two:∀(x y:Operand) (F:(Rt→D)→(Rt→D)→QF),(∀g g',Qt L x g→Qt L y g'→Lv P h L o (F g g'))→cG L x Kc (fun g=>cG L y Kc (fun g'=>k (F g g')) .bad) .bad= .bad∨∃f,Lv P h L o f∧cG L x Kc (fun g=>cG L y Kc (fun g'=>k (F g g')) .bad) .bad=k f:=fun x y F hF=>by
  rcases El hL (x:=x) (k:=fun g=>cG L y Kc (fun g'=>k (F g g')) .bad) (bad:= .bad)with h|⟨g,h1,h2⟩
  ·exact .inl h
  ·rw[h2];rcases El hL (x:=y) (k:=fun g'=>k (F g g')) (bad:= .bad)with h|⟨g',h3,h4⟩
   ·exact .inl h
   ·exact .inr ⟨F g g',hF g g' h1 h3,h4⟩
 have gen:k (fOp P h L o)= .bad∨∃f,Lv P h L o f∧k (fOp P h L o)=k f:= .inr ⟨_,Bbi P h L o,rfl⟩;rcases o with⟨dst,op,type,pos,after,guard⟩;unfold Bcl;simp only[Atn,Akl,Ap5,A4w];split
 ·rename_i c a b;rcases El hL (x:=c) (k:=fun gc=>cG L a Kc (fun ga=>cG L b Kc (fun gb=>k (fPk gc ga gb)) .bad) .bad) (bad:= .bad)with h|⟨gc,h1,h2⟩
  ·exact .inl h
  ·rw[h2];exact two' hL (fun ga gb ha hb=>Bcd h1 ha hb)
 ·split
  ·rename_i cs hz;exact .inr ⟨_,A9a hz,rfl⟩
  ·exact .inl rfl
 ·exact one _ _ fun g hg=>A8w hg
 ·rename_i t a;split
  ·rename_i n h1 h2;rcases El hL (x:=a) (k:=fun g=>if Jg P t then k (fLd n true g)else if n=1 then k (fLd 1 false g)else k (fOp P h L ⟨dst,.load t a,type,pos,after,guard⟩)) (bad:= .bad)with h|⟨g,h3,h4⟩
   ·exact .inl h
   ·rw[h4];have key:∀(agg:Bool),Jg P t=agg→(agg=false→n=1)→Lv P h L ⟨dst,.load t a,type,pos,after,guard⟩ (fLd n agg g):=fun agg h5 h6 e t' st s hI=>by
     have:=Axy (P:=P) (ty:=t) (g:=g) (t:=t') hI.fs h1 h2 h5 h6;unfold Af;dsimp only;rw[← h3 e t' hI.len hI.rel];exact this
    split
    ·rename_i hagg;exact .inr ⟨_,key true hagg (by simp),rfl⟩
    ·rename_i hagg;split
     ·rename_i hn;subst hn;exact .inr ⟨_,key false (by simpa using hagg) (fun _=>rfl),rfl⟩
     ·exact gen
  ·exact gen
 ·split
  ·rename_i fs hu;split
   ·rename_i fd hf;split
    ·rename_i n hn;split
     ·exact .inl rfl
     ·rename_i h0;exact one _ _ fun g hg=>A6x hg hu hf hn h0
    ·exact .inl rfl
   ·exact .inl rfl
  ·exact .inl rfl
 ·split
  ·rename_i el hu;split
   ·rename_i sz hz;exact two _ _ _ fun gx gi hx hi=>A8z hx hi hu hz
   ·exact .inl rfl
  ·exact gen
 ·split
  ·rename_i hu;exact two _ _ _ fun gx gi hx hi=>Bcn hx hi hu
  ·exact gen
 ·exact one _ _ fun g hg=>A7j hg
 ·exact two _ _ _ fun gm gk hm hk=>Au7 hm hk
 ·exact one _ _ fun g hg=>A4y hg
 ·exact one _ _ fun g hg=>Bat hg
 ·split
  ·split
   ·rename_i c hc;exact two _ _ _ fun gx gy hx hy=>A1o hc hx hy
   ·split
    ·rename_i c hc;exact two _ _ _ fun gx gy hx hy=>Bak hc hx hy
    ·exact gen
  ·split
   ·exact two _ _ _ fun gx gy hx hy=>Apy (.inl ⟨rfl,rfl⟩) hx hy
   ·exact two _ _ _ fun gx gy hx hy=>Apy (.inr ⟨rfl,rfl⟩) hx hy
   ·exact gen
  ·exact gen
 ·split
  ·rename_i x u ha h0;split
   ·rename_i hu;exact one _ _ fun g hg=>A1i hg ha h0 hu
   ·rename_i hu;exact one _ _ fun g hg=>A4u hg ha h0 hu
   ·exact gen
  ·exact gen
 ·exact gen
 where
 two' {P:Program} {h:Bool} {L:Nat} (hL:L≤256) {o:Oper} {x y:Operand} {k:QF→Kc} {F:(Rt→D)→(Rt→D)→QF} (hF:∀g g',Qt L x g→Qt L y g'→Lv P h L o (F g g')):
   cG L x Kc (fun g=>cG L y Kc (fun g'=>k (F g g')) .bad) .bad= .bad∨∃f,Lv P h L o f∧cG L x Kc (fun g=>cG L y Kc (fun g'=>k (F g g')) .bad) .bad=k f:=by
  rcases El hL (x:=x) (k:=fun g=>cG L y Kc (fun g'=>k (F g g')) .bad) (bad:= .bad)with h|⟨g,h1,h2⟩
  ·exact .inl h
  ·rw[h2];rcases El hL (x:=y) (k:=fun g'=>k (F g g')) (bad:= .bad)with h|⟨g',h3,h4⟩
   ·exact .inl h
   ·exact .inr ⟨F g g',hF g g' h1 h3,h4⟩
def A9k(C:Eo)(h:Bool)(L:Nat)(o:Oper)(k:LF→Kc):Kc:=
 match o.op with
 | .store t a v=>match Af4 C.P t with
  |some n=>cG L a Kc (fun ga=>cG L v Kc (fun gv=>k (fSt n ga gv)) .bad) .bad
  |none=> .bad
 | .mapUpdate t m x v=>cG L m Kc (fun gm=>cG L x Kc (fun gx=>cG L v Kc (fun gv=>k (Aak C.P t gm gx gv)) .bad) .bad) .bad
 | .insert t m x v=>cG L m Kc (fun gm=>cG L x Kc (fun gx=>cG L v Kc (fun gv=>k (Aak C.P t gm gx gv)) .bad) .bad) .bad
 | .call {callee:= .value (.func f),args,..}=>cGs L args.toList Kc (fun gs=>match Ajj C.P f with
  |true=>k (Ahh (C.byRef.contains f) f gs)
  |false=>k (Ahe (C.ext f) gs)) .bad
 | .call {callee:= .value x,args,..}=>cG L x Kc (fun g=>cGs L args.toList Kc (fun gs=>k (Abi (Ajj C.P) C.byRef.contains C.ext g gs)) .bad) .bad
 |_=>k (A9r C h L o)
theorem Arm{C:Eo}{h:Bool}{L:Nat}(hL:L≤256){o:Oper}:Awf (Ai3 C h L o) (A9k C h L o):=by
 intro k;rcases o with⟨dst,op,type,pos,after,guard⟩;unfold A9k;simp only[Akl,Ak1,show Ajj C.P=Dm C.P from funext (Ak1 C.P)];split
 ·rename_i t a v;split
  ·rename_i n hn;rcases El hL (x:=a) (k:=fun g=>cG L v Kc (fun g'=>k (fSt n g g')) .bad) (bad:= .bad)with h|⟨g,h1,h2⟩
   ·exact .inl h
   ·rw[h2];rcases El hL (x:=v) (k:=fun g'=>k (fSt n g g')) (bad:= .bad)with h|⟨g',h3,h4⟩
    ·exact .inl h
    ·exact .inr ⟨_,A9j h1 h3 hn,h4⟩
  ·exact .inl rfl
 ·rename_i t m x v;rcases El hL (x:=m) (k:=fun gm=>cG L x Kc (fun gx=>cG L v Kc (fun gv=>k (Aak C.P t gm gx gv)) .bad) .bad) (bad:= .bad)with h|⟨gm,h1,h2⟩
  ·exact .inl h
  ·rw[h2];rcases El hL (x:=x) (k:=fun gx=>cG L v Kc (fun gv=>k (Aak C.P t gm gx gv)) .bad) (bad:= .bad)with h|⟨gx,h3,h4⟩
   ·exact .inl h
   ·rw[h4];rcases El hL (x:=v) (k:=fun gv=>k (Aak C.P t gm gx gv)) (bad:= .bad)with h|⟨gv,h5,h6⟩
    ·exact .inl h
    ·exact .inr ⟨_,A24 h1 h3 h5,h6⟩
 ·rename_i t m x v;rcases El hL (x:=m) (k:=fun gm=>cG L x Kc (fun gx=>cG L v Kc (fun gv=>k (Aak C.P t gm gx gv)) .bad) .bad) (bad:= .bad)with h|⟨gm,h1,h2⟩
  ·exact .inl h
  ·rw[h2];rcases El hL (x:=x) (k:=fun gx=>cG L v Kc (fun gv=>k (Aak C.P t gm gx gv)) .bad) (bad:= .bad)with h|⟨gx,h3,h4⟩
   ·exact .inl h
   ·rw[h4];rcases El hL (x:=v) (k:=fun gv=>k (Aak C.P t gm gx gv)) (bad:= .bad)with h|⟨gv,h5,h6⟩
    ·exact .inl h
    ·exact .inr ⟨_,A5q h1 h3 h5,h6⟩
 ·rename_i f args ts;rcases Acd hL (xs:=args.toList) (bad:=Kc.bad) (k:=fun gs=>match Dm C.P f with
   |true=>k (Ahh (C.byRef.contains f) f gs)
   |false=>k (Ahe (C.ext f) gs))with h|⟨gs,h1,h2⟩
  ·exact .inl h
  ·rw[h2];cases hb:Dm C.P f with
   |true=>exact .inr ⟨_,Asg h1 hb rfl,rfl⟩
   |false=>exact .inr ⟨_,Ar0 h1 hb,rfl⟩
 ·rename_i x args ts hne;rcases El hL (x:=x) (k:=fun g=>cGs L args.toList Kc (fun gs=>k (Abi (Dm C.P) C.byRef.contains C.ext g gs)) .bad) (bad:= .bad)with h|⟨g,h1,h2⟩
  ·exact .inl h
  ·rw[h2];rcases Acd hL (xs:=args.toList) (bad:=Kc.bad) (k:=fun gs=>k (Abi (Dm C.P) C.byRef.contains C.ext g gs))with h|⟨gs,h3,h4⟩
   ·exact .inl h
   ·exact .inr ⟨_,Aq9 h1 h3,h4⟩
 ·rename_i h1 h2 h3 h4 h5;refine .inr ⟨_,A11 ?_,rfl⟩;unfold Sy;dsimp only;split
  ·rename_i x args ts;exact absurd rfl (h5 x args ts)
  ·rfl
def cPt(L:Nat)(dst:Option Tmp)(k:(D→Rt→Rt)→Kc):Kc:=
 match dst with
 |none=>k fun _ t=>t
 |some d=>match Nat.ble (Nat.succ d) L with
  |true=> @PW.rec.{1} (fun _=>Kc) .bad (fun p=>k p) (Bbu d)
  |false=> .bad
def A6d(L:Nat)(dst:Option Tmp)(p:D→Rt→Rt):Prop:=∀e t v st s,In L e t st s→In L (Am e dst v) (p v t) st s
theorem Av6{L:Nat}(hL:L≤256){dst:Option Tmp}:Awf (A6d L dst) (cPt L dst):=by
 intro k;unfold cPt;split
 ·exact .inr ⟨_,fun e t v st s hI=>hI,rfl⟩
 ·rename_i d;rw[Ep];by_cases hd:d<L
  ·rw[decide_eq_true (show Nat.succ d≤L from hd),Aog (Nat.lt_of_lt_of_le hd hL)];exact .inr ⟨_,fun e t v st s hI=>⟨by simp[Am,hI.len],hI.rel.put (Nat.lt_of_lt_of_le hd hL) v,hI.fs⟩,rfl⟩
  ·rw[decide_eq_false (show ¬ Nat.succ d≤L from hd)];exact .inl rfl
def cGd(L:Nat)(ops:Array Oper)(o:Oper)(p:D→Rt→Rt)(rest body:Kc):Kc:=
 match o.guard with
 |none=>body
 |some (j,want)=>match(ops[j]?).bind (·.dst)with
  |none=> .bad
  |some tj=>match Nat.ble (Nat.succ tj) L with
   |true=> @GW.rec.{1} (fun _=>Kc) .bad (fun g=> .gd g want p body rest) (Auc tj)
   |false=> .bad
def Rz(C:Eo)(h:Bool)(L:Nat)(md:Option (Array Nat))(i:Nat)(o:Oper)(p:D→Rt→Rt)(rest:Kc):Kc:=
 match loud o with
 |true=>A9k C h L o fun f=>match md with
  |none=> .l f p rest
  |some B=> .ll (maskAt B i) f p rest
 |false=>match o.op with
  | .move x| .assign x=>cG L x Kc (fun g=> .mv g p rest) .bad
  |_=>Bcl C.P h L o fun f=>match md with
   |none=> .q f p rest
   |some _=> .ql i f p rest
def toK(C:Eo)(h:Bool)(L:Nat)(ops:Array Oper)(md:Option (Array Nat)):List Nat→Kc
 | []=> .nil
 |i::is=>Ma Kc ops.toList i (fun o=>cPt L o.dst fun p=>cGd L ops o p (toK C h L ops md is) (Rz C h L md i o p (toK C h L ops md is))) .bad
def Ay9(C:Eo)(h:Bool)(L:Nat)(ops:Array Oper):List Oper→Kc
 | []=> .nil
 |o::l=>cPt L o.dst fun p=>cGd L ops o p (Ay9 C h L ops l) (Rz C h L none 0 o p (Ay9 C h L ops l))
def Re(L:Nat)(cfF:FF)(k:Kc)(spec:Env→St→Cb→Rh→Option (Env × St × Cb)):Prop:=
 ∀e t st s W lg,In L e t st s→Oy k cfF t s W lg= .bad∨∃e' st' W' t' s',spec e st W lg=some (e',st',W')∧In L e' t' st' s'∧Oy k cfF t s W lg= .ok t' s' W'
theorem Re.bad{L:Nat}{cfF:FF}{spec:Env→St→Cb→Rh→Option (Env × St × Cb)}:Re L cfF .bad spec:=fun _ _ _ _ _ _ _=> .inl rfl
section
variable{C:Eo}{h:Bool}{L:Nat}{cfF:FF}{cf:Ah}{draw:Bool}{B:Array Nat}{o:Oper}{i:Nat}{p:D→Rt→Rt}{rest:Kc}{spec:Env→St→Cb→Rh→Option (Env × St × Cb)}
def one(C:Eo)(h:Bool)(cf:Ah)(draw:Bool)(B:Array Nat)(o:Oper)(i:Nat)(spec:Env→St→Cb→Rh→Option (Env × St × Cb))(e:Env)(st:St)(W:Cb)(lg:Rh):Option (Env × St × Cb):=
 if loud o then
  match Bj C h cf o (ev e) st with
  |none=>none
  |some (v,st',V)=>if draw && clash B i lg V then none else spec (Am e o.dst v) st' (Dj V W) lg
 else
  match Af C.P h o (ev e) st with
  |none=>none
  |some (v,fx)=>spec (Am e o.dst v) (Dy st fx) W (Ju draw i st lg fx)
theorem Ajn(hL:L≤256)(hcf:CfR cfF cf)(hp:A6d L o.dst p)(hr:Re L cfF rest spec){md:Option (Array Nat)}(hmd:md=none∧draw=false∨md=some B∧draw=true):
  Re L cfF (Rz C h L md i o p rest) (one C h cf draw B o i spec):=by
 unfold Rz;split
 ·rename_i hl;generalize hK:(fun f=>match md with
   |none=>Kc.l f p rest
   |some B=>Kc.ll (maskAt B i) f p rest)=K
  rcases Arm (C:=C) (h:=h) hL (o:=o) K with hk|⟨f,hf,hk⟩
  ·rw[hk];exact .bad
  ·rw[hk];intro e t st s W lg hI;unfold one;rw[hl];simp only[if_true];subst hK;rcases hmd with⟨rfl,rfl⟩|⟨rfl,rfl⟩
   ·show f cfF t s (fun v s' V=>Oy rest cfF (p v t) s' (jw V W) lg)= .bad∨_;rcases hf cfF cf hcf e t st s hI (fun v s' V=>Oy rest cfF (p v t) s' (jw V W) lg)with h1|⟨v,st',V,s',h1,h2,h3⟩
    ·exact .inl h1
    ·rw[h1];simp only[Bool.false_and,BF];rcases hr (Am e o.dst v) (p v t) st' s' (jw V W) lg ⟨(hp e t v st s hI).len,(hp e t v st s hI).rel,h2⟩with h4|⟨e2,st2,W2,t2,s2,h4,h5,h6⟩
     ·exact .inl (h3.trans h4)
     ·rw[Ab2]at h4;exact .inr ⟨e2,st2,W2,t2,s2,h4,h5,h3.trans h6⟩
   ·show f cfF t s (fun v s' V=> @Bool.rec (fun _=>KR) (Oy rest cfF (p v t) s' (jw V W) lg) .bad (Aho (maskAt B i) lg V))= .bad∨_;rcases hf cfF cf hcf e t st s hI (fun v s' V=> @Bool.rec (fun _=>KR) (Oy rest cfF (p v t) s' (jw V W) lg) .bad (Aho (maskAt B i) lg V))with h1|⟨v,st',V,s',h1,h2,h3⟩
    ·exact .inl h1
    ·rw[h1];rw[Aru]at h3;cases hc:clash B i lg V with
     |true=>rw[hc]at h3;exact .inl h3
     |false=>
      rw[hc]at h3;simp only[hc,Bool.and_false,BF];rcases hr (Am e o.dst v) (p v t) st' s' (jw V W) lg ⟨(hp e t v st s hI).len,(hp e t v st s hI).rel,h2⟩with h4|⟨e2,st2,W2,t2,s2,h4,h5,h6⟩
      ·exact .inl (h3.trans h4)
      ·rw[Ab2]at h4;exact .inr ⟨e2,st2,W2,t2,s2,h4,h5,h3.trans h6⟩
 ·rename_i hl;have hmv:∀x:Operand,(o.op= .move x∨o.op= .assign x)→Re L cfF (cG L x Kc (fun g=> .mv g p rest) .bad) (one C h cf draw B o i spec):=fun x hx=>by
   rcases El hL (x:=x) (k:=fun g=>Kc.mv g p rest) (bad:= .bad)with hk|⟨g,hg,hk⟩
   ·rw[hk];exact .bad
   ·rw[hk];intro e t st s W lg hI;have hq:Af C.P h o (ev e) st=some (ev e x,.pure):=by
     rcases hx with hx|hx<;>simp[Af,hx]
    unfold one;rw[hl,hq];simp only[BF];show Oy rest cfF (p (g t) t) s W lg= .bad∨_;rw[hg e t hI.len hI.rel];have hlg:Ju draw i st lg .pure=lg:=by rcases hmd with⟨_,rfl⟩|⟨_,rfl⟩<;>rfl
    rw[hlg];rcases hr (Am e o.dst (ev e x)) (p (ev e x) t) st s W lg (hp e t _ st s hI)with h1|⟨e2,st2,W2,t2,s2,h4,h5,h6⟩
    ·exact .inl h1
    ·refine .inr ⟨e2,st2,W2,t2,s2,h4,h5,?_⟩;show Oy rest cfF (p (g t) t) s W lg=_;rw[hg e t hI.len hI.rel];exact h6
  split
  ·rename_i x hx;exact hmv x (.inl hx)
  ·rename_i x hx;exact hmv x (.inr hx)
  ·generalize hK:(fun f=>match md with
    |none=>Kc.q f p rest
    |some _=>Kc.ql i f p rest)=K
   rcases Ar6 (P:=C.P) (h:=h) hL (o:=o) K with hk|⟨f,hf,hk⟩
   ·rw[hk];exact .bad
   ·rw[hk];intro e t st s W lg hI;unfold one;rw[hl];simp only[BF];subst hK;rcases hmd with⟨rfl,rfl⟩|⟨rfl,rfl⟩
    ·show f t s (fun v s' _=>Oy rest cfF (p v t) s' W lg)= .bad∨_;rcases hf e t st s hI (fun v s' _=>Oy rest cfF (p v t) s' W lg)with h1|⟨v,fx,s',h1,h2,h3⟩
     ·exact .inl h1
     ·rw[h1];have hlg:Ju false i st lg fx=lg:=by cases fx<;>rfl
      dsimp only;rw[hlg];rcases hr (Am e o.dst v) (p v t) (Dy st fx) s' W lg ⟨(hp e t v st s hI).len,(hp e t v st s hI).rel,h2⟩with h4|⟨e2,st2,W2,t2,s2,h4,h5,h6⟩
      ·exact .inl (h3.trans h4)
      ·exact .inr ⟨e2,st2,W2,t2,s2,h4,h5,h3.trans h6⟩
    ·show f t s (fun v s' rd=>Oy rest cfF (p v t) s' W (Aum i rd lg))= .bad∨_;rcases hf e t st s hI (fun v s' rd=>Oy rest cfF (p v t) s' W (Aum i rd lg))with h1|⟨v,fx,s',h1,h2,h3⟩
     ·exact .inl h1
     ·rw[h1];dsimp only;rw[A18]at h3;rcases hr (Am e o.dst v) (p v t) (Dy st fx) s' W (Ju true i st lg fx) ⟨(hp e t v st s hI).len,(hp e t v st s hI).rel,h2⟩with h4|⟨e2,st2,W2,t2,s2,h4,h5,h6⟩
      ·exact .inl (h3.trans h4)
      ·exact .inr ⟨e2,st2,W2,t2,s2,h4,h5,h3.trans h6⟩
theorem Asv{j:Nat}{spec:Env→St→Cb→Rh→Option (Env × St × Cb)}(h0:Re L cfF (Rz C h L none i o p rest) spec):Re L cfF (Rz C h L none j o p rest) spec:=h0
theorem step_ok(hL:L≤256)(hcf:CfR cfF cf){ops:Array Oper}{md:Option (Array Nat)}(hmd:md=none∧draw=false∨md=some B∧draw=true){o:Oper}{i j0:Nat}{is:List Nat}{rest:Kc}(ho:ops[i]?=some o)
  (hj:j0=i∨md=none)(ih:Re L cfF rest (fun e st W lg=>Ay C h cf draw ops B is lg e st W)):
  Re L cfF (cPt L o.dst fun p=>cGd L ops o p rest (Rz C h L md j0 o p rest)) (fun e st W lg=>Ay C h cf draw ops B (i::is) lg e st W):=by
 rcases Av6 hL (dst:=o.dst) (fun p=>cGd L ops o p rest (Rz C h L md j0 o p rest))with hk|⟨p,hp,hk⟩
 ·rw[hk];exact .bad
 rw[hk];have hb:Re L cfF (Rz C h L md j0 o p rest) (one C h cf draw B o i (fun e st W lg=>Ay C h cf draw ops B is lg e st W)):=by
  rcases hj with rfl|rfl
  ·exact Ajn (C:=C) (h:=h) (o:=o) (i:=j0) (B:=B) hL hcf hp ih hmd
  ·rcases hmd with⟨_,rfl⟩|⟨hm,_⟩
   ·exact Asv (Ajn (C:=C) (h:=h) (o:=o) (i:=i) (B:=B) hL hcf hp ih (.inl ⟨rfl,rfl⟩))
   ·cases hm
 unfold cGd;have hone:∀e st W lg,Ct o ops e=some true→one C h cf draw B o i (fun e st W lg=>Ay C h cf draw ops B is lg e st W) e st W lg=Ay C h cf draw ops B (i::is) lg e st W:=fun e st W lg hw=>by unfold one;rw[Ay,ho];dsimp only;rw[hw];rfl
 split
 ·rename_i hg;intro e t st s W lg hI;dsimp only;rw[← hone e st W lg (by simp[Ct,hg])]
  exact hb e t st s W lg hI
 ·rename_i j want hg;split
  ·exact .bad
  rename_i tj htj;split
  ·rename_i hlt;have hlt':tj<L:=by rw[Ep]at hlt;exact of_decide_eq_true hlt
   rw[Aqk (Nat.lt_of_lt_of_le hlt' hL)];intro e t st s W lg hI;have hget:e[tj]?=some (gN tj t):=hI.rel.at_ tj (by rw[hI.len];exact hlt')
   show gdF (gN tj t) want (Oy (Rz C h L md j0 o p rest) cfF t s W lg) (Oy rest cfF (p (.tup []) t) s W lg)= .bad∨_;rcases Awn (d:=gN tj t) (want:=want) (a:=Oy (Rz C h L md j0 o p rest) cfF t s W lg) (b:=Oy rest cfF (p (.tup []) t) s W lg)with h1|⟨x,hx,h1⟩|⟨hx,h1⟩
   ·exact .inl h1
   ·rw[hx]at hget;have hw:Ct o ops e=some (x == want):=by
     unfold Ct;rw[hg];dsimp only;rw[htj];dsimp only;rw[hget]
    cases hxw:(x == want)with
    |true=>
     rw[hxw]at hw h1;have:=hb e t st s W lg hI;rw[hone e st W lg hw]at this;rcases this with h2|⟨e2,st2,W2,t2,s2,h2,h3,h4⟩
     ·exact .inl (h1.trans h2)
     ·exact .inr ⟨e2,st2,W2,t2,s2,h2,h3,h1.trans h4⟩
    |false=>
     rw[hxw]at hw h1;have hrun:Ay C h cf draw ops B (i::is) lg e st W=Ay C h cf draw ops B is lg (Am e o.dst (.tup [])) st W:=by rw[Ay,ho];dsimp only;rw[hw]
     rcases ih (Am e o.dst (.tup [])) (p (.tup []) t) st s W lg (hp e t _ st s hI)with h2|⟨e2,st2,W2,t2,s2,h2,h3,h4⟩
     ·exact .inl (h1.trans h2)
     ·exact .inr ⟨e2,st2,W2,t2,s2,by dsimp only;rw[hrun];exact h2,h3,h1.trans h4⟩
   ·rw[hx]at hget;have hw:Ct o ops e=some false:=by
     unfold Ct;rw[hg];dsimp only;rw[htj];dsimp only;rw[hget]
    have hrun:Ay C h cf draw ops B (i::is) lg e st W=Ay C h cf draw ops B is lg (Am e o.dst (.tup [])) st W:=by rw[Ay,ho];dsimp only;rw[hw]
    rcases ih (Am e o.dst (.tup [])) (p (.tup []) t) st s W lg (hp e t _ st s hI)with h2|⟨e2,st2,W2,t2,s2,h2,h3,h4⟩
    ·exact .inl (h1.trans h2)
    ·exact .inr ⟨e2,st2,W2,t2,s2,by dsimp only;rw[hrun];exact h2,h3,h1.trans h4⟩
  ·exact .bad
theorem Anp(hL:L≤256)(hcf:CfR cfF cf){ops:Array Oper}{md:Option (Array Nat)}(hmd:md=none∧draw=false∨md=some B∧draw=true):
  ∀is,Re L cfF (toK C h L ops md is) (fun e st W lg=>Ay C h cf draw ops B is lg e st W)
 | []=>fun e t st s W lg hI=> .inr ⟨e,st,W,t,s,rfl,hI,rfl⟩
 |i::is=>by
  unfold toK;rw[Jk,Array.getElem?_toList];split
  case h_2=>exact .bad
  rename_i o ho;have ih:=Anp hL hcf (ops:=ops) (md:=md) hmd is;exact step_ok hL hcf hmd ho (.inl rfl) ih
theorem Aow(hL:L≤256)(hcf:CfR cfF cf){ops:Array Oper}:∀(l:List Oper) (i:Nat),ops.toList.drop i=l→Re L cfF (Ay9 C h L ops l) (fun e st W lg=>Ay C h cf false ops B (List.range' i l.length) lg e st W)
 | [],i,hl=>fun e t st s W lg hI=> .inr ⟨e,st,W,t,s,rfl,hI,rfl⟩
 |o::l,i,hl=>by
  have ho:ops[i]?=some o:=by rw[← Array.getElem?_toList];have:=congrArg (fun l=>l[0]?) hl;simpa using this
  have hl2:ops.toList.drop (i+1)=l:=by rw[← List.drop_drop,hl];rfl
  rw[List.length_cons,List.range'_succ];exact step_ok (B:=B) hL hcf (.inl ⟨rfl,rfl⟩) ho (.inr rfl) (Aow hL hcf l (i+1) hl2)
end
end
noncomputable section
inductive KC where
 |skip
 |bad
 |reg(k:Kc)
 |seq(a b:KC)
 |cond(g:Rt→D)(a b:KC)
 |block(id:Nat)(a:KC)
 |loop(n:Nat)(a:KC)
 |exit(id:Nat)
 |ret
def Agv(f:Rt→FS→KX)(n:Nat):Rt→FS→Cb→KX:=
 @Nat.rec.{1} (fun _=>Rt→FS→Cb→KX) (fun _ _ _=> .bad)
  (fun _ ih t s W=> @KX.rec.{1} (fun _=>KX) .bad (fun t s V=>ih t s (jw V W)) (fun id t s V=> .exit id t s (jw V W)) (fun t s V=> .ret t s (jw V W)) (f t s)) n
def Na(c:KC):FF→Rt→FS→KX:=
 @KC.rec.{1} (fun _=>FF→Rt→FS→KX)
  (fun _ t s=> .norm t s [])
  (fun _ _ _=> .bad)
  (fun k cf t s=> @KR.rec.{1} (fun _=>KX) .bad (fun t s W=> .norm t s W) (Oy k cf t s [] []))
  (fun _ _ iha ihb cf t s=> @KX.rec.{1} (fun _=>KX) .bad
   (fun t s V=> @KX.rec.{1} (fun _=>KX) .bad (fun t s W=> .norm t s (jw W V)) (fun id t s W=> .exit id t s (jw W V)) (fun t s W=> .ret t s (jw W V)) (ihb cf t s))
   (fun id t s V=> .exit id t s V) (fun t s V=> .ret t s V) (iha cf t s))
  (fun g _ _ iha ihb cf t s=>Ako (g t) (iha cf t s) (ihb cf t s))
  (fun id _ ih cf t s=> @KX.rec.{1} (fun _=>KX) .bad (fun t s V=> .norm t s V) (fun i t s V=> @Bool.rec.{1} (fun _=>KX) (.exit i t s V) (.norm t s V) (Nat.beq i id)) (fun t s V=> .ret t s V) (ih cf t s))
  (fun n _ ih cf t s=>Agv (ih cf) n t s [])
  (fun id _ t s=> .exit id t s [])
  (fun _ t s=> .ret t s [])
  c
def Aga(C:Eo)(h:Bool)(L:Nat)(ol:Option (List Nat × Bool))(ops:Array Oper)(draw:Bool):Kc:=
 match draw,ol with
 |false,_=>Ay9 C h L ops ops.toList
 |true,some (l,true)=>toK C h L ops none l
 |true,some (l,false)=>toK C h L ops (some (Region.before ops)) l
 |true,none=> .bad
def Ke(C:Eo)(h:Bool)(od:Nat→Option (List Nat × Bool))(L N:Nat):Code→KC
 | .skip=> .skip
 | .region id ops draw=> .reg (Aga C h L (od id) ops draw)
 | .seq a b=> .seq (Ke C h od L N a) (Ke C h od L N b)
 | .cond c a b=>cG L c KC (fun g=> .cond g (Ke C h od L N a) (Ke C h od L N b)) .bad
 | .block id b=> .block id (Ke C h od L N b)
 | .loop b=> .loop N (Ke C h od L N b)
 | .exit id=> .exit id
 | .label _=> .skip
 | .ret=> .ret
 |_=> .bad
def exK(x:Ex)(t:Rt)(s:FS)(W:Cb):KX:=
 match x with
 | .norm=> .norm t s W
 | .exit id=> .exit id t s W
 | .ret=> .ret t s W
def XOk(L:Nat)(spec:Env→St→ExR)(f:Rt→FS→KX):Prop:=
 ∀e t st s,In L e t st s→f t s= .bad∨∃x e' st' W t' s',spec e st=some (x,e',st',W)∧In L e' t' st' s'∧f t s=exK x t' s' W
section
variable{C:Eo}{h:Bool}{L:Nat}{cfF:FF}{cf:Ah}
theorem Ak3{f:Rt→FS→KX}{ex:Env→St→ExR}(hf:XOk L ex f):∀(n:Nat) (W:Cb),XOk L (fun e st=>Iq ex n e st W) (fun t s=>Agv f n t s W)
 |0,W=>fun _ _ _ _ _=> .inl rfl
 |n+1,W=>fun e t st s hI=>by
  show(@KX.rec (fun _=>KX) .bad (fun t s V=>Agv f n t s (jw V W)) (fun id t s V=> .exit id t s (jw V W)) (fun t s V=> .ret t s (jw V W)) (f t s))= .bad∨∃x e' st' W' t' s',_∧_∧(@KX.rec (fun _=>KX) .bad (fun t s V=>Agv f n t s (jw V W)) (fun id t s V=> .exit id t s (jw V W)) (fun t s V=> .ret t s (jw V W)) (f t s))=_;rcases hf e t st s hI with h1|⟨x,e1,st1,V,t1,s1,h1,h2,h3⟩
  ·exact .inl (by rw[h1])
  ·rw[h3];dsimp only;unfold Iq;rw[h1];cases x with
   |norm=>dsimp only;show Agv f n t1 s1 (jw V W)= .bad∨∃x e' st' W' t' s',_∧_∧Agv f n t1 s1 (jw V W)=_;rw[Ab2];exact Ak3 hf n (Dj V W) e1 t1 st1 s1 h2
   |exit id=>exact .inr ⟨_,e1,st1,Dj V W,t1,s1,rfl,h2,by show KX.exit id t1 s1 (jw V W)=_;rw[Ab2];rfl⟩
   |ret=>exact .inr ⟨_,e1,st1,Dj V W,t1,s1,rfl,h2,by show KX.ret t1 s1 (jw V W)=_;rw[Ab2];rfl⟩
theorem Auf(hL:L≤256)(hcf:CfR cfF cf){ol:Option (List Nat × Bool)}{ops:Array Oper}{draw:Bool}:
  ∀e t st s,In L e t st s→Oy (Aga C h L ol ops draw) cfF t s [] []= .bad∨∃e' st' W t' s',region C h cf ol ops draw e st=some (e',st',W)∧In L e' t' st' s'∧Oy (Aga C h L ol ops draw) cfF t s [] []= .ok t' s' W:=by
 intro e t st s hI;unfold Aga region;split
 ·simp only[BF];have:=Aow (C:=C) (h:=h) (B:= #[]) (ops:=ops) hL hcf ops.toList 0 (by simp) e t st s [] [] hI
  rw[List.range_eq_range',← Array.length_toList];exact this
 ·simp only[if_true];exact Anp (C:=C) (h:=h) (B:= #[]) (ops:=ops) hL hcf (.inl ⟨rfl,rfl⟩) _ e t st s [] [] hI
 ·simp only[if_true];exact Anp (C:=C) (h:=h) (B:=Region.before ops) (ops:=ops) hL hcf (.inr ⟨rfl,rfl⟩) _ e t st s [] [] hI
 ·exact .inl rfl
theorem Amj{d:D}{a b:KX}:Ako d a b= .bad∨(d= .bool true∧Ako d a b=a)∨(d= .bool false∧Ako d a b=b):=by
 cases d with
 |bool x=>cases x with
  |true=>exact .inr (.inl ⟨rfl,rfl⟩)
  |false=>exact .inr (.inr ⟨rfl,rfl⟩)
 |_=>exact .inl rfl
theorem Az4(hL:L≤256)(hcf:CfR cfF cf){od:Nat→Option (List Nat × Bool)}{N:Nat}:∀(c:Code),XOk L (exec C h od cf N c) (Na (Ke C h od L N c) cfF):=by
 intro c;induction c with
 |skip=>exact fun e t st s hI=> .inr ⟨.norm,e,st,[],t,s,rfl,hI,rfl⟩
 |region id ops draw=>
  intro e t st s hI;show(@KR.rec (fun _=>KX) .bad (fun t s W=> .norm t s W) (Oy (Aga C h L (od id) ops draw) cfF t s [] []))= .bad∨∃x e' st' W' t' s',_∧_∧(@KR.rec (fun _=>KX) .bad (fun t s W=> .norm t s W) (Oy (Aga C h L (od id) ops draw) cfF t s [] []))=_;rcases Auf (C:=C) (h:=h) hL hcf (ol:=od id) (ops:=ops) (draw:=draw) e t st s hI with h1|⟨e1,st1,W,t1,s1,h1,h2,h3⟩
  ·exact .inl (by rw[h1])
  ·rw[h3];exact .inr ⟨.norm,e1,st1,W,t1,s1,by unfold exec;rw[h1],h2,rfl⟩
 |seq a b iha ihb=>
  intro e t st s hI;have hdef:Na (Ke C h od L N (.seq a b)) cfF t s= @KX.rec (fun _=>KX) .bad
   (fun t s V=> @KX.rec (fun _=>KX) .bad (fun t s W=> .norm t s (jw W V)) (fun id t s W=> .exit id t s (jw W V)) (fun t s W=> .ret t s (jw W V)) (Na (Ke C h od L N b) cfF t s))
   (fun id t s V=> .exit id t s V) (fun t s V=> .ret t s V) (Na (Ke C h od L N a) cfF t s):=rfl
  rw[hdef];rcases iha e t st s hI with h1|⟨x,e1,st1,V,t1,s1,h1,h2,h3⟩
  ·exact .inl (by rw[h1])
  ·rw[h3];unfold exec;rw[h1];cases x with
   |norm=>
    dsimp only[exK];rcases ihb e1 t1 st1 s1 h2 with h4|⟨x,e2,st2,W,t2,s2,h4,h5,h6⟩
    ·exact .inl (by rw[h4])
    ·rw[h6,h4];refine .inr ⟨x,e2,st2,Dj W V,t2,s2,rfl,h5,?_⟩;cases x<;>(dsimp only[exK];rw[Ab2])
   |exit id=>exact .inr ⟨_,e1,st1,V,t1,s1,rfl,h2,rfl⟩
   |ret=>exact .inr ⟨_,e1,st1,V,t1,s1,rfl,h2,rfl⟩
 |cond c a b iha ihb=>
  intro e t st s hI;rcases El hL (x:=c) (k:=fun g=>KC.cond g (Ke C h od L N a) (Ke C h od L N b)) (bad:= .bad)with h0|⟨g,hg,h0⟩
  ·exact .inl (by show Na (cG L c KC (fun g=>KC.cond g (Ke C h od L N a) (Ke C h od L N b)) .bad) cfF t s=_;rw[h0];rfl)
  ·have hdef:Na (Ke C h od L N (.cond c a b)) cfF t s=Ako (g t) (Na (Ke C h od L N a) cfF t s) (Na (Ke C h od L N b) cfF t s):=by
    show Na (cG L c KC (fun g=>KC.cond g (Ke C h od L N a) (Ke C h od L N b)) .bad) cfF t s=_;rw[h0];rfl
   rw[hdef];unfold exec;rw[← hg e t hI.len hI.rel];rcases Amj (d:=g t) (a:=Na (Ke C h od L N a) cfF t s) (b:=Na (Ke C h od L N b) cfF t s)with h1|⟨hd,h1⟩|⟨hd,h1⟩
   ·exact .inl h1
   ·rw[h1,hd];exact iha e t st s hI
   ·rw[h1,hd];exact ihb e t st s hI
 |block id b ih=>
  intro e t st s hI;have hdef:Na (Ke C h od L N (.block id b)) cfF t s= @KX.rec (fun _=>KX) .bad (fun t s V=> .norm t s V) (fun i t s V=> @Bool.rec (fun _=>KX) (.exit i t s V) (.norm t s V) (Nat.beq i id)) (fun t s V=> .ret t s V) (Na (Ke C h od L N b) cfF t s):=rfl;rw[hdef];rcases ih e t st s hI with h1|⟨x,e1,st1,V,t1,s1,h1,h2,h3⟩
  ·exact .inl (by rw[h1])
  ·rw[h3];unfold exec;rw[h1];cases x with
   |norm=>exact .inr ⟨_,e1,st1,V,t1,s1,rfl,h2,rfl⟩
   |exit i=>
    dsimp only[exK];rw[Ul];by_cases hi:i=id
    ·refine .inr ⟨.norm,e1,st1,V,t1,s1,by rw[if_pos hi],h2,by rw[decide_eq_true hi]⟩
    ·refine .inr ⟨.exit i,e1,st1,V,t1,s1,by rw[if_neg hi],h2,by rw[decide_eq_false hi]⟩
   |ret=>exact .inr ⟨_,e1,st1,V,t1,s1,rfl,h2,rfl⟩
 |loop b ih=>intro e t st s hI;unfold exec;exact Ak3 ih N [] e t st s hI
 |exit id=>exact fun e t st s hI=> .inr ⟨.exit id,e,st,[],t,s,rfl,hI,rfl⟩
 |label n=>exact fun e t st s hI=> .inr ⟨.norm,e,st,[],t,s,rfl,hI,rfl⟩
 |ret=>exact fun e t st s hI=> .inr ⟨.ret,e,st,[],t,s,rfl,hI,rfl⟩
 |_=>exact fun e t st s hI=> .inl rfl
end
abbrev RF:=Rt→FS→(D→Fh)→Fh
abbrev Aaq:=FF→List D→FS→Fh
inductive FN where
 |none
 |nat(g:Aaq)
 |body(c:KC)(ps:List (D→Rt→Rt))(rs:List RF)(keep:Nat)
def Acf(g:Rt→D):RF:=fun t _ k=>k (g t)
def Og(P:Program)(ty:TypeId)(g:Rt→D):RF:=fun t s k=>@Option.rec.{1,0} (D × Fx) (fun _=>Fh) .bad (fun p=>k p.1) (Fp P ty (g t) (stF s))
def Qr(rs:List RF)(t:Rt)(s:FS)(k:List D→Fh):Fh:=
 @List.rec.{1,0} RF (fun _=>(List D→Fh)→Fh) (fun k=>k []) (fun r _ ih k=>r t s fun v=>ih fun vs=>k (v::vs)) rs k
def Ajp(ds:List D):D:= @List.rec.{1,0} D (fun _=>D) (.tup []) (fun d l _=> @List.rec.{1,0} D (fun _=>D) d (fun _ _ _=> .tup (d::l)) l) ds
def Anf(n0:Nat)(s:FS)(V:Cb):Bool:=
 @List.rec.{1,0} Nat (fun _=>Bool) false (fun id _ ih=> @Bool.rec.{1} (fun _=>Bool) ih true (Aau Bool s id (fun o=>Zl n0 o) true)) V
def Auk(n0:Nat)(v:D)(s:FS)(V:Cb):Fh:=
 @Bool.rec.{1} (fun _=>Fh) (@FS.rec.{1} (fun _=>Fh) (fun n l=> .ok v ⟨n0,U9 l (Nat.sub n n0)⟩ V) s) (.ok v s V) (@Bool.rec.{1} (fun _=>Bool) (Anf n0 s V) true (Azt n0 v))
def Ain(n0:Nat)(v:D)(s:FS)(W:Cb):Fh:=
 @Bool.rec.{1} (fun _=>Fh) (@Bool.rec.{1} (fun _=>Fh) .bad (Auk n0 v s (Axu n0 W)) (Nat.ble n0 s.n)) (.ok v s (Axu n0 W)) (Nat.beq s.n n0)
def Ai1(n0:Nat)(vs:List D)(s:FS)(W:Cb):Fh:=
 @Option.rec.{1,0} (List D × St) (fun _=>Fh) .bad (fun p=>Ain n0 (Ajp p.1) (Yn p.2) (Dj (Dn (stF s) p.2) W)) (Cw (stF s) vs)
def Axe(n0:Nat)(vs:List D)(s:FS)(W:Cb):Fh:=fzR Fh fz1 vs (fun vs=>Ain n0 (Ajp vs) s W) (Ai1 n0 vs s W)
def Ahf(vs:List D):Bool:=match vs with
 | [.nilsl]=>true
 |_=>false
def Zo(keep:Nat)(n0:Nat)(vs:List D)(s:FS)(W:Cb):Fh:=
 @Nat.rec.{1} (fun _=>Fh) (Axe n0 vs s W) (fun k _=> @Nat.rec.{1} (fun _=>Fh) (@Bool.rec.{1} (fun _=>Fh) (Axe n0 vs s W) (Ain n0 (Ajp vs) s W) (Ahf vs)) (fun _ _=>Ain n0 (Ajp vs) s W) k) keep
def Ahp(ps:List (D→Rt→Rt))(args:List D)(t:Rt)(k:Rt→Fh):Fh:=
 @List.rec.{1,0} (D→Rt→Rt) (fun _=>List D→Rt→Fh) (fun args t=> @List.rec.{1,0} D (fun _=>Fh) (k t) (fun _ _ _=> .bad) args)
  (fun p _ ih args t=> @List.rec.{1,0} D (fun _=>Fh) .bad (fun d l _=>ih l (p d t)) args) ps args t
def Bcx(c:KC)(ps:List (D→Rt→Rt))(rs:List RF)(keep:Nat)(cf:FF)(args:List D)(s:FS):Fh:=
 Ahp ps args uT fun t=> @KX.rec.{1} (fun _=>Fh) .bad (fun t' s' W=>Qr rs t' s' fun vs=>Zo keep s.n vs s' W) (fun _ _ _ _=> .bad) (fun t' s' W=>Qr rs t' s' fun vs=>Zo keep s.n vs s' W) (Na c cf t s)
def Ach:Nat→Nat→(List (D→Rt→Rt)→FN)→FN
 |_,0,k=>k []
 |i,n+1,k=> @PW.rec.{1} (fun _=>FN) .none (fun p=>Ach (i+1) n fun ps=>k (p::ps)) (Bbu i)
def Ov(C:Eo)(L:Nat):List ResultVar→(List RF→FN)→FN
 | [],k=>k []
 | .tmp i::l,k=>cG L (.tmp i) FN (fun g=>Ov C L l fun rs=>k (Acf g::rs)) .none
 | .cell a ty::l,k=>cG L (.tmp a) FN (fun g=>Ov C L l fun rs=>k (Og C.P ty g::rs)) .none
def U3(C:Eo)(f:FuncId):Nat:=if C.keepArr.contains f then 2 else if C.keepNil.contains f then 1 else 0
def A4g(g:Bz):Aaq:=fun cf args s=>@Option.rec.{1,0} (D × St × Cb) (fun _=>Fh) .bad (fun p=> .ok p.1 (Yn p.2.1) p.2.2) (g cf0 args (stF s))
def Ra(spec:Res)(r:Fh):Prop:=r= .bad∨∃v st' s' W,spec=some (v,st',W)∧O1 st' s'∧r= .ok v s' W
theorem Aiq(ds:List D):Ajp ds=oneOf ds:=by
 match ds with
 | []=>rfl
 | [d]=>rfl
 |d::d'::l=>rfl
def A5z(st:St)(n0 id:Nat):Bool:=match st[id]? with
 |some o=>Zl n0 o
 |none=>true
theorem Agl{st:St}{s:FS}(hs:O1 st s)(n0:Nat):∀(V:Cb),Anf n0 s V=V.any (A5z st n0)
 | []=>rfl
 |id::V=>by show(@Bool.rec (fun _=>Bool) (Anf n0 s V) true (Aau Bool s id (fun o=>Zl n0 o) true))=_;rw[Agl hs n0 V,Tw hs,List.any_cons];exact orB _ _
theorem Ye{st:St}{s:FS}(hs:O1 st s)(n0:Nat)(v:D)(W:Cb):Ra (finish n0 v st W) (Ain n0 v s W):=by
 unfold Ain finish;rw[Ao3,Ul,Ep,hs.1];dsimp only;by_cases h1:st.length=n0
 ·rw[decide_eq_true h1];refine .inr ⟨v,st,s,W.filter (· <n0),?_,hs,rfl⟩;split
  ·rfl
  ·rw[← h1,List.take_length]
 ·rw[decide_eq_false h1];by_cases h2:n0≤st.length
  ·rw[decide_eq_true h2];dsimp only;unfold Auk;rw[Agl hs,Aip];have hor:∀x y:Bool,(@Bool.rec.{1} (fun _=>Bool) y true x)=(x || y):=orB;rw[hor];change Ra (if(D8 n0 v || (W.filter (· <n0)).any (A5z st n0))=true then _ else _) _;split
   ·rename_i hc;rw[hc];exact .inr ⟨v,st,s,_,rfl,hs,rfl⟩
   ·rename_i hc;simp only[Bool.not_eq_true]at hc;rw[hc];refine .inr ⟨v,st.take n0,_,_,rfl,?_,by rw[hs.eq]⟩
    refine⟨by rw[List.length_take];show n0=_;omega,?_⟩
    show U9 st.reverse (st.length - n0)=_;rw[Rw,List.reverse_take]
  ·rw[decide_eq_false h2];exact .inl rfl
def Xh(st:St)(n0:Nat)(vs:List D)(r:Option (List D × St))(W:Cb):Res:=match r with
 |some (vs,st2)=>finish n0 (oneOf vs) st2 (Dj (Dn st st2) W)
 |none=>none
theorem Agc{st:St}{s:FS}(hs:O1 st s)(n0:Nat)(vs:List D)(W:Cb):Ra (Xh st n0 vs (Cw st vs) W) (Axe n0 vs s W):=by
 unfold Axe;rcases Xb (R:=Fh) (f:=fz1) (k:=fun vs=>Ain n0 (Ajp vs) s W) (bad:=Ai1 n0 vs s W) vs with h|⟨as,h1,h2⟩
 ·rw[h];unfold Ai1;rw[hs.stF];cases hz:Cw st vs with
  |none=>exact .inl rfl
  |some p=>dsimp only;rw[Aiq];exact Ye (Ada _) _ _ _
 ·rw[h2,Ap2 h1];unfold Xh;dsimp only;rw[Du,Aiq];exact Ye hs _ _ _
theorem An2{C:Eo}{f:FuncId}{st:St}{s:FS}(hs:O1 st s)(n0:Nat)(vs:List D)(W:Cb):Ra (Xh st n0 vs (Ls C f vs st) W) (Zo (U3 C f) n0 vs s W):=by
 have plain:Ra (Xh st n0 vs (some (vs,st)) W) (Ain n0 (Ajp vs) s W):=by unfold Xh;dsimp only;rw[Du,Aiq];exact Ye hs _ _ _
 unfold U3 Ls;split
 ·exact plain
 ·split
  ·show Ra _ (@Bool.rec (fun _=>Fh) (Axe n0 vs s W) (Ain n0 (Ajp vs) s W) (Ahf vs));cases hnil:Ahf vs with
   |true=>
    unfold Ahf at hnil;split at hnil
    ·exact plain
    ·cases hnil
   |false=>
    dsimp only;split
    ·cases hnil
    ·exact Agc hs n0 vs W
  ·exact Agc hs n0 vs W
theorem Xl{k:Rt→Fh}:∀(ps:List (D→Rt→Rt)) (args:List D) (t:Rt),Ahp ps args t k= .bad∨(args.length=ps.length∧Ahp ps args t k=k ((ps.zip args).foldl (fun t p=>p.1 p.2 t) t))
 | [],[],t=> .inr ⟨rfl,rfl⟩
 | [],_::_,t=> .inl rfl
 |p::ps,[],t=> .inl rfl
 |p::ps,d::args,t=>by
  rcases Xl (k:=k) ps args (p d t)with h|⟨h1,h2⟩
  ·exact .inl h
  ·exact .inr ⟨by simp[h1],h2⟩
def Avm(i:Nat)(ps:List (D→Rt→Rt)):Prop:=∀(j:Nat) (p:D→Rt→Rt),ps[j]?=some p→p=pN (i+j)
theorem Zn{k:List (D→Rt→Rt)→FN}:∀(n i:Nat),i+n≤256→Ach i n k= .none∨∃ps,ps.length=n∧Avm i ps∧Ach i n k=k ps
 |0,i,_=> .inr ⟨[],rfl,fun j p h=>by simp at h,rfl⟩
 |n+1,i,hi=>by
  unfold Ach;rw[Aog (by omega)]
  rcases Zn (k:=fun ps=>k (pN i::ps)) n (i+1) (by omega)with h|⟨ps,h1,h2,h3⟩
  ·exact .inl h
  ·refine .inr ⟨pN i::ps,by simp[h1],fun j p hj=>?_,h3⟩
   cases j with
   |zero=>simp at hj;exact hj.symm
   |succ j=>rw[h2 j p (by simpa using hj)];congr 1;omega
theorem Apg{L:Nat}(hL:L≤256):∀(ps:List (D→Rt→Rt)) (args:List D) (i:Nat) (e:Env) (t:Rt),Avm i ps→args.length=ps.length→i+args.length≤L→e.length=L→Rel e t→Rel (e.take i++args++e.drop (i+args.length)) ((ps.zip args).foldl (fun t p=>p.1 p.2 t) t)
 | [],[],i,e,t,hp,hl,hi,he,hr=>by simpa using hr
 | [],_::_,i,e,t,hp,hl,hi,he,hr=>by simp at hl
 |_::_,[],i,e,t,hp,hl,hi,he,hr=>by simp at hl
 |p::ps,d::args,i,e,t,hp,hl,hi,he,hr=>by
  have hp0:p=pN i:=by have:=hp 0 p rfl;simpa using this
  subst hp0;simp only[List.length_cons]at hl hi;have:=Apg hL ps args (i+1) (e.set i d) (pN i d t) (fun j q hj=>by rw[hp (j+1) q (by simpa using hj)];congr 1;omega) (by omega) (by omega) (by simp[he]) (hr.put (by omega) d)
  rw[List.zip_cons_cons,List.foldl_cons];have e1:(e.set i d).take (i+1)=e.take i++ [d]:=by
   rw[List.take_set];rw[List.take_add_one];have hi':i<e.length:=by omega
   rw[List.getElem?_eq_getElem hi'];simp only[Option.toList_some];rw[List.set_append_right _ _ (by simp;omega)]
   simp[Nat.min_eq_left (show i≤e.length by omega)]
  have e2:(e.set i d).drop (i+1+args.length)=e.drop (i+(args.length+1)):=by
   rw[List.drop_set,if_pos (by omega)]
   congr 1;omega
  rw[e1,e2]at this;simpa[List.length_cons]using this
theorem Asf(L:Nat)(hL:L≤256):Rel (List.replicate L .undef) uT:=
 ⟨by simpa using hL,fun i hi=>by simp only[List.length_replicate]at hi;rw[List.getElem?_replicate,if_pos hi,Bdt (by omega)]⟩
def Apo(P:Program)(L:Nat):List ResultVar→List RF→Prop
 | [],[]=>True
 | .tmp i::l,r::rs=>∃g,Qt L (.tmp i) g∧r=Acf g∧Apo P L l rs
 | .cell a ty::l,r::rs=>∃g,Qt L (.tmp a) g∧r=Og P ty g∧Apo P L l rs
 |_,_=>False
theorem R7{P:Program}{L:Nat}{e:Env}{t:Rt}{st:St}{s:FS}(hI:In L e t st s){k:List D→Fh}:∀(l:List ResultVar) (rs:List RF),Apo P L l rs→∀(k:List D→Fh),Qr rs t s k= .bad∨∃vs,Gm P e st l=some vs∧Qr rs t s k=k vs
 | [],[],_,k=> .inr ⟨[],rfl,rfl⟩
 | .tmp i::l,r::rs,h,k=>by
  obtain⟨g,hg,rfl,h2⟩:=h;have:=R7 hI (k:=k) l rs h2 (fun vs=>k (g t::vs));rcases this with h3|⟨vs,h3,h4⟩
  ·exact .inl h3
  ·refine .inr ⟨g t::vs,?_,h4⟩;unfold Gm;rw[h3,hg e t hI.len hI.rel];rfl
 | .cell a ty::l,r::rs,h,k=>by
  obtain⟨g,hg,rfl,h2⟩:=h;show Og P ty g t s (fun v=>Qr rs t s fun vs=>k (v::vs))= .bad∨∃vs,_∧Og P ty g t s (fun v=>Qr rs t s fun vs=>k (v::vs))=_;unfold Og;rw[hI.fs.stF];have hga:g t=e.getD a .undef:=hg e t hI.len hI.rel;rw[hga];cases hl:Fp P ty (e.getD a .undef) st with
  |none=>exact .inl rfl
  |some p=>
   obtain⟨v,fx⟩:=p;dsimp only;rcases R7 hI (k:=k) l rs h2 (fun vs=>k (v::vs))with h3|⟨vs,h3,h4⟩
   ·exact .inl h3
   ·refine .inr ⟨v::vs,?_,h4⟩;unfold Gm;rw[h3,hl]
 | [],_::_,h,k=>h.elim
 | .tmp _::_,[],h,k=>h.elim
 | .cell _ _::_,[],h,k=>h.elim
theorem R8{C:Eo}{L:Nat}(hL:L≤256):∀(l:List ResultVar) (k:List RF→FN),Ov C L l k= .none∨∃rs,Apo C.P L l rs∧Ov C L l k=k rs
 | [],k=> .inr ⟨[],trivial,rfl⟩
 | .tmp i::l,k=>by
  unfold Ov;rcases El hL (x:= .tmp i) (k:=fun g=>Ov C L l fun rs=>k (Acf g::rs)) (bad:=FN.none)with h|⟨g,h1,h2⟩
  ·exact .inl h
  ·rw[h2];rcases R8 hL l (fun rs=>k (Acf g::rs))with h|⟨rs,h3,h4⟩
   ·exact .inl h
   ·exact .inr ⟨Acf g::rs,⟨g,h1,rfl,h3⟩,h4⟩
 | .cell a ty::l,k=>by
  unfold Ov;rcases El hL (x:= .tmp a) (k:=fun g=>Ov C L l fun rs=>k (Og C.P ty g::rs)) (bad:=FN.none)with h|⟨g,h1,h2⟩
  ·exact .inl h
  ·rw[h2];rcases R8 hL l (fun rs=>k (Og C.P ty g::rs))with h|⟨rs,h3,h4⟩
   ·exact .inl h
   ·exact .inr ⟨Og C.P ty g::rs,⟨g,h1,rfl,h3⟩,h4⟩
def Bd6(nat:FuncId→Option Bz):Prop:=∀f g,nat f=some g→∀cf args st v st' W,g cf0 args st=some (v,st',W)→g cf args st=some (v,st',W)
end
noncomputable section
def A9n(C:Eo)(fnt:FuncId→Option Aaq)(N:Nat)(f:FuncId):FN:=
 match fnt f with
 |some g=> .nat g
 |none=>match Ma (Option Func) C.P.funcs.toList f some none with
  |none=> .none
  |some fn=>match fn.body with
   |none=> .none
   |some c=>match Nat.ble fn.ntmps 256,Nat.ble (fn.params.size+fn.nfree) fn.ntmps with
    |true,true=>Ach 0 (fn.params.size+fn.nfree) fun ps=>Ov C fn.ntmps fn.results.toList fun rs=> .body (Ke C (C.hnd.contains f) (C.ords f) fn.ntmps N c) ps rs (U3 C f)
    |_,_=> .none
def Zv(C:Eo)(fnt:FuncId→Option Aaq)(N:Nat)(n:Nat):FF:=
 @Nat.rec.{1} (fun _=>FF) (fun _ _ _=> .bad) (fun _ ih f args s=> @FN.rec.{1} (fun _=>Fh) .bad (fun g=>g ih args s) (fun c ps rs keep=>Bcx c ps rs keep ih args s) (A9n C fnt N f)) n
def Av0(nat:FuncId→Option Bz)(fnt:FuncId→Option Aaq):Prop:=∀f,match fnt f with
 |some fg=>∃g,nat f=some g∧∀cf cfF args st s,O1 st s→Ra (g cf args st) (fg cfF args s)
 |none=>nat f=none
theorem Ajf{C:Eo}{nat:FuncId→Option Bz}{fnt:FuncId→Option Aaq}(hn:Av0 nat fnt)(N:Nat):∀n,CfR (Zv C fnt N n) (Ii C nat N n)
 |0=>fun f args st s hs=> .inl rfl
 |n+1=>fun f args st s hs=>by
  have ih:=Ajf hn N n (C:=C);show Ra _ (@FN.rec (fun _=>Fh) .bad (fun g=>g (Zv C fnt N n) args s) (fun c ps rs keep=>Bcx c ps rs keep (Zv C fnt N n) args s) (A9n C fnt N f));unfold A9n Ii;have hnf:=hn f;cases hnat:fnt f with
  |some fg=>rw[hnat]at hnf;obtain⟨g,hg,hfg⟩:=hnf;rw[hg];exact hfg _ _ args st s hs
  |none=>
   rw[hnat]at hnf;have hnf:nat f=none:=hnf;rw[hnf];dsimp only;unfold run;rw[show Ma (Option Func) C.P.funcs.toList f some none=C.P.funcs[f]? from by rw[Jk,Array.getElem?_toList];cases C.P.funcs[f]?<;>rfl]
   cases hfn:C.P.funcs[f]? with
   |none=>exact .inl rfl
   |some fn=>
   dsimp only;cases hc:fn.body with
   |none=>exact .inl rfl
   |some c=>
   dsimp only;cases hL0:Nat.ble fn.ntmps 256 with
   |false=>exact .inl rfl
   |true=>
   cases hA0:Nat.ble (fn.params.size+fn.nfree) fn.ntmps with
   |false=>exact .inl rfl
   |true=>
   have hL:fn.ntmps≤256:=Nat.le_of_ble_eq_true hL0;have hA:fn.params.size+fn.nfree≤fn.ntmps:=Nat.le_of_ble_eq_true hA0;dsimp only;rcases Zn (k:=fun ps=>Ov C fn.ntmps fn.results.toList fun rs=> .body (Ke C (C.hnd.contains f) (C.ords f) fn.ntmps N c) ps rs (U3 C f)) (fn.params.size+fn.nfree) 0 (by omega)with h|⟨ps,h1,h2,h3⟩
   ·rw[h];exact .inl rfl
   rw[h3];rcases R8 (C:=C) hL fn.results.toList (fun rs=> .body (Ke C (C.hnd.contains f) (C.ords f) fn.ntmps N c) ps rs (U3 C f))with h|⟨rs,h4,h5⟩
   ·rw[h];exact .inl rfl
   rw[h5];dsimp only;unfold Bcx;generalize hK:(fun t=> @KX.rec.{1} (fun _=>Fh) .bad (fun t' s' W=>Qr rs t' s' fun vs=>Zo (U3 C f) s.n vs s' W) (fun _ _ _ _=> .bad) (fun t' s' W=>Qr rs t' s' fun vs=>Zo (U3 C f) s.n vs s' W)
    (Na (Ke C (C.hnd.contains f) (C.ords f) fn.ntmps N c) (Zv C fnt N n) t s))=K
   rcases Xl (k:=K) ps args uT with h|⟨h6,h7⟩
   ·rw[h];exact .inl rfl
   rw[h7];subst hK;dsimp only;have hlen:args.length≤fn.ntmps:=by rw[h6,h1];exact hA
   have hrel:=Apg hL ps args 0 (List.replicate fn.ntmps .undef) uT h2 h6 (by omega) (by simp) (Asf _ hL)
   simp only[List.take_zero,List.nil_append,Nat.zero_add,List.drop_replicate]at hrel;have hI:In fn.ntmps (args++List.replicate (fn.ntmps - args.length) .undef) ((ps.zip args).foldl (fun t p=>p.1 p.2 t) uT) st s:=⟨by simp;omega,hrel,hs⟩
   rcases Az4 (C:=C) (h:=C.hnd.contains f) hL ih (od:=C.ords f) (N:=N) c _ _ st s hI with h8|⟨x,e1,st1,W,t1,s1,h8,h9,h10⟩
   ·rw[h8];exact .inl rfl
   rw[h10,h8];have fin:Ra (match Gm C.P e1 st1 fn.results.toList with
     |none=>none
     |some vs=>match Ls C f vs st1 with
      |some (vs,st2)=>finish st.length (oneOf vs) st2 (Dj (Dn st1 st2) W)
      |none=>none) (Qr rs t1 s1 fun vs=>Zo (U3 C f) s.n vs s1 W):=by
    rcases R7 h9 (k:=fun vs=>Zo (U3 C f) s.n vs s1 W) fn.results.toList rs h4 (fun vs=>Zo (U3 C f) s.n vs s1 W)with h|⟨vs,h11,h12⟩
    ·rw[h];exact .inl rfl
    ·rw[h11,h12,hs.1];exact An2 h9.fs st.length vs W
   cases x with
   |norm=>exact fin
   |exit id=>exact .inl rfl
   |ret=>exact fin
theorem S9{C:Eo}{nat:FuncId→Option Bz}{fnt:FuncId→Option Aaq}(hn:Av0 nat fnt){N n:Nat}{f:FuncId}{args:List D}{st:St}{v:D}{s':FS}{W:Cb}(h:Zv C fnt N n f args (Yn st)= .ok v s' W):
  Ii C nat N n f args st=some (v,stF s',W):=by
 rcases Ajf hn N n (C:=C) f args st (Yn st) (Ada st)with h1|⟨v2,st2,s2,W2,h1,h2,h3⟩
 ·rw[h1]at h;cases h
 ·rw[h]at h3;cases h3;rw[h1,h2.stF]
abbrev RN:=(Nat→Option Obj)→Nat→List D→Option (D × St)
def rnF(r:RN):Aaq:=fun _ args s=>@Option.rec.{1,0} (D × St) (fun _=>Fh) .bad (fun p=> .ok p.1 (@List.rec.{1,0} Obj (fun _=>FS→FS) (fun s=>s) (fun x _ ih s=>ih (Po s x)) p.2 s) []) (r (fun i=>Aau (Option Obj) s i some none) (@FS.rec.{1} (fun _=>Nat) (fun n _=>n) s) args)
theorem Aj6:∀(new:St) {st:St} {s:FS},O1 st s→O1 (st++new) (@List.rec.{1,0} Obj (fun _=>FS→FS) (fun s=>s) (fun x _ ih s=>ih (Po s x)) new s)
 | [],st,s,h=>by rw[List.append_nil];exact h
 |x::new,st,s,h=>by have:=Aj6 new (Aa4 h x);rw[List.append_assoc]at this;exact this
theorem Fu{r:RN}{g:Bz}(hg:∀cf args st v new,r (fun i=>st[i]?) st.length args=some (v,new)→g cf args st=some (v,st++new,[]))(cf:Ah)(cfF:FF)(args:List D)(st:St)(s:FS)(hs:O1 st s):Ra (g cf args st) (rnF r cfF args s):=by
 unfold rnF;have h1:(fun i=>Aau (Option Obj) s i some none)=fun i=>st[i]?:=by funext i;rw[Tw hs];cases st[i]?<;>rfl
 have h2: @FS.rec.{1} (fun _=>Nat) (fun n _=>n) s=st.length:=by rw[← hs.1]
 rw[h1,h2];cases hr:r (fun i=>st[i]?) st.length args with
 |none=>exact .inl rfl
 |some p=>obtain⟨v,new⟩:=p;exact .inr ⟨v,st++new,_,[],hg cf args st v new hr,Aj6 new hs,rfl⟩
theorem Afu{g:Bz}(hg:∀cf args st v st' W,g cf0 args st=some (v,st',W)→g cf args st=some (v,st',W))(cf:Ah)(cfF:FF)(args:List D)(st:St)(s:FS)(hs:O1 st s):Ra (g cf args st) (A4g g cfF args s):=by
 unfold A4g;rw[hs.stF];cases h:g cf0 args st with
 |none=>exact .inl rfl
 |some p=>obtain⟨v,st',W⟩:=p;exact .inr ⟨v,st',Yn st',W,hg _ _ _ _ _ _ h,Ada st',rfl⟩
end
end Go.Vam
