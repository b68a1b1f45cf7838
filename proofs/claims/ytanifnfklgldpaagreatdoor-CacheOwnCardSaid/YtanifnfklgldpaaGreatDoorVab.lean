/-
  The machine's loud operations, calls, regions and draws say what the model does.
-/
import Derived.Test.YtanifnfklgldpaaGreatDoorVaa
import Derived.Wp
import Derived.Laws.AppendOwn
set_option linter.unusedSimpArgs false
set_option linter.unusedVariables false
namespace Go.Vam
def LOk(P:Program)(s:Sem Next)(v:D)(g:G)(st:St)(w:World)(st':St)(W:Cb):Prop:=
 ∃r g' w',(s.run P w= .ok (.value r) w'∨(s.run P w= .ok .skip w'∧r=undef))∧VR g' v r∧Co g' st' w'∧Step g st w W g' st' w'∧Dx g st g'
section
variable{P:Program}{w w':World}{g:G}{st:St}{v:D}
structure Alc(w w':World)(c:Nat)(o:Go.Obj):Prop where
 heap:w'.heap=w.heap.setIfInBounds c o
 os:w'.os=w.os
 out:w'.output=w.output
theorem Alc.size{c:Nat}{o:Go.Obj}(h:Alc w w' c o):w'.heap.size=w.heap.size:=by rw[h.heap];simp
theorem Alc.ne{c b:Nat}{o:Go.Obj}(h:Alc w w' c o)(hb:b≠c):w'.heap[b]?=w.heap[b]?:=by rw[h.heap,Array.getElem?_setIfInBounds_ne (Ne.symm hb)]
theorem Alc.eq{c:Nat}{o:Go.Obj}(h:Alc w w' c o)(hc:c<w.heap.size):w'.heap[c]?=some o:=by rw[h.heap,Array.getElem?_setIfInBounds_self_of_lt hc]
theorem Au{id i:Nat}{o:Obj}:(st.set id o)[i]?=if i=id then(if id<st.length then some o else none)else st[i]?:=by
 rw[List.getElem?_set];by_cases h:id=i
 ·subst h;simp
 ·rw[if_neg h,if_neg (Ne.symm h)]
theorem Co.setObj(hs:Co g st w){id c:Nat}{o0 o:Obj}{ob:Go.Obj}(hl:g.loc id=some c)(h0:st[id]?=some o0)(hlive:live o0=true)(hlive':live o=true)
  (hb:Alc w w' c ob)(hr:w'.heap[c]?=some ob→Ri g o c w')(hI:∀p,g.I c p=none):
  Co g (st.set id o) w'∧Step g st w [id] g (st.set id o) w':=by
 have hc:c<w.heap.size:=hs.blk _ _ hl;have hid:id<st.length:=hs.loc_lt hl;have hown0:Own g st id c:= .inl ⟨hl,o0,h0,hlive⟩;have hntok:∀gen,o0≠ .tok gen:=by rintro gen rfl;obtain⟨o',ho',hr'⟩:=hs.obj _ _ hl;rw[h0]at ho';cases ho';exact hr'
 have hown:∀i b,Own g (st.set id o) i b↔Own g st i b:=by
  intro i b;constructor
  ·rintro(⟨h1,o1,h2,h3⟩|h)
   ·rw[Au]at h2;split at h2
    ·rename_i e;subst e;exact .inl ⟨h1,o0,h0,hlive⟩
    ·exact .inl ⟨h1,o1,h2,h3⟩
   ·exact .inr h
  ·rintro(⟨h1,o1,h2,h3⟩|h)
   ·by_cases e:i=id
    ·subst e;exact .inl ⟨h1,o,by rw[Au];simp[hid],hlive'⟩
    ·exact .inl ⟨h1,o1,by rw[Au,if_neg e];exact h2,h3⟩
   ·exact .inr h
 refine⟨⟨?_,?_,?_,?_,?_,hs.base_step (Gd.refl g) (fun i b o v _ ho=>(hown i b).1 ho) (fun b o v _ _ hn=>hb.ne (fun e=>hn id (e ▸ hown0)))⟩,⟨Gd.refl g,by rw[hb.size];exact Nat.le_refl _,?_,fun i b h hlt=> .inl ((hown i b).1 h),hb.os,hb.out⟩⟩
 ·intro i c' h;by_cases e:i=id
  ·subst e;rw[hl]at h;cases h;exact⟨o,by rw[Au];simp[hid],hr (hb.eq hc)⟩
  ·obtain⟨o1,h1,h2⟩:=hs.obj _ _ h;refine⟨o1,by rw[Au,if_neg e];exact h1,?_⟩
   by_cases hlv:live o1=true
   ·have hne:c'≠c:=by
     rintro rfl;exact e (hs.inj i id c' (.inl ⟨h,o1,h1,hlv⟩) hown0)
    exact h2.same (Gd.refl g) rfl (hb.ne hne) (fun cs hcs p=>by subst hcs;obtain⟨A,T,fr,h2⟩:=h2;exact h2.own p)
   ·cases o1 with
    |fcells cs=>exact h2
    |dead=>trivial
    |_=>simp[live]at hlv
 ·intro t k h;obtain⟨h1,A,T,fr,h2⟩:=hs.tok _ _ h;have hne:t≠id:=by
   rintro rfl;rw[h0]at h1;cases h1;exact hntok _ rfl
  have hne':k.blk≠c:=by rintro rfl;exact hne (hs.inj t id k.blk (.inr ⟨k,h,rfl⟩) hown0)
  exact⟨by rw[Au,if_neg hne];exact h1,A,T,fr,h2.same (hb.ne hne') h2.own⟩
 ·intro i i' b h h';exact hs.inj i i' b ((hown i b).1 h) ((hown i' b).1 h')
 ·intro b p u h;have hne:b≠c:=by
   rintro rfl;rw[hI]at h;cases h
  rw[Tm (hb.ne hne)];exact hs.imm _ _ _ h
 ·intro i c' h;rw[hb.size];exact hs.blk _ _ h
 ·intro b hlt hn;refine hb.ne ?_;rintro rfl;exact hn id (by simp) hown0
theorem Vj{d:D}{x:Value}(h:VR g d x)(hd:Al d=true):x.oneCell=true:=by cases h<;>simp[Al]at hd<;>rfl
def putCells(A:Array Value)(off:Nat)(l:List Value):Array Value:=(l.zipIdx 0).foldl (fun(cs:Array Value) (p:Value × Nat)=>cs.setIfInBounds (off+p.2) p.1) A
theorem Ha{c:Nat}{T:TypeId}{fr:Nat × Nat}:∀(l:List Value) (i off:Nat) (A:Array Value) (w:World),w.heap[c]?=some (.cells A T fr)→(∀p,off+i≤p→p<off+i+l.length→¬ (fr.1≤p∧p<fr.2))→off+i+l.length≤A.size→(∀v∈l,v.oneCell=true)→(storeCells ⟨c,off,none⟩ l i).run P w=
   .ok () {w with heap:=w.heap.setIfInBounds c (.cells ((l.zipIdx i).foldl (fun(cs:Array Value) (p:Value × Nat)=>cs.setIfInBounds (off+p.2) p.1) A) T fr)}
 | [],i,off,A,w,hc,_,_,_=>by
  have:w.heap.setIfInBounds c (.cells A T fr)=w.heap:=by
   apply Array.ext_getElem?;intro j;rw[Array.getElem?_setIfInBounds];split
   ·rename_i e;subst e;split
    ·exact hc.symm
    ·rename_i h;exact absurd (lt_of_heap hc) h
   ·rfl
  simp[storeCells,this]
 |v::l,i,off,A,w,hc,hfr,hle,hone=>by
  have hlt:=lt_of_heap hc;simp only[List.length_cons]at hle hfr;have hcell:w.cell? ⟨c,off+i,none⟩=some A[off+i]:=by simp[World.cell?,hc]
  have hnf:w.frozen? ⟨c,off+i,none⟩=false:=by
   have:=hfr (off+i) (by omega) (by omega)
   simp only[World.frozen?,hc];rw[Bool.and_eq_false_iff];simp only[decide_eq_false_iff_not];by_cases h1:fr.1≤off+i
   ·right;intro h2;exact this ⟨h1,h2⟩
   ·left;exact h1
  have hset:w.setCell ⟨c,off+i,none⟩ v= {w with heap:=w.heap.setIfInBounds c (.cells (A.setIfInBounds (off+i) v) T fr)}:=by
   simp only[World.setCell];congr 1;apply Array.ext_getElem?;intro j;rw[Array.getElem?_modify,Array.getElem?_setIfInBounds];by_cases e:c=j
   ·subst e;have hg:=(Array.getElem?_eq_some_iff.1 hc).2;simp[hlt,hg]
   ·simp[e]
  have ih:=Ha (c:=c) (T:=T) (fr:=fr) l (i+1) off (A.setIfInBounds (off+i) v)
   {w with heap:=w.heap.setIfInBounds c (.cells (A.setIfInBounds (off+i) v) T fr)} (by simp[hlt]) (fun p h1 h2=>hfr p (by omega) (by omega)) (by simp;omega) (fun u hu=>hone u (by simp[hu]))
  have hov:=hone v (by simp)
  simp only[storeCells,Sem.run_bind,Ga];have hst:(store ⟨c,off+i,none⟩ v).run P w= .ok () (w.setCell ⟨c,off+i,none⟩ v):=by
   cases v<;>first
    |(simp[Value.oneCell]at hov;done)
    |(simp only[store,Sem.run,hcell,hnf];simp)
  rw[hst,hset];simp only[Result.andThen_ok];rw[ih];simp[List.zipIdx_cons,Array.setIfInBounds_setIfInBounds]
theorem Ano{cells vs:List D}{A:Array Value}{B:List Value}{off:Nat}(hc:∀(j:Nat) (d:D) (v:Value),cells[j]?=some d→A[j]?=some v→VR g d v)
  (hl:cells.length≤A.size)(hv:F8 g vs B.toArray)(hle:off+vs.length≤cells.length):
  (putCells A off B).size=A.size∧∀(j:Nat) (d:D) (v:Value),(cells.take off++vs++cells.drop (off+vs.length))[j]?=some d→(putCells A off B)[j]?=some v→VR g d v:=by
 have hf:=foldl_set off B 0 A;have hBl:B.length=vs.length:=by have:=hv.size;simpa using this
 refine⟨hf.1,fun j d v hj hv'=>?_⟩;unfold putCells at hv';rw[hf.2,hBl]at hv';rw[List.getElem?_append,List.getElem?_append]at hj;simp only[List.length_append,List.length_take]at hj;have hmin:min off cells.length=off:=by omega
 rw[hmin]at hj;by_cases h1:j<off
 ·rw[if_pos (by omega),if_pos h1,List.getElem?_take,if_pos h1]at hj
  rw[if_neg (by omega)]at hv'
  exact hc j d v hj hv'
 ·by_cases h2:j<off+vs.length
  ·rw[if_pos h2,if_neg h1]at hj;rw[if_pos (by omega),Nat.add_zero]at hv'
   exact hv.at_ _ d v hj (by simpa using hv')
  ·rw[if_neg h2,List.getElem?_drop]at hj;rw[if_neg (by omega)]at hv'
   refine hc j d v ?_ hv';rw[← hj];congr 1;omega
theorem Pq(hs:Co g st w){id c off:Nat}{cs vs:List D}{B:List Value}(hl:g.loc id=some c)(h0:st[id]?=some (.cells cs))(hv:F8 g vs B.toArray)
  (hok:vs.all Al=true)(hle:off+vs.length≤cs.length):
  ∃w',(storeCells ⟨c,off,none⟩ B).run P w= .ok () w'∧Co g (st.set id (.cells (cs.take off++vs++cs.drop (off+vs.length)))) w'∧Step g st w [id] g (st.set id (.cells (cs.take off++vs++cs.drop (off+vs.length)))) w':=by
 obtain⟨o,ho,hr⟩:=hs.obj _ _ hl;rw[h0]at ho;cases ho;obtain⟨A,T,fr,hr⟩:=hr;have hBl:B.length=vs.length:=by have:=hv.size;simpa using this
 have hAl:=hr.len;have hrun:=Ha (P:=P) (c:=c) (T:=T) (fr:=fr) B 0 off A w hr.heap (fun p h1 h2=>hr.fr p (by omega)) (by omega) (fun u hu=>by
  obtain⟨j,hj⟩:=List.mem_iff_getElem?.1 hu;have hlt:j<vs.length:=by rw[← hBl];exact(List.getElem?_eq_some_iff.1 hj).1
  exact Vj (hv.at_ j vs[j] u (List.getElem?_eq_getElem hlt) (by simpa using hj)) (List.all_eq_true.1 hok _ (List.getElem_mem hlt)))
 obtain⟨h1,h2⟩:=Ano hr.at_ hAl hv hle;refine⟨_,hrun,hs.setObj (o:= .cells (cs.take off++vs++cs.drop (off+vs.length))) (ob:= .cells (putCells A off B) T fr) hl h0 rfl rfl ⟨rfl,rfl,rfl⟩ (fun hh=>?_) hr.own⟩;refine⟨putCells A off B,T,fr,hh,h1.trans hr.size,by rw[h1];exact hr.fr,?_,h2,hr.own⟩
 rw[h1];simp;omega
theorem Ao2{t:TypeId}{a b:D}{x y:Value}{st':St}{W:Cb}(hs:Co g st w)(hx:VR g a x)(hy:VR g b y)(h:I4 P t a b st=some (v,st',W)):
  LOk P (do Instr.storeAt t x y;pure .skip) v g st w st' W:=by
 unfold I4 at h;split at h
 case h_2=>cases h
 rename_i id off;split at h
 case h_2=>cases h
 rename_i cs n hst hn;dsimp only at h;split at h
 case isFalse=>cases h
 rename_i hc;simp only[Bool.and_eq_true,decide_eq_true_eq]at hc;obtain⟨⟨h1,h2⟩,h3⟩:=hc;cases h;have hkn:b≠ .undef:=by rintro rfl;simp[D.cells,Al]at h3
 have hcells:=hy.cells hkn;cases hx with
 |ptr hl=>
  rename_i c;rw[← h1]at h2 ⊢;obtain⟨w',h4,h5,h6⟩:=Pq (P:=P) hs hl hst (B:=y.cells.toList) (by simpa using hcells) h3 h2
  refine⟨undef,g,w',.inr ⟨?_,rfl⟩,.undef _,h5,h6,Dx.refl _ _⟩;have hsz:¬ y.cells.size≠n:=by rw[hcells.size];simpa using h1
  simp only[Instr.storeAt,Instr.sureAddr,storeVar,Sem.run_bind,Sem.run_pure,Result.andThen_ok,run_sizeOf hn,Sem.run_ite];rw[if_neg hsz];simp[h4]
end
section
variable{P:Program}{w w':World}{g:G}{st:St}{v:D}
def G.froze(g:G)(c n:Nat)(A:Array Value):G:= {g with I:=fun b o=>if b=c∧o<n then A[o]? else g.I b o}
theorem Co.freeze(hs:Co g st w){id c:Nat}{cs cs':List D}(hl:g.loc id=some c)(h0:st[id]?=some (.cells cs))(hlen:cs'.length=cs.length)
  (hv:∀(A:Array Value) (T:TypeId) (fr:Nat × Nat),w.heap[c]?=some (.cells A T fr)→∀(j:Nat) (d:D) (u:Value),cs'[j]?=some d→A[j]?=some u→VR g d u):
  ∃g',Co g' (st.set id (.fcells cs')) w∧Step g st w [] g' (st.set id (.fcells cs')) w∧g'.loc=g.loc∧g'.tk=g.tk:=by
 obtain⟨o,ho,hr⟩:=hs.obj _ _ hl;rw[h0]at ho;cases ho;obtain⟨A,T,fr,hr⟩:=hr;have hid:id<st.length:=hs.loc_lt hl;have hown0:Own g st id c:= .inl ⟨hl,_,h0,rfl⟩;have hAl:=hr.len;have hm:Gd g (g.froze c cs.length A):=by
  refine⟨fun i c' h=>⟨h,rfl⟩,fun b o v h=>?_,fun _ k h=>⟨k,h,Nat.le_refl _,fun _=>rfl⟩,rfl⟩;simp only[G.froze];split
  ·rename_i hb;rw[hb.1,hr.own]at h;cases h
  ·exact h
 have hI:∀b o v,(g.froze c cs.length A).I b o=some v→g.I b o=some v∨(b=c∧o<cs.length∧A[o]?=some v):=by
  intro b o v h;simp only[G.froze]at h;split at h
  ·rename_i hb;exact .inr ⟨hb.1,hb.2,h⟩
  ·exact .inl h
 have hown:∀i b,Own (g.froze c cs.length A) (st.set id (.fcells cs')) i b→Own g st i b∧i≠id:=by
  rintro i b (⟨h1,o1,h2,h3⟩|⟨k,h1,rfl⟩)
  ·rw[Au]at h2;split at h2
   ·rename_i e;subst e;simp[]at h2;subst h2;simp[live]at h3
   ·rename_i e;exact⟨.inl ⟨h1,o1,h2,h3⟩,e⟩
  ·refine⟨.inr ⟨k,h1,rfl⟩,?_⟩;rintro rfl;have:=(hs.tok _ _ h1).1;rw[h0]at this;cases this
 refine⟨g.froze c cs.length A,⟨?_,?_,?_,?_,?_,hs.base_step hm (fun id b o v _ ho=>(hown id b ho).1) (fun _ _ _ _ _ _=>rfl)⟩,⟨hm,Nat.le_refl _,fun _ _ _=>rfl,fun i b h _=> .inl (hown i b h).1,rfl,rfl⟩,rfl,rfl⟩
 ·intro i c' h;by_cases e:i=id
  ·subst e;have h':g.loc i=some c':=h;rw[hl]at h';cases h';refine⟨.fcells cs',by rw[Au];simp[hid],fun j d hj=>?_⟩
   have hj':j<A.size:=by have:=(List.getElem?_eq_some_iff.1 hj).1;omega
   refine⟨A[j],?_,(hv A T fr hr.heap j d _ hj (Array.getElem?_eq_getElem hj')).mono hm⟩;have:j<cs.length:=by have:=(List.getElem?_eq_some_iff.1 hj).1;omega
   simp[G.froze,this,hj']
  ·obtain⟨o1,h1,h2⟩:=hs.obj _ _ h;refine⟨o1,by rw[Au,if_neg e];exact h1,h2.same hm rfl rfl ?_⟩
   rintro cs1 rfl p;have hne:c'≠c:=by rintro rfl;exact e (hs.inj i id c' (.inl ⟨h,_,h1,rfl⟩) hown0)
   cases hp:(g.froze c cs.length A).I c' p with
   |none=>rfl
   |some u=>
    rcases hI _ _ _ hp with h3|⟨h3,_⟩
    ·obtain⟨A1,T1,fr1,h2⟩:=h2;rw[h2.own]at h3;cases h3
    ·exact absurd h3 hne
 ·intro t k h;obtain⟨h1,A1,T1,fr1,h2⟩:=hs.tok _ _ h;have hne:t≠id:=by
   rintro rfl;rw[h0]at h1;cases h1
  have hne':k.blk≠c:=by rintro rfl;exact hne (hs.inj t id k.blk (.inr ⟨k,h,rfl⟩) hown0)
  refine⟨by rw[Au,if_neg hne];exact h1,A1,T1,fr1,h2.same rfl fun o u hu=>?_⟩
  rcases hI _ _ _ hu with h3|⟨h3,_⟩
  ·exact h2.own o u h3
  ·exact absurd h3 hne'
 ·intro i i' b h h';exact hs.inj i i' b (hown i b h).1 (hown i' b h').1
 ·intro b o u h;rcases hI _ _ _ h with h3|⟨rfl,h3,h4⟩
  ·exact hs.imm _ _ _ h3
  ·simp[World.cell?,hr.heap,h4]
 ·intro i c' h;exact hs.blk _ _ h
theorem Co.setFree(hs:Co g st w){id:Nat}{o:Obj}(hl:g.loc id=none)(hk:g.tk id=none):Co g (st.set id o) w∧Step g st w [] g (st.set id o) w:=by
 have hne:∀i,(∃c,g.loc i=some c)∨(∃k,g.tk i=some k)→i≠id:=by
  rintro i h rfl;rcases h with⟨c,h⟩|⟨k,h⟩
  ·rw[hl]at h;cases h
  ·rw[hk]at h;cases h
 have hget:∀i,i≠id→(st.set id o)[i]?=st[i]?:=fun i e=>by rw[Au,if_neg e]
 have hown:∀i b,Own g (st.set id o) i b→Own g st i b:=by
  rintro i b (⟨h1,o1,h2,h3⟩|h)
  ·rw[hget i (hne i (.inl ⟨b,h1⟩))]at h2;exact .inl ⟨h1,o1,h2,h3⟩
  ·exact .inr h
 refine⟨⟨?_,?_,fun i i' b h h'=>hs.inj i i' b (hown _ _ h) (hown _ _ h'),hs.imm,hs.blk,hs.base_step (Gd.refl g) (fun id b o v _ ho=>hown id b ho) (fun _ _ _ _ _ _=>rfl)⟩,⟨Gd.refl g,Nat.le_refl _,fun _ _ _=>rfl,fun i b h _=> .inl (hown i b h),rfl,rfl⟩⟩
 ·intro i c h;obtain⟨o1,h1,h2⟩:=hs.obj _ _ h;exact⟨o1,by rw[hget i (hne i (.inl ⟨c,h⟩))];exact h1,h2⟩
 ·intro t k h;obtain⟨h1,h2⟩:=hs.tok _ _ h;exact⟨by rw[hget t (hne t (.inr ⟨k,h⟩))];exact h1,h2⟩
theorem Co.tk_none(hs:Co g st w){id:Nat}{o:Obj}(h0:st[id]?=some o)(hn:∀n,o≠ .tok n):g.tk id=none:=by
 cases hk:g.tk id with
 |none=>rfl
 |some k=>have:=(hs.tok _ _ hk).1;rw[h0]at this;cases this;exact absurd rfl (hn _)
structure Frz(g:G)(st:St)(w:World)(st':St)(g':G):Prop where
 sim:Co g' st' w
 step:Step g st w [] g' st' w
 loc:g'.loc=g.loc
 tk:g'.tk=g.tk
theorem Frz.refl(hs:Co g st w):Frz g st w st g:=⟨hs,Step.refl g st w,rfl,rfl⟩
theorem Frz.trans{st1 st2:St}{g1 g2:G}(h:Frz g st w st1 g1)(h':Frz g1 st1 w st2 g2):Frz g st w st2 g2:=
 ⟨h'.sim,h.step.trans h'.step,h'.loc.trans h.loc,h'.tk.trans h.tk⟩
theorem Q5{f:St→D→Option (D × St)}
  (hf:∀(st:St) (d d':D) (st':St),f st d=some (d',st')→∀(id:Nat) (cs:List D),st'[id]?=some (.cells cs)→st[id]?=some (.cells cs)):
  ∀(ds ds':List D) (st st':St),Eu f st ds=some (ds',st')→∀(id:Nat) (cs:List D),st'[id]?=some (.cells cs)→st[id]?=some (.cells cs)
 | [],ds',st,st',h,id,cs,hc=>by simp[Eu]at h;obtain⟨rfl,rfl⟩:=h;exact hc
 |d::ds,ds',st,st',h,id,cs,hc=>by
  unfold Eu at h;split at h
  ·rename_i d1 st1 h1;split at h
   ·rename_i ds1 st2 h2;cases h;exact hf st d d1 st1 h1 id cs (Q5 hf ds ds1 st1 _ h2 id cs hc)
   ·cases h
  ·cases h
theorem Ad2:∀(n:Nat) (st:St) (d d':D) (st':St),Sl n st d=some (d',st')→∀(id:Nat) (cs:List D),st'[id]?=some (.cells cs)→st[id]?=some (.cells cs)
 |0,_,_,_,_,h,_,_,_=>by simp[Sl]at h
 |n+1,st,d,d',st',h,id,cs,hc=>by
  unfold Sl at h;split at h
  ·cases h;exact hc
  ·cases h;exact hc
  ·rename_i cs0;split at h
   ·rename_i cs1 st1 h1;cases h;exact Q5 (Ad2 n) cs0 cs1 st _ h1 id cs hc
   ·cases h
  ·rename_i sz id' off len cap;split at h
   ·split at h
    ·cases h;exact hc
    ·cases h
   ·rename_i cs0 hst;split at h
    ·rename_i cs1 st1 h1;split at h
     ·cases h;rw[Au]at hc;split at hc
      ·split at hc
       ·cases hc
       ·cases hc
      ·exact Q5 (Ad2 n) cs0 cs1 st _ h1 id cs hc
     ·cases h
    ·cases h
   ·cases h
  ·cases h;exact hc
theorem Uc{f:St→D→Option (D × St)}
  (hf:∀(g:G) (st:St) (d d':D) (st':St),f st d=some (d',st')→Co g st w→∃g',Frz g st w st' g'∧∀x,VR g d x→VR g' d' x):
  ∀(ds ds':List D) (g:G) (st st':St),Eu f st ds=some (ds',st')→Co g st w→∃g',Frz g st w st' g'∧ds'.length=ds.length∧∀(j:Nat) (d d':D) (x:Value),ds[j]?=some d→ds'[j]?=some d'→VR g d x→VR g' d' x
 | [],ds',g,st,st',h,hs=>by simp[Eu]at h;obtain⟨rfl,rfl⟩:=h;exact⟨g,Frz.refl hs,rfl,by simp⟩
 |d::ds,ds',g,st,st',h,hs=>by
  unfold Eu at h;split at h
  ·rename_i d1 st1 h1;split at h
   ·rename_i ds1 st2 h2;cases h;obtain⟨g1,h3,h4⟩:=hf g st d d1 st1 h1 hs;obtain⟨g2,h5,h6,h7⟩:=Uc hf ds ds1 g1 st1 _ h2 h3.sim;refine⟨g2,h3.trans h5,by simp[h6],fun j e e' x hj hj' hx=>?_⟩
    cases j with
    |zero=>simp at hj hj';subst hj;subst hj';exact(h4 x hx).mono h5.step.mono
    |succ j=>exact h7 j e e' x (by simpa using hj) (by simpa using hj') (hx.mono h3.step.mono)
   ·cases h
  ·cases h
theorem Tv:∀(n:Nat) (g:G) (st:St) (d d':D) (st':St),Sl n st d=some (d',st')→Co g st w→∃g',Frz g st w st' g'∧∀x,VR g d x→VR g' d' x
 |0,_,_,_,_,_,h,_=>by simp[Sl]at h
 |n+1,g,st,d,d',st',h,hs=>by
  unfold Sl at h;split at h
  ·cases h;refine⟨g,Frz.refl hs,fun x hx=>?_⟩;cases hx with
   |slNil hn=>exact .slNil (by simp)
   |slEmp hn hc=>exact .slEmp (by simp) (by simp)
   |sl a b c d e=>exact .sl a b c d trivial
  ·cases h;refine⟨g,Frz.refl hs,fun x hx=>?_⟩;cases hx;exact .slNil (by simp)
  ·rename_i cs;split at h
   ·rename_i cs1 st1 h1;cases h;obtain⟨g1,h2,h3,h4⟩:=Uc (Tv n) cs cs1 g st _ h1 hs;refine⟨g1,h2,fun x hx=>?_⟩;cases hx with
    |agg hsz hv=>
     refine .agg (by rw[hsz,h3]) (fun j e u hj hu=>?_)
     have hlt:j<cs.length:=by have:=(List.getElem?_eq_some_iff.1 hj).1;omega
     exact h4 j cs[j] e u (List.getElem?_eq_getElem hlt) hj (hv j _ u (List.getElem?_eq_getElem hlt) hu)
   ·cases h
  ·rename_i sz id off len cap;split at h
   ·rename_i cs hst;split at h
    ·rename_i rows hrows;cases h;refine⟨g,Frz.refl hs,fun x hx=>hx.frozen (fun c hl=>?_) hrows⟩;obtain⟨o,ho,hor⟩:=hs.obj _ _ hl;rw[hst]at ho;cases ho;exact hor
    ·cases h
   ·rename_i cs hst;split at h
    ·rename_i cs1 st1 h1;split at h
     ·rename_i cs0 rows hst1 hrows;cases h;obtain⟨g1,h2,h3,h4⟩:=Uc (Tv n) cs cs1 g st _ h1 hs;have hc0:cs0=cs:=by
       have:=Q5 (Ad2 n) cs cs1 st _ h1 id cs0 hst1;rw[hst]at this;cases this;rfl
      subst hc0;cases hloc:g.loc id with
      |none=>
       obtain⟨h5,h6⟩:=h2.sim.setFree (id:=id) (o:= .fcells cs1) (by rw[h2.loc];exact hloc) (h2.sim.tk_none hst1 (by simp))
       refine⟨g1,⟨h5,h2.step.trans h6,h2.loc,h2.tk⟩,fun x hx=>?_⟩;cases hx with
       |arr hl=>rw[hloc]at hl;cases hl
      |some c=>
       obtain⟨o,ho,hr⟩:=hs.obj _ _ hloc;rw[hst]at ho;cases ho;obtain⟨A,T,fr,hr⟩:=hr;obtain⟨g2,h5,h6,h7,h8⟩:=h2.sim.freeze (id:=id) (c:=c) (cs':=cs1) (by rw[h2.loc];exact hloc) hst1 h3 (fun A' T' fr' hh j d u hj hu=>by
        rw[hr.heap]at hh;cases hh;have hlt:j<cs0.length:=by have:=(List.getElem?_eq_some_iff.1 hj).1;omega
        exact h4 j cs0[j] d u (List.getElem?_eq_getElem hlt) hj (hr.at_ j _ u (List.getElem?_eq_getElem hlt) hu))
       refine⟨g2,⟨h5,h2.step.trans h6,h7.trans h2.loc,h8.trans h2.tk⟩,fun x hx=>?_⟩;have hx2:=(hx.mono h2.step.mono).mono h6.mono;refine hx2.frozen (fun c' hl'=>?_) hrows;obtain⟨o2,ho2,hor2⟩:=h5.obj _ _ hl';rw[Au]at ho2;simp only[if_true]at ho2;split at ho2
       ·cases ho2;exact hor2
       ·cases ho2
     ·cases h
    ·cases h
   ·cases h
  ·cases h;exact⟨g,Frz.refl hs,fun x hx=>hx⟩
theorem Ox{ds ds':List D}{st':St}{A:Array Value}(h:Cw st ds=some (ds',st'))(hs:Co g st w)(hA:F8 g ds A):∃g',Frz g st w st' g'∧F8 g' ds' A:=by
 obtain⟨g',h1,h2,h3⟩:=Uc (Tv Gu) ds ds' g st st' h hs;refine⟨g',h1,by rw[hA.size,h2],fun j d v hj hv=>?_⟩
 have hlt:j<ds.length:=by have:=(List.getElem?_eq_some_iff.1 hj).1;omega
 exact h3 j ds[j] d v (List.getElem?_eq_getElem hlt) hj (hA.at_ j _ v (List.getElem?_eq_getElem hlt) hv)
end
section
variable{P:Program}{w w':World}{g:G}{st:St}{v:D}
theorem Abh{g':G}:∀(x y:List D) (A B:List Value),Sc x y=true→F8 g x A.toArray→F8 g y B.toArray→A=B∧(∀n,(A.zip B).all (fun(a,b)=>Instr.sameBits n a b)=true)
 | [],[],A,B,_,ha,hb=>by
  have h1:A= []:=by have:=ha.size;simpa using this
  have h2:B= []:=by have:=hb.size;simpa using this
  subst h1;subst h2;simp
 | [],_::_,_,_,h,_,_=>by simp[Sc]at h
 |d::x,[],_,_,h,_,_=>by cases d<;>simp[Sc]at h
 |d::x,e::y,A,B,h,ha,hb=>by
  cases A with
  |nil=>have:=ha.size;simp at this
  |cons a A=>
   cases B with
   |nil=>have:=hb.size;simp at this
   |cons b B=>
    have h1:=ha.at_ 0 d a rfl rfl;have h2:=hb.at_ 0 e b rfl rfl;have ha':F8 g x A.toArray:=⟨by have:=ha.size;simpa using this,fun j d' v' p q=>ha.at_ (j+1) d' v' (by simpa using p) (by simpa using q)⟩
    have hb':F8 g y B.toArray:=⟨by have:=hb.size;simpa using this,fun j d' v' p q=>hb.at_ (j+1) d' v' (by simpa using p) (by simpa using q)⟩
    have key:a=b∧(∀n,Instr.sameBits n a b=true)∧Sc x y=true:=by
     cases d<;>cases e<;>simp[Sc]at h
     ·obtain⟨⟨rfl,rfl⟩,h3⟩:=h;cases h1.int_inv;cases h2.int_inv;exact⟨rfl,fun n=>by cases n<;>simp[Instr.sameBits],h3⟩
     ·obtain⟨rfl,h3⟩:=h;cases h1.bool_inv;cases h2.bool_inv;exact⟨rfl,fun n=>by cases n<;>simp[Instr.sameBits],h3⟩
     ·obtain⟨rfl,h3⟩:=h;obtain⟨s,hs,rfl⟩:=h1.str_inv;obtain⟨u,hu,rfl⟩:=h2.str_inv;have:s=u:=by
       rw[← hs]at hu;obtain⟨⟨s⟩⟩:=s;obtain⟨⟨u⟩⟩:=u;simp at hu;subst hu;rfl
      subst this;exact⟨rfl,fun n=>by cases n<;>(simp only[Instr.sameBits];rw[beq_toListBytes];simp),h3⟩
    obtain⟨rfl,h4,h5⟩:=key;obtain⟨rfl,h6⟩:=Abh (g':=g') x y A B h5 ha' hb';exact⟨rfl,fun n=>by simp only[List.zip_cons_cons,List.all_cons,h4,Bool.true_and];exact h6 n⟩
theorem Aob{d:D}{x:Value}(h:VR g d x):F8 g [d] [x].toArray:=⟨rfl,fun j d' v' hj hv=>by
 cases j with
 |zero=>simp at hj hv;subst hj;subst hv;exact h
 |succ j=>simp at hj⟩
theorem Anh{a b:D}{x y:Value}(ha:VR g a x)(hb:VR g b y)(h:Aom a b=true):Instr.sameBits 10000 y x=true:=by
 unfold Aom at h;split at h
 ·cases ha with
  |agg h1 h2=>cases hb with
   |agg h3 h4=>rename_i _ _ A B;obtain⟨A⟩:=A;obtain⟨B⟩:=B;obtain⟨rfl,h5⟩:=Abh (g':=g) _ _ A B h ⟨h1,h2⟩ ⟨h3,h4⟩;show((Array.mk A).size == (Array.mk A).size && _)=true;simp only[beq_self_eq_true,Bool.true_and];exact h5 9999
 ·obtain⟨h5,h6⟩:=Abh (g':=g) _ _ [x] [y] h (Aob ha) (Aob hb);cases h5;have:=h6 10000;simpa using this
theorem Qw{c:Nat}{M:Array MapEntry}{k:Nat}(h:w.heap[c]?=some (.map M k)):(getObj c).run P w= .ok (.map M k) w:=by simp[getObj,Sem.run,h]
theorem Qe{c:Nat}{M:Array MapEntry}{k:Nat}{o:Go.Obj}(h:w.heap[c]?=some (.map M k)):(Go.setObj c o).run P w= .ok () {w with heap:=w.heap.setIfInBounds c o}:=by simp[Go.setObj,Sem.run,h]
theorem Aa2(hs:Co g st w){c:Nat}{M:Array MapEntry}{k:Nat}(h:w.heap[c]?=some (.map M k)):∀p,g.I c p=none:=fun p=>by
 cases hp:g.I c p with
 |none=>rfl
 |some u=>have:=hs.imm _ _ _ hp;simp[World.cell?,h]at this
theorem X6{t:TypeId}{m k b:D}{x y z:Value}{st':St}{W:Cb}(hs:Co g st w)(hx:VR g m x)(hy:VR g k y)(hz:VR g b z)
  (h:Hq P t m k b st=some (v,st',W)):LOk P (do Instr.mapUpdate t x y z;pure .skip) v g st w st' W:=by
 unfold Hq at h;split at h
 case h_2=>cases h
 rename_i kt et id hmt;have hu:=Ug hmt;split at h
 case isFalse=>cases h
 rename_i hko;split at h
 ·cases h
 rename_i v1 st1 hfz;obtain⟨g1,hF,hv1⟩:=Tv Gu g st b v1 st1 hfz hs;have hfree:Dx g st g1:=fun i _ a b=>⟨by rw[hF.loc];exact a,by rw[hF.tk];exact b⟩
 have hz1:=hv1 z hz;have hy1:=hy.mono hF.step.mono;split at h
 case h_2=>cases h
 rename_i es hst;cases hx with
 |map hl=>
  rename_i c;have hl1:g1.loc id=some c:=by rw[hF.loc];exact hl
  obtain⟨o,ho,hr⟩:=hF.sim.obj _ _ hl1;rw[hst]at ho;cases ho;obtain⟨M,kk,hM⟩:=hr;have hck:=fun em=>run_checkKey (P:=P) (w:=w) (g:=g1) em 20 10000 kt k y (by omega) hy1 hko
  have hfind:=fun r h=>run_findKey (P:=P) (w:=w) (M:=M.toList) (r:=r) (Ol hko) hy1 (by simpa using hM.size) (fun j e m a b=>hM.at_ j e m a (by simpa using b)) h
  have hW:∀(g2:G) (w2:World) (st2:St),Step g1 st1 w [id] g2 st2 w2→Step g st w (Dj (Dn st st1) [id]) g2 st2 w2:=fun g2 w2 st2 hstep=>
   (hF.step.trans hstep).weaken fun i hi b hb=>by
    rw[Cm]at hi;rcases hi with hi|hi
    ·exact⟨i,Cm.2 (.inr hi),hb⟩
    ·cases hi
  split at h
  ·rename_i i d hfd;split at h
   case isFalse=>cases h
   rename_i hsame;cases h;obtain⟨r',h1,h2⟩:=hfind _ hfd;cases r' with
   |none=>simp[Found]at h2
   |some p=>
    obtain⟨j',pv⟩:=p;obtain⟨rfl,_,_,mm,h3,_⟩:=h2;rw[Nat.sub_zero]at h3;have hil:i<M.size:=by have:=(List.getElem?_eq_some_iff.1 h3).1;simpa using this
    have hMi:M[i]?=some mm:=by simpa using h3
    have hile:i<es.length:=by rw[← hM.size];exact hil
    have hei:es[i]?=some es[i]:=List.getElem?_eq_getElem hile;unfold sameAt at hsame;rw[hei]at hsame;simp only at hsame;have hkey:=(hM.at_ i es[i] mm hei hMi).1;have hbits:=Anh hy1 hkey hsame;have hsim:=hF.sim.setObj (w':= {w with heap:=w.heap.setIfInBounds c (.map (M.modify i fun e=> {e with key:=y,val:=z}) kk)}) (o:= .map (es.set i (k,v1)))
     (ob:= .map (M.modify i fun e=> {e with key:=y,val:=z}) kk) hl1 hst rfl rfl ⟨rfl,rfl,rfl⟩ (fun hh=>?_) (Aa2 hF.sim hM.heap)
    ·refine⟨undef,g1,_,.inr ⟨?_,rfl⟩,.undef _,hsim.1,hW _ _ _ hsim.2,hfree⟩;simp[Instr.mapUpdate,run_underlying hu,Qw hM.heap,hck,h1,hMi,Instr.keyThatStays,hbits,Qe hM.heap]
    ·refine⟨_,_,hh,by simp[hM.size],fun j e m a b=>?_,?_,?_⟩
     ·rw[Array.getElem?_modify]at b;rw[List.getElem?_set]at a;by_cases hij:i=j
      ·subst hij;simp only[if_true]at a b;rw[if_pos hile]at a;cases a;rw[hMi]at b;cases b;exact⟨hy1,hz1⟩
      ·rw[if_neg hij]at a b;exact hM.at_ j e m a b
     ·have:((M.modify i fun e=> {e with key:=y,val:=z}).toList.map (·.born))=M.toList.map (·.born):=by
       apply List.ext_getElem?;intro j;simp only[List.getElem?_map,Array.getElem?_toList,Array.getElem?_modify];by_cases hij:i=j
       ·subst hij;simp[hMi]
       ·simp[hij]
      rw[this];exact hM.born
     ·intro m hm;obtain⟨j,hj⟩:=List.mem_iff_getElem?.1 hm;rw[Array.getElem?_toList,Array.getElem?_modify]at hj;by_cases hij:i=j
      ·subst hij;rw[if_pos rfl,hMi]at hj;cases hj;exact hM.lt mm (List.mem_of_getElem? h3)
      ·rw[if_neg hij]at hj;exact hM.lt m (List.mem_of_getElem? (by rw[Array.getElem?_toList];exact hj))
  ·rename_i hfd;cases h;obtain⟨r',h1,h2⟩:=hfind _ hfd;have hr':r'=none:=by cases r' with|none=>rfl|some p=>simp[Found]at h2
   subst hr';have hsim:=hF.sim.setObj (w':= {w with heap:=w.heap.setIfInBounds c (.map (M.push {key:=y,val:=z,born:=kk}) (kk+1))}) (o:= .map (es++ [(k,v1)]))
     (ob:= .map (M.push {key:=y,val:=z,born:=kk}) (kk+1)) hl1 hst rfl rfl ⟨rfl,rfl,rfl⟩ (fun hh=>?_) (Aa2 hF.sim hM.heap)
   ·refine⟨undef,g1,_,.inr ⟨?_,rfl⟩,.undef _,hsim.1,hW _ _ _ hsim.2,hfree⟩;simp[Instr.mapUpdate,run_underlying hu,Qw hM.heap,hck,h1,Qe hM.heap]
   ·refine⟨_,_,hh,by simp[hM.size],fun j e m a b=>?_,?_,?_⟩
    ·rw[Array.getElem?_push]at b;rw[List.getElem?_append]at a;by_cases hj:j<es.length
     ·rw[if_pos hj]at a;rw[if_neg (by rw[hM.size];omega)]at b
      exact hM.at_ j e m a b
     ·rw[if_neg hj]at a;by_cases hj':j=M.size
      ·rw[if_pos hj']at b;have:j - es.length=0:=by rw[hM.size]at hj';omega
       rw[this]at a;simp at a b;subst a;subst b;exact⟨hy1,hz1⟩
      ·have hsz:=hM.size;have:¬ j - es.length<1:=by omega
       have hn: [(k,v1)][j - es.length]?=none:=List.getElem?_eq_none (by simp;omega)
       rw[hn]at a;cases a
    ·simp only[Array.toList_push,List.map_append,MC];rw[List.nodup_append];refine⟨hM.born,by simp,?_⟩
     intro a ha b hb;simp at hb;subst hb;obtain⟨m,hm,rfl⟩:=List.mem_map.1 ha;have:=hM.lt m hm;omega
    ·intro m hm;simp only[Array.toList_push,List.mem_append,List.mem_singleton]at hm;rcases hm with hm|rfl
     ·have:=hM.lt m hm;omega
     ·simp
  ·cases h
end
section
variable{P:Program}{w w':World}{g:G}{st:St}{v:D}
theorem Azf{es:List (D × D)}{c:Nat}{M:Array MapEntry}{kk:Nat}(hM:Asb g es c M kk w){i:Nat}(hi:i<es.length){w':World}
  (hh:w'.heap[c]?=some (.map (M.eraseIdxIfInBounds i) kk)):Asb g (es.eraseIdx i) c (M.eraseIdxIfInBounds i) kk w':=by
 have hl:(M.eraseIdxIfInBounds i).toList=M.toList.eraseIdx i:=by simp
 have hsz:i<M.size:=by rw[hM.size];exact hi
 refine⟨hh,?_,fun j e m a b=>?_,?_,?_⟩
 ·rw[← Array.length_toList,hl,List.length_eraseIdx,List.length_eraseIdx];simp[hM.size]
 ·rw[← Array.getElem?_toList,hl,List.getElem?_eraseIdx]at b;rw[List.getElem?_eraseIdx]at a;split at a
  ·rename_i h;rw[if_pos h]at b;exact hM.at_ j e m a (by rw[← Array.getElem?_toList];exact b)
  ·rename_i h;rw[if_neg h]at b;exact hM.at_ (j+1) e m a (by rw[← Array.getElem?_toList];exact b)
 ·rw[hl];refine List.Nodup.sublist ?_ hM.born;exact(List.eraseIdx_sublist M.toList i).map _
 ·intro m hm;rw[hl]at hm;exact hM.lt m (List.mem_of_mem_eraseIdx hm)
theorem Aw7{t ty:TypeId}{ts:List TypeId}{m k:D}{x y:Value}{st':St}{W:Cb}(hs:Co g st w)(hx:VR g m x)(hy:VR g k y)
  (h:Wz P t m k st=some (v,st',W)):
  ∃r w',(Builtin.delete_ (t::ts).toArray ty #[x,y]).run P w= .ok r w'∧VR g v r∧Co g st' w'∧Step g st w W g st' w':=by
 unfold Wz at h;split at h
 case h_2=>cases h
 rename_i kt et id hmt;have hu:=Ug hmt;split at h
 case isFalse=>cases h
 rename_i hko;split at h
 case h_2=>cases h
 rename_i es hst;cases hx with
 |map hl=>
  rename_i c;obtain⟨o,ho,hr⟩:=hs.obj _ _ hl;rw[hst]at ho;cases ho;obtain⟨M,kk,hM⟩:=hr;have hck:=fun em=>run_checkKey (P:=P) (w:=w) (g:=g) em 20 10000 kt k y (by omega) hy hko
  have hfind:=fun r h=>run_findKey (P:=P) (w:=w) (M:=M.toList) (r:=r) (Ol hko) hy (by simpa using hM.size) (fun j e m a b=>hM.at_ j e m a (by simpa using b)) h
  split at h
  ·rename_i i d hfd;cases h;obtain⟨r',h1,h2⟩:=hfind _ hfd;cases r' with
   |none=>simp[Found]at h2
   |some p=>
    obtain⟨j',pv⟩:=p;obtain⟨rfl,_,_,mm,h3,_⟩:=h2;rw[Nat.sub_zero]at h3;have hile:i<es.length:=by have:=(List.getElem?_eq_some_iff.1 h3).1;rw[← hM.size];simpa using this
    have hsim:=hs.setObj (w':= {w with heap:=w.heap.setIfInBounds c (.map (M.eraseIdxIfInBounds i) kk)}) (o:= .map (es.eraseIdx i))
     (ob:= .map (M.eraseIdxIfInBounds i) kk) hl hst rfl rfl ⟨rfl,rfl,rfl⟩ (fun hh=>⟨_,_,Azf hM hile hh⟩) (Aa2 hs hM.heap)
    refine⟨.tuple #[],_,?_,.undef _,hsim.1,hsim.2⟩;simp[Builtin.delete_,run_underlying hu,Qw hM.heap,hck,h1,Qe hM.heap]
  ·rename_i hfd;cases h;obtain⟨r',h1,h2⟩:=hfind _ hfd;have hr':r'=none:=by cases r' with|none=>rfl|some p=>simp[Found]at h2
   subst hr';have hsim:=hs.setObj (w':= {w with heap:=w.heap.setIfInBounds c (.map M kk)}) (o:= .map es)
    (ob:= .map M kk) hl hst rfl rfl ⟨rfl,rfl,rfl⟩ (fun hh=>⟨M,kk,hh,hM.size,hM.at_,hM.born,hM.lt⟩) (Aa2 hs hM.heap)
   have hset:st.set id (.map es)=st:=by
    apply List.ext_getElem?;intro j;rw[Au];split
    ·rename_i e;subst e;rw[if_pos (List.getElem?_eq_some_iff.1 hst).1,hst]
    ·rfl
   rw[hset]at hsim;refine⟨.tuple #[],_,?_,.undef _,hsim.1,hsim.2⟩;simp[Builtin.delete_,run_underlying hu,Qw hM.heap,hck,h1,Qe hM.heap]
  ·cases h
theorem Awy{a:D}{x:Value}{b:Bool}{ty:TypeId}{st':St}{W:Cb}(hs:Co g st w)(hx:VR g a x)(h:Ak4 a b st=some (v,st',W)):
  LOk P (do pure (.value (← Instr.next x b ty))) v g st w st' W:=by
 unfold Ak4 at h;split at h
 case h_2=>cases h
 rename_i id;split at h
 case h_2=>cases h
 rename_i s pos hst;cases hx with
 |ptr hl=>
  rename_i c;obtain⟨o,ho,hr⟩:=hs.obj _ _ hl;rw[hst]at ho;cases ho;obtain⟨bs,hh,rfl⟩:=hr;have hlen:bs.data.toList.length=bs.size:=by rw[Array.length_toList];rfl
  have hI:∀p,g.I c p=none:=fun p=>by
   cases hp:g.I c p with
   |none=>rfl
   |some u=>have:=hs.imm _ _ _ hp;simp[World.cell?,hh]at this
  have hget:(getObj c).run P w= .ok (.stringIter bs pos) w:=by simp[getObj,Sem.run,hh]
  have hmk:(⟨bs.data.toList.toArray⟩:ByteArray)=bs:=by cases bs;simp
  split at h
  ·rename_i hlt;dsimp only at h;cases h;rw[hlen]at hlt;rw[hmk];have hsim:=hs.setObj (w':= {w with heap:=w.heap.setIfInBounds c (.stringIter bs (pos+(Utf8.decode bs pos).2))}) (o:= .iter bs.data.toList (pos+(Utf8.decode bs pos).2))
    (ob:= .stringIter bs (pos+(Utf8.decode bs pos).2)) hl hst rfl rfl ⟨rfl,rfl,rfl⟩ (fun hh=>⟨bs,hh,rfl⟩) hI
   refine⟨.tuple #[.bool true,goInt pos,.int .i32 (Utf8.decode bs pos).1],g,_,.inl ?_,?_,hsim.1,hsim.2,Dx.refl _ _⟩
   ·simp[Instr.next,hget,hlt,Go.setObj,Sem.run,hh]
   ·refine .tup rfl fun j d v a b=>?_
    match j,a,b with
    |0,a,b=>simp at a b;subst a;subst b;exact .bool _
    |1,a,b=>simp at a b;subst a;subst b;exact .int _ _
    |2,a,b=>simp at a b;subst a;subst b;exact .int _ _
    |j+3,a,b=>simp at a
  ·rename_i hge;cases h;rw[hlen]at hge;have hs':=Step.refl g st w;refine⟨.tuple #[.bool false],g,w,.inl ?_,?_,hs,hs'.weaken (by simp),Dx.refl _ _⟩
   ·simp[Instr.next,hget,hge]
   ·refine .tup rfl fun j d v a b=>?_
    match j,a,b with
    |0,a,b=>simp at a b;subst a;subst b;exact .bool _
    |j+1,a,b=>simp at a
theorem Afa{z:List D}{A:Array Value}{n:Nat}(h:F8 g z A)(hz:0<z.length):F8 g (J2 z n) (Builtin.zeroCells A n):=by
 have:=Aik (n:=n) h hz;unfold Builtin.zeroCells;rw[h.size];have e:∀i:Nat,A[i % z.length]! =A[i % A.size]!:=fun i=>by rw[h.size]
 simp only[e];exact this
theorem A8k{z:List D}{n:Nat}(h:z.all Al=true):(J2 z n).all Al=true:=by
 induction n with
 |zero=>rfl
 |succ n ih=>rw[J2,List.all_append,h,ih];rfl
theorem A3n{t ty:TypeId}{ts:List TypeId}{a:D}{x:Value}{st':St}{W:Cb}(hs:Co g st w)(hx:VR g a x)(h:Ac2 P t a st=some (v,st',W)):
  ∃r w',(Builtin.clear_ (t::ts).toArray ty #[x]).run P w= .ok r w'∧VR g v r∧Co g st' w'∧Step g st w W g st' w':=by
 unfold Ac2 at h;split at h
 ·rename_i e he;cases h;cases hx;exact⟨.tuple #[],w,by simp[Builtin.clear_,run_underlying (Dq he)],.undef _,hs,Step.refl g st w⟩
 ·rename_i e gr he;cases h;cases hx with
  |slNil=>exact⟨.tuple #[],w,by simp[Builtin.clear_,run_underlying (Dq he)],.undef _,hs,Step.refl g st w⟩
  |slEmp=>exact⟨.tuple #[],w,by simp[Builtin.clear_,run_underlying (Dq he)],.undef _,hs,Step.refl g st w⟩
  |sl=>exact⟨.tuple #[],w,by simp[Builtin.clear_,run_underlying (Dq he)],.undef _,hs,Step.refl g st w⟩
 ·rename_i e sz id off len cap he;split at h
  ·rename_i h0;subst h0;cases h;cases hx;exact⟨.tuple #[],w,by simp[Builtin.clear_,run_underlying (Dq he)],.undef _,hs,Step.refl g st w⟩
  ·rename_i h0;split at h
   case h_2=>cases h
   rename_i cs z n hst hz hn;split at h
   case isFalse=>cases h
   rename_i hc;simp only[Bool.and_eq_true,decide_eq_true_eq]at hc;obtain⟨⟨⟨h1,h2⟩,h3⟩,h4⟩:=hc;cases h;subst h1;obtain⟨i,zv,hi,hz0,hzs⟩:=Je (g:=g) hz;cases hx with
   |arr hl ha hb hcc=>
    rename_i cap' c;have hrl:(J2 z len).length=len*n:=by rw[Ud,h2]
    by_cases hz1:0<z.length
    ·have hzc:=Afa (n:=len) hzs hz1;obtain⟨w',h5,h6,h7⟩:=Pq (P:=P) hs hl hst (vs:=J2 z len) (B:=(Builtin.zeroCells zv.cells len).toList) (by simpa using hzc) (A8k h4) (by rw[hrl];exact h3)
     rw[hrl]at h6 h7;refine⟨.tuple #[],w',?_,.undef _,h6,h7⟩;have hne:len≠0:=h0;cases len with
     |zero=>exact absurd rfl hne
     |succ len=>simp[Builtin.clear_,run_underlying (Dq he),Dz hi hz0,h5]
    ·have hz2:z.length=0:=by omega
     have hzn:z= []:=List.eq_nil_of_length_eq_zero hz2;subst hzn;have hn0:n=0:=by simpa using h2.symm
     subst hn0;have hA0:zv.cells.size=0:=by rw[hzs.size];rfl
     have hzc:(Builtin.zeroCells zv.cells len).toList= []:=by simp[Builtin.zeroCells,hA0]
     obtain⟨w',h5,h6,h7⟩:=Pq (P:=P) (off:=off) hs hl hst (vs:= []) (B:= []) ⟨rfl,by simp⟩ rfl (by simpa using h3)
     have e1:cs.take off++J2 [] len++cs.drop (off+len*0)=cs.take off++ []++cs.drop (off+([]:List D).length):=by
      have:J2 [] len=([]:List D):=List.eq_nil_of_length_eq_zero (by rw[Ud];simp)
      rw[this];simp
     rw[e1];refine⟨.tuple #[],w',?_,.undef _,h6,h7⟩;cases len with
     |zero=>exact absurd rfl h0
     |succ len=>simp[Builtin.clear_,run_underlying (Dq he),Dz hi hz0,hzc,h5]
 ·cases h
theorem Qh(hs:Co g st w){d:D}{x:Value}{rows:List (List D)}{sz n:Nat}(hx:VR g d x)(hr:rowsOf st d=some rows)(hsz:∀r∈rows,r.length=sz)(hn:n≤rows.length):
  ∃X:Array Value,(Builtin.lenOf x).run P w= .ok rows.length w∧(Builtin.firstCells sz n x).run P w= .ok X w∧F8 g (rows.take n).flatten X:=by
 have htk:∀r∈rows.take n,r.length=sz:=fun r hr=>hsz r (List.mem_of_mem_take hr);have hfl:(rows.take n).flatten.length=n*sz:=by rw[He htk,List.length_take,Nat.min_eq_left hn]
 have hrd:∀c o,Reads g w c o rows.flatten→Reads g w c o (rows.take n).flatten:=by
  intro c o h;refine⟨fun j d hj=>h.at_ j d ?_⟩;have:rows.flatten=(rows.take n).flatten++(rows.drop n).flatten:=by rw[← List.flatten_append,List.take_append_drop]
  rw[this,List.getElem?_append_left (List.getElem?_eq_some_iff.1 hj).1];exact hj
 unfold rowsOf at hr;split at hr
 ·cases hr;cases hx;have:n=0:=by simpa using hn
  subst this;exact⟨#[],by simp[Builtin.lenOf],by simp[Builtin.firstCells],⟨rfl,by simp⟩⟩
 ·cases hr;cases hx with
  |slNil=>
   have:n=0:=by simpa using hn
   subst this;exact⟨#[],by simp[Builtin.lenOf],by simp[Builtin.firstCells],⟨rfl,by simp⟩⟩
  |slEmp=>
   have:n=0:=by simpa using hn
   subst this;exact⟨#[],by simp[Builtin.lenOf],by simp[Builtin.firstCells,loadCells,loadCellsFrom],⟨rfl,by simp⟩⟩
  |sl hsz' hI hv hcap hgr=>
   rename_i c o sz' cap;by_cases he:rows= []
   ·subst he;have:n=0:=by simpa using hn
    subst this;exact⟨#[],by simp[Builtin.lenOf],by simp[Builtin.firstCells,loadCells,loadCellsFrom],⟨rfl,by simp⟩⟩
   ·have hszz:sz'=sz:=by
     obtain⟨r,hrm⟩:=List.exists_mem_of_ne_nil rows he;rw[← hsz r hrm,← hsz' r hrm]
    subst hszz;obtain⟨A,h1,h2⟩:=Es (P:=P) (hrd _ _ (Reads.ofRows hs hsz' hI hv));rw[hfl]at h1;exact⟨A,by simp[Builtin.lenOf],by simp[Builtin.firstCells,h1],h2⟩
 ·rename_i sz' id off len cap;split at hr
  case h_3=>cases hr
  all_goals
   rename_i cs hst;obtain⟨rfl,hle⟩:=Mj hr;cases hx with
   |arr hl h1 h2 h3=>
    rename_i cap' c;have hro:=(J3 hs hl (by first|exact .inl hst|exact .inr hst)).drop off
    rw[Nat.zero_add]at hro;have hrow:=Yl (sz:=sz') (n:=len) (l:=cs.drop off) (by simp;omega)
    by_cases hl0:len=0
    ·subst hl0;have:n=0:=by simpa[chunk]using hn
     subst this;exact⟨#[],by simp[Builtin.lenOf,Jb],by simp[Builtin.firstCells,loadCells,loadCellsFrom],⟨by simp,by simp⟩⟩
    ·have hszz:sz'=sz:=by
      have h4:0<(chunk sz' len (cs.drop off)).length:=by rw[Jb];omega
      have h5:=hsz _ (List.getElem_mem h4);have h6:=hrow _ (List.getElem_mem h4);omega
     subst hszz;have hro2:Reads g w c off (chunk sz' len (cs.drop off)).flatten:=by
      refine⟨fun j d hj=>hro.at_ j d ?_⟩;have key:∀(n:Nat) (l:List D),n*sz'≤l.length→(chunk sz' n l).flatten=l.take (n*sz'):=by
       intro n;induction n with
       |zero=>intro l _;simp[chunk]
       |succ n ih=>intro l hl;rw[Nat.add_mul]at hl;rw[chunk,List.flatten_cons,ih _ (by simp;omega),Nat.add_mul,Nat.one_mul,Nat.add_comm (n*sz') sz',List.take_add]
      rw[key len _ (by simp;omega),List.getElem?_take]at hj
      split at hj
      ·exact hj
      ·cases hj
     obtain⟨A,h4,h5⟩:=Es (P:=P) (hrd _ _ hro2);rw[hfl]at h4;exact⟨A,by simp[Builtin.lenOf,Jb],by simp[Builtin.firstCells,h4],h5⟩
 ·rename_i s;cases hr;obtain⟨b,rfl,rfl⟩:=hx.str_inv;have hlen:b.data.toList.length=b.size:=by rw[Array.length_toList];rfl
  have hfl2:∀l:List UInt8,((l.map fun b=> [D.int .u8 (b.toNat:Int)]).flatten)=l.map fun b=>D.int .u8 (b.toNat:Int):=by
   intro l;induction l with
   |nil=>rfl
   |cons a l ih=>simp[ih]
  refine⟨(b.extract 0 n).data.map fun b=> .int .u8 b.toNat,by simp[Builtin.lenOf,hlen],by simp[Builtin.firstCells],?_⟩
  rw[← List.map_take,hfl2];have hex:(b.extract 0 n).data.toList=b.data.toList.take n:=by rw[← ByteArray.toList_eq,Lib.extract_toList];simp
  refine⟨?_,fun j d v hj hv=>?_⟩
  ·rw[Array.size_map,← Array.length_toList,hex];simp
  ·rw[Array.getElem?_map,← Array.getElem?_toList,hex]at hv;rw[List.getElem?_map]at hj;cases hb:(b.data.toList.take n)[j]? with
   |none=>rw[hb]at hj;simp at hj
   |some y=>rw[hb]at hj hv;simp at hj hv;subst hj;subst hv;exact .int _ _
 ·cases hr
theorem Bcs{t u ty:TypeId}{ts:List TypeId}{a b:D}{x y:Value}{st':St}{W:Cb}(hs:Co g st w)(hx:VR g a x)(hy:VR g b y)(h:Als P t a b st=some (v,st',W)):
  ∃r w',(Builtin.copy_ (t::ts).toArray ty #[x,y]).run P w= .ok r w'∧VR g v r∧Co g st' w'∧Step g st w W g st' w':=by
 unfold Als at h;split at h
 case h_2=>cases h
 rename_i e sz id off len cap he;split at h
 case h_2=>cases h
 rename_i z rows hz hrows;dsimp only at h;split at h
 case isFalse=>cases h
 rename_i hc;simp only[Bool.and_eq_true,decide_eq_true_eq]at hc;obtain⟨rfl,hall⟩:=hc;split at h
 case h_2=>cases h
 rename_i cs hst;split at h
 case isFalse=>cases h
 rename_i hc2;simp only[Bool.and_eq_true,decide_eq_true_eq]at hc2;obtain⟨h1,h2⟩:=hc2;cases h;cases hx with
 |arr hl h3 h4 h5=>
  rename_i cap' c;obtain⟨X,h6,h7,h8⟩:=Qh (P:=P) (n:=min rows.length len) hs hy hrows (fun r hr=>by simpa using List.all_eq_true.1 hall r hr) (Nat.min_le_left _ _)
  obtain⟨w',h9,h10,h11⟩:=Pq (P:=P) hs hl hst (B:=X.toList) (by simpa using h8) h2 h1
  refine⟨.int .i64 (min rows.length len:Nat),w',?_,.int _ _,h10,h11⟩;have hmin:Nat.min rows.length len=min rows.length len:=rfl;simp[Builtin.copy_,run_underlying (Dq he),h6,hmin,run_sizeOf hz,h7,h9,goInt]
end
section
variable{P:Program}{w w':World}{g g':G}{st st':St}{v:D}
theorem Co.turn(hs:Co g st w){id0 c0:Nat}(hown0:Own g st id0 c0)(hm:Gd g g')(hsz:w.heap.size≤w'.heap.size)
  (hh:∀b,b<w.heap.size→b≠c0→w'.heap[b]?=w.heap[b]?)
  (hst:∀(id:Nat) (o:Obj),id≠id0→st[id]?=some o→st'[id]?=some o)
  (hI:∀b o v,g'.I b o=some v→(g.I b o=some v∧b≠c0)∨(w'.cell? ⟨b,o,none⟩=some v∧(b=c0∨w.heap.size≤b)))
  (hloc:∀id c,g'.loc id=some c→(g.loc id=some c∧id≠id0)∨((c=c0∨w.heap.size≤c)∧c<w'.heap.size∧∃o,st'[id]?=some o∧Ri g' o c w'))
  (htk:∀t k,g'.tk t=some k→(g.tk t=some k∧t≠id0)∨((k.blk=c0∨w.heap.size≤k.blk)∧st'[t]?=some (.tok k.gen)∧∃A T fr,Asa g' k A T fr w'))
  (hinj:∀id id' b,(b=c0∨w.heap.size≤b)→Own g' st' id b→Own g' st' id' b→id=id')
  (hos:w'.os=w.os)(hout:w'.output=w.output):Co g' st' w'∧Step g st w [id0] g' st' w':=by
 have hown:∀id b,Own g' st' id b→b<w.heap.size→b≠c0→Own g st id b:=by
  rintro id b (⟨h,o,ho,hl⟩|⟨k,h,rfl⟩) hb hne
  ·rcases hloc _ _ h with⟨h1,h2⟩|⟨h1,_⟩
   ·obtain⟨o',ho',_⟩:=hs.obj _ _ h1;have:=hst _ _ h2 ho';rw[ho]at this;cases this;exact .inl ⟨h1,o,ho',hl⟩
   ·rcases h1 with h1|h1
    ·exact absurd h1 hne
    ·omega
  ·rcases htk _ _ h with⟨h1,_⟩|⟨h1,_⟩
   ·exact .inr ⟨k,h1,rfl⟩
   ·rcases h1 with h1|h1
    ·exact absurd h1 hne
    ·omega
 refine⟨⟨?_,?_,?_,?_,?_,hs.base_step hm (fun id b o v h ho=>hown id b ho (hs.base_lt h) (fun e=>(hs.base b o v h).2.1 id0 (e ▸ hown0))) (fun b o v _ hb hn=>hh b hb (fun e=>hn id0 (e ▸ hown0)))⟩,⟨hm,hsz,?_,?_,hos,hout⟩⟩
 ·intro id c h;rcases hloc _ _ h with⟨h1,h2⟩|⟨_,_,h1⟩
  ·obtain⟨o,ho,hr⟩:=hs.obj _ _ h1;refine⟨o,hst _ _ h2 ho,?_⟩;by_cases hl:live o=true
   ·have hne:c≠c0:=by
     rintro rfl;exact h2 (hs.inj id id0 c (.inl ⟨h1,o,ho,hl⟩) hown0)
    have hc:=hs.blk _ _ h1;refine hr.same hm (hm.loc _ _ h1).2 (hh _ hc hne) ?_;rintro cs rfl p;obtain⟨A,T,fr,hr⟩:=hr;cases hp:g'.I c p with
    |none=>rfl
    |some u=>
     rcases hI _ _ _ hp with⟨h3,_⟩|⟨_,h3⟩
     ·rw[hr.own p]at h3;cases h3
     ·rcases h3 with h3|h3
      ·exact absurd h3 hne
      ·omega
   ·cases o with
    |fcells cs=>intro j d hj;obtain⟨u,a,b⟩:=hr j d hj;exact⟨u,hm.I _ _ _ a,b.mono hm⟩
    |dead=>trivial
    |_=>simp[live]at hl
  ·exact h1
 ·intro t k h;rcases htk _ _ h with⟨h1,h2⟩|⟨_,h1⟩
  ·obtain⟨h3,A,T,fr,h4⟩:=hs.tok _ _ h1;have hne:k.blk≠c0:=by
    rintro h5;exact h2 (hs.inj t id0 k.blk (.inr ⟨k,h1,rfl⟩) (by rw[h5];exact hown0))
   have hc:=lt_of_heap h4.heap;refine⟨hst _ _ h2 h3,A,T,fr,h4.same (hh _ hc hne) fun o u hu=>?_⟩;rcases hI _ _ _ hu with⟨h5,_⟩|⟨_,h5⟩
   ·exact h4.own o u h5
   ·rcases h5 with h5|h5
    ·exact absurd h5 hne
    ·omega
  ·exact h1
 ·intro id id' b h h';by_cases hb:b<w.heap.size
  ·by_cases hne:b=c0
   ·exact hinj id id' b (.inl hne) h h'
   ·exact hs.inj id id' b (hown _ _ h hb hne) (hown _ _ h' hb hne)
  ·exact hinj id id' b (.inr (by omega)) h h'
 ·intro b o u h;rcases hI _ _ _ h with⟨h1,h2⟩|⟨h1,_⟩
  ·have hc:=hs.imm _ _ _ h1;have hb:b<w.heap.size:=by
    unfold World.cell? at hc;split at hc
    ·rename_i hx;exact lt_of_heap hx
    ·cases hc
   rw[Tm (hh b hb h2)];exact hc
  ·exact h1
 ·intro id c h;rcases hloc _ _ h with⟨h1,_⟩|⟨_,h1,_⟩
  ·exact Nat.lt_of_lt_of_le (hs.blk _ _ h1) hsz
  ·exact h1
 ·intro b hb hn;refine hh b hb ?_;rintro rfl;exact hn id0 (by simp) hown0
 ·intro id b h hb;by_cases hne:b=c0
  ·exact .inr ⟨id0,by simp,by rw[hne];exact hown0⟩
  ·exact .inl (hown id b h hb hne)
theorem Q6(hs:Co g st w):∀b p,w.heap.size≤b→g.I b p=none:=fun b p hb=>by
 cases hp:g.I b p with
 |none=>rfl
 |some u=>
  have:=hs.imm _ _ _ hp;unfold World.cell? at this;split at this
  ·rename_i hx;exact absurd (lt_of_heap hx) (by simpa using hb)
  ·cases this
def G.setTk(g:G)(t:Nat)(k:Tk)(c lo:Nat)(A:Array Value):G:=
 {g with tk:=upd g.tk t (some k),I:=fun b o=>if b=c∧lo≤o∧o<k.hi then A[o]? else g.I b o}
theorem Co.addTok(hs:Co g st w){A:Array Value}{T:TypeId}{n:Nat}(hp:Push w w' (.cells A T))(hn:n≤A.size):
  Co (g.setTk st.length ⟨0,w.heap.size,n,A.size⟩ w.heap.size 0 A) (st++ [.tok 0]) w'∧Step g st w [] (g.setTk st.length ⟨0,w.heap.size,n,A.size⟩ w.heap.size 0 A) (st++ [.tok 0]) w':=by
 have hnk:g.tk st.length=none:=by
  cases hk:g.tk st.length with
  |none=>rfl
  |some k=>exact absurd (hs.tk_lt hk) (by omega)
 have hm:Gd g (g.setTk st.length ⟨0,w.heap.size,n,A.size⟩ w.heap.size 0 A):=by
  refine⟨fun i c h=>⟨h,rfl⟩,fun b o v h=>?_,fun t k h=>?_,rfl⟩
  ·simp only[G.setTk];split
   ·rename_i hb;rw[Q6 hs b o (by omega)]at h
    cases h
   ·exact h
  ·have:t≠st.length:=by rintro rfl;rw[hnk]at h;cases h
   exact⟨k,by simp only[G.setTk,upd_ne this];exact h,Nat.le_refl _,fun _=>rfl⟩
 refine hs.grow hm (by rw[hp.size];omega) (fun b hb=>hp.old hb) (fun id o h=>by rw[List.getElem?_append_left (List.getElem?_eq_some_iff.1 h).1];exact h) ?_ (fun _ _ h=> .inl h) ?_ ?_ hp.os hp.out
 ·intro b o v h;simp only[G.setTk]at h;split at h
  ·rename_i hb;refine .inr ⟨by omega,?_⟩
   rw[hb.1];simp[World.cell?,hp.new,h]
  ·exact .inl h
 ·intro t k h;by_cases ht:t=st.length
  ·subst ht;simp only[G.setTk,Bv,Option.some.injEq]at h;subst h;refine .inr ⟨Nat.le_refl _,by simp,A,T,(0,0),hp.new,hn,Nat.le_refl _,fun o _ _=>by simp,fun o v h=>?_⟩
   simp only[G.setTk]at h;split at h
   ·rename_i hb;exact hb.2.2
   ·rw[Q6 hs _ o (Nat.le_refl _)]at h;cases h
  ·simp only[G.setTk,upd_ne ht]at h;exact .inl h
 ·have key:∀i b,w.heap.size≤b→Own (g.setTk st.length ⟨0,w.heap.size,n,A.size⟩ w.heap.size 0 A) (st++ [.tok 0]) i b→i=st.length:=by
   rintro i b hb (⟨h,_⟩|⟨k,h,rfl⟩)
   ·exact absurd (hs.blk _ _ h) (by omega)
   ·by_cases hi:i=st.length
    ·exact hi
    ·simp only[G.setTk,upd_ne hi]at h;exact absurd (hs.own_lt (.inr ⟨k,h,rfl⟩)) (by omega)
  intro i i' b hb h h';rw[key i b hb h,key i' b hb h']
theorem Co.tokFit(hs:Co g st w){t:Nat}{k:Tk}{X:List Value}(hk:g.tk t=some k)(hX:∀v∈X,v.oneCell=true)(hfit:k.hi+X.length≤k.ce):
  ∃(A:Array Value) (w':World),(storeCells ⟨k.blk,k.hi,none⟩ X).run P w= .ok () w'∧(∀j,j<X.length→A[k.hi+j]?=X[j]?)∧Co (g.setTk t ⟨k.gen+1,k.blk,k.hi+X.length,k.ce⟩ k.blk k.hi A) (st.set t (.tok (k.gen+1))) w'∧Step g st w [t] (g.setTk t ⟨k.gen+1,k.blk,k.hi+X.length,k.ce⟩ k.blk k.hi A) (st.set t (.tok (k.gen+1))) w':=by
 obtain⟨h1,A,T,fr,h2⟩:=hs.tok _ _ hk;have hlt:=hs.tk_lt hk;have hclt:=lt_of_heap h2.heap;have hce:=h2.ce;have hrun:=Ha (P:=P) (c:=k.blk) (T:=T) (fr:=fr) X 0 k.hi A w h2.heap (fun p a b=>h2.fr p (by omega) (by omega)) (by omega) hX
 have hf:=foldl_set k.hi X 0 A;have hown0:Own g st t k.blk:= .inr ⟨k,hk,rfl⟩;let A':=putCells A k.hi X;have hA's:A'.size=A.size:=hf.1;have hA'g:∀p:Nat,A'[p]?=if k.hi≤p∧p<k.hi+X.length then X[p - k.hi]? else A[p]?:=by
  intro p;have:=hf.2 p;rw[Nat.add_zero]at this;show(putCells A k.hi X)[p]?=_;unfold putCells;rw[this];by_cases hc:k.hi≤p∧p<k.hi+X.length
  ·rw[if_pos hc,if_pos (by omega)]
  ·rw[if_neg hc,if_neg (by omega)]
 let g':=g.setTk t ⟨k.gen+1,k.blk,k.hi+X.length,k.ce⟩ k.blk k.hi A';have hm:Gd g g':=by
  refine⟨fun i c h=>⟨h,rfl⟩,fun b o v h=>?_,fun t' k' h=>?_,rfl⟩
  ·simp only[g',G.setTk];split
   ·rename_i hb;obtain⟨rfl,hb2,_⟩:=hb;exact absurd (h2.own o v h) (by omega)
   ·exact h
  ·by_cases e:t'=t
   ·subst e;rw[hk]at h;cases h;exact⟨⟨k.gen+1,k.blk,k.hi+X.length,k.ce⟩,by simp[g',G.setTk,Bv],by simp,fun h=>by simp at h⟩
   ·exact⟨k',by simp only[g',G.setTk,upd_ne e];exact h,Nat.le_refl _,fun _=>rfl⟩
 refine⟨A',_,hrun,fun j hj=>?_,hs.turn (g':=g') hown0 hm (by simp) (fun b hb hne=>by simp[Array.getElem?_setIfInBounds_ne (Ne.symm hne)]) (fun id o hne h=>by rw[Au,if_neg hne];exact h) ?_ (fun id c h=>?_) ?_ ?_ rfl rfl⟩
 ·rw[hA'g,if_pos (by omega)];congr 1;omega
 ·intro b o v h;simp only[g',G.setTk]at h;split at h
  ·rename_i hb;refine .inr ⟨?_,.inl hb.1⟩;rw[hb.1];have:A'[o]?=some v:=h;simp only[World.cell?,Array.getElem?_setIfInBounds_self_of_lt hclt];exact this
  ·by_cases hne:b=k.blk
   ·subst hne;refine .inr ⟨?_,.inl rfl⟩;have ho:=h2.own o v h;have hc:=hs.imm _ _ _ h;simp only[World.cell?,h2.heap]at hc;simp only[World.cell?,Array.getElem?_setIfInBounds_self_of_lt hclt];show(if _ then _ else A'[o]?)=some v;simp only[Option.isSome_none,BF]at hc ⊢;rw[hA'g,if_neg (by omega)]
    exact hc
   ·exact .inl ⟨h,hne⟩
 ·have h':g.loc id=some c:=h;by_cases e:id=t
  ·subst e;obtain⟨o,ho,hr⟩:=hs.obj _ _ h';rw[h1]at ho;cases ho;exact absurd hr (by simp[Ri])
  ·exact .inl ⟨h',e⟩
 ·intro t' k' h;by_cases e:t'=t
  ·subst e;simp only[g',G.setTk,Bv,Option.some.injEq]at h;subst h;refine .inr ⟨.inl rfl,by rw[Au];simp[hlt],A',T,fr,?_,?_,?_,?_,?_⟩
   ·exact Array.getElem?_setIfInBounds_self_of_lt hclt
   ·exact hfit
   ·rw[hA's];exact hce
   ·intro o ho1 ho2;exact h2.fr o (by simp at ho1;omega) (by rw[← hA's];exact ho2)
   ·intro o v hv;simp only[g',G.setTk]at hv;split at hv
    ·rename_i hb;exact hb.2.2
    ·have:=h2.own o v hv;simp;omega
  ·simp only[g',G.setTk,upd_ne e]at h;exact .inl ⟨h,e⟩
 ·have key:∀i b,(b=k.blk∨w.heap.size≤b)→Own g' (st.set t (.tok (k.gen+1))) i b→i=t:=by
   rintro i b hb (⟨h,o,ho,hl⟩|⟨k',h,rfl⟩)
   ·have h':g.loc i=some b:=h;by_cases e:i=t
    ·exact e
    ·rw[Au,if_neg e]at ho;rcases hb with rfl|hb
     ·exact hs.inj i t _ (.inl ⟨h',o,ho,hl⟩) hown0
     ·exact absurd (hs.blk _ _ h') (by omega)
   ·by_cases e:i=t
    ·exact e
    ·simp only[g',G.setTk,upd_ne e]at h;rcases hb with hb|hb
     ·exact hs.inj i t _ (.inr ⟨k',h,rfl⟩) (by rw[hb];exact hown0)
     ·exact absurd (hs.own_lt (.inr ⟨k',h,rfl⟩)) (by omega)
  intro i i' b hb h h';rw[key i b hb h,key i' b hb h']
theorem Co.tokGrow(hs:Co g st w){t n:Nat}{k:Tk}{A:Array Value}{T:TypeId}(hk:g.tk t=some k)(hp:Push w w' (.cells A T))(hn:n≤A.size):
  Co (g.setTk t ⟨k.gen+1,w.heap.size,n,A.size⟩ w.heap.size 0 A) (st.set t (.tok (k.gen+1))) w'∧Step g st w [t] (g.setTk t ⟨k.gen+1,w.heap.size,n,A.size⟩ w.heap.size 0 A) (st.set t (.tok (k.gen+1))) w':=by
 obtain⟨h1,A0,T0,fr,h2⟩:=hs.tok _ _ hk;have hlt:=hs.tk_lt hk;have hclt:=lt_of_heap h2.heap;have hown0:Own g st t k.blk:= .inr ⟨k,hk,rfl⟩;let g':=g.setTk t ⟨k.gen+1,w.heap.size,n,A.size⟩ w.heap.size 0 A;have hm:Gd g g':=by
  refine⟨fun i c h=>⟨h,rfl⟩,fun b o v h=>?_,fun t' k' h=>?_,rfl⟩
  ·simp only[g',G.setTk];split
   ·rename_i hb;rw[Q6 hs b o (by omega)]at h
    cases h
   ·exact h
  ·by_cases e:t'=t
   ·subst e;rw[hk]at h;cases h;exact⟨⟨k.gen+1,w.heap.size,n,A.size⟩,by simp[g',G.setTk,Bv],by simp,fun h=>by simp at h⟩
   ·exact⟨k',by simp only[g',G.setTk,upd_ne e];exact h,Nat.le_refl _,fun _=>rfl⟩
 refine hs.turn (g':=g') hown0 hm (by rw[hp.size];omega) (fun b hb _=>hp.old hb) (fun id o hne h=>by rw[Au,if_neg hne];exact h) ?_ (fun id c h=>?_) ?_ ?_ hp.os hp.out
 ·intro b o v h;simp only[g',G.setTk]at h;split at h
  ·rename_i hb;refine .inr ⟨?_,.inr (by omega)⟩
   rw[hb.1];simp[World.cell?,hp.new,h]
  ·by_cases hne:b=k.blk
   ·subst hne;refine .inr ⟨?_,.inl rfl⟩;rw[Tm (hp.old hclt)];exact hs.imm _ _ _ h
   ·exact .inl ⟨h,hne⟩
 ·have h':g.loc id=some c:=h;by_cases e:id=t
  ·subst e;obtain⟨o,ho,hr⟩:=hs.obj _ _ h';rw[h1]at ho;cases ho;exact absurd hr (by simp[Ri])
  ·exact .inl ⟨h',e⟩
 ·intro t' k' h;by_cases e:t'=t
  ·subst e;simp only[g',G.setTk,Bv,Option.some.injEq]at h;subst h;refine .inr ⟨.inr (Nat.le_refl _),by rw[Au];simp[hlt],A,T,(0,0),hp.new,hn,Nat.le_refl _,fun o _ _=>by simp,fun o v h=>?_⟩
   simp only[g',G.setTk]at h;split at h
   ·rename_i hb;exact hb.2.2
   ·rw[Q6 hs _ o (Nat.le_refl _)]at h;cases h
  ·simp only[g',G.setTk,upd_ne e]at h;exact .inl ⟨h,e⟩
 ·have key:∀i b,(b=k.blk∨w.heap.size≤b)→Own g' (st.set t (.tok (k.gen+1))) i b→i=t:=by
   rintro i b hb (⟨h,o,ho,hl⟩|⟨k',h,rfl⟩)
   ·have h':g.loc i=some b:=h;by_cases e:i=t
    ·exact e
    ·rw[Au,if_neg e]at ho;rcases hb with rfl|hb
     ·exact hs.inj i t _ (.inl ⟨h',o,ho,hl⟩) hown0
     ·exact absurd (hs.blk _ _ h') (by omega)
   ·by_cases e:i=t
    ·exact e
    ·simp only[g',G.setTk,upd_ne e]at h;rcases hb with hb|hb
     ·exact hs.inj i t _ (.inr ⟨k',h,rfl⟩) (by rw[hb];exact hown0)
     ·exact absurd (hs.own_lt (.inr ⟨k',h,rfl⟩)) (by omega)
  intro i i' b hb h h';rw[key i b hb h,key i' b hb h']
theorem Co.arrMove(hs:Co g st w){id c c1 n:Nat}{cs cs':List D}{A:Array Value}{T:TypeId}{fr:Nat × Nat}(hl:g.loc id=some c)(h0:st[id]?=some (.cells cs))
  (hsz:w.heap.size≤w'.heap.size)(hh:∀b,b<w.heap.size→b≠c→w'.heap[b]?=w.heap[b]?)(hc1:c1=c∨w.heap.size≤c1)(hc1':c1<w'.heap.size)(hbs:c1=c→g.bs c=n)
  (hr:∀g',Gd g g'→g'.bs c1=n→(∀p,g'.I c1 p=none)→Aea g' cs' c1 A T fr w')(hos:w'.os=w.os)(hout:w'.output=w.output):
  Co (g.addLoc st.length c1 n) (st.set id .dead++ [.cells cs']) w'∧Step g st w [id] (g.addLoc st.length c1 n) (st.set id .dead++ [.cells cs']) w':=by
 have hid:id<st.length:=hs.loc_lt hl;have hown0:Own g st id c:= .inl ⟨hl,_,h0,rfl⟩;have hnl:∀c',g.loc st.length≠some c':=fun c' h=>absurd (hs.loc_lt h) (by omega)
 have hnk:∀k,g.tk st.length≠some k:=fun k h=>absurd (hs.tk_lt h) (by omega)
 obtain⟨o,ho,hro⟩:=hs.obj _ _ hl;rw[h0]at ho;cases ho;obtain⟨A0,T0,fr0,hro⟩:=hro;let g':=g.addLoc st.length c1 n;have hm:Gd g g':=by
  refine⟨fun i c' h=>⟨?_,?_⟩,fun _ _ _ h=>h,fun _ k h=>⟨k,h,Nat.le_refl _,fun _=>rfl⟩,rfl⟩
  ·have:i≠st.length:=by rintro rfl;exact hnl _ h
   simp[g',G.addLoc,upd_ne this,h]
  ·by_cases e:c'=c1
   ·subst e;rcases hc1 with rfl|h1
    ·simp[g',G.addLoc,Bv,hbs rfl]
    ·exact absurd (hs.blk _ _ h) (by omega)
   ·simp[g',G.addLoc,upd_ne e]
 have hget:∀i,i≠st.length→i≠id→(st.set id .dead++ [Obj.cells cs'])[i]?=st[i]?:=by
  intro i h1 h2;by_cases h3:i<st.length
  ·rw[List.getElem?_append_left (by simpa using h3),Au,if_neg h2]
  ·rw[List.getElem?_eq_none (by simp;omega),List.getElem?_eq_none (by omega)]
 have hgetn:(st.set id .dead++ [Obj.cells cs'])[st.length]?=some (.cells cs'):=by rw[List.getElem?_append_right (by simp)];simp
 have hgetd:(st.set id .dead++ [Obj.cells cs'])[id]?=some .dead:=by rw[List.getElem?_append_left (by simpa using hid),Au];simp[hid]
 have hI1:∀p,g'.I c1 p=none:=by
  intro p;rcases hc1 with rfl|h1
  ·exact hro.own p
  ·exact Q6 hs c1 p h1
 refine hs.turn (g':=g') hown0 hm hsz hh ?_ ?_ ?_ (fun t k h=>?_) ?_ hos hout
 ·intro i o' hne h;have hlt:=(List.getElem?_eq_some_iff.1 h).1;rw[hget i (by omega) hne];exact h
 ·intro b o' v h;have h':g.I b o'=some v:=h;refine .inl ⟨h',?_⟩;rintro rfl;rw[hro.own]at h';cases h'
 ·intro i c' h;by_cases e:i=st.length
  ·subst e;simp only[g',G.addLoc,Bv,Option.some.injEq]at h;subst h;exact .inr ⟨hc1,hc1',.cells cs',hgetn,A,T,fr,hr g' hm (by simp[g',G.addLoc,Bv]) hI1⟩
  ·simp only[g',G.addLoc,upd_ne e]at h;by_cases e2:i=id
   ·subst e2;rw[hl]at h;cases h;refine .inr ⟨.inl rfl,?_,.dead,hgetd,trivial⟩;exact Nat.lt_of_lt_of_le (hs.blk _ _ hl) hsz
   ·exact .inl ⟨h,e2⟩
 ·have h':g.tk t=some k:=h;refine .inl ⟨h',?_⟩;rintro rfl;have:=(hs.tok _ _ h').1;rw[h0]at this;cases this
 ·have key:∀i b,(b=c∨w.heap.size≤b)→Own g' (st.set id .dead++ [.cells cs']) i b→i=st.length:=by
   rintro i b hb (⟨h,o',ho',hl'⟩|⟨k,h,rfl⟩)
   ·by_cases e:i=st.length
    ·exact e
    ·simp only[g',G.addLoc,upd_ne e]at h;by_cases e2:i=id
     ·subst e2;rw[hgetd]at ho';cases ho';simp[live]at hl'
     ·rw[hget i e e2]at ho';rcases hb with rfl|hb
      ·exact absurd (hs.inj i id _ (.inl ⟨h,o',ho',hl'⟩) hown0) e2
      ·exact absurd (hs.blk _ _ h) (by omega)
   ·have h':g.tk i=some k:=h;rcases hb with hb|hb
    ·have e2:=hs.inj i id _ (.inr ⟨k,h',rfl⟩) (by rw[hb];exact hown0)
     subst e2;have:=(hs.tok _ _ h').1;rw[h0]at this;cases this
    ·exact absurd (hs.own_lt (.inr ⟨k,h',rfl⟩)) (by omega)
  intro i i' b hb h h';rw[key i b hb h,key i' b hb h']
end
section
variable{P:Program}{w w':World}{g g':G}{st st':St}{v:D}
theorem Od{rows:List (List D)}{sz:Nat}(hsz:∀r∈rows,r.length=sz):∀{i j:Nat} {r:List D} {d:D},rows[i]?=some r→r[j]?=some d→rows.flatten[i*sz+j]?=some d:=by
 induction rows with
 |nil=>intro i j r d h;simp at h
 |cons r0 rows ih=>
  intro i j r d hi hj;have h0:r0.length=sz:=hsz r0 (by simp)
  cases i with
  |zero=>simp at hi;subst hi;rw[List.flatten_cons,Nat.zero_mul,Nat.zero_add,List.getElem?_append_left (List.getElem?_eq_some_iff.1 hj).1];exact hj
  |succ i=>
   simp at hi;rw[List.flatten_cons,Nat.add_mul,List.getElem?_append_right (by omega)]
   have:=ih (fun r hr=>hsz r (by simp[hr])) hi hj
   rw[← this];congr 1;omega
theorem VR.slOf{rows:List (List D)}{gr:Gr}{c o sz cap:Nat}(hsz:∀r∈rows,r.length=sz)(h:∀(j:Nat) (d:D),rows.flatten[j]?=some d→∃v,g.I c (o+j)=some v∧VR g d v)
  (hcap:rows.length≤cap)(hgr:Aca g gr c o rows.length sz cap):VR g (.sl rows gr) (.slice (some ⟨c,o,none⟩) rows.length cap):=by
 refine .sl hsz (fun i r j d hi hj=>?_) (fun i r j d v hi hj hv=>?_) hcap hgr
 ·obtain⟨v,h1,_⟩:=h _ d (Od hsz hi hj);exact⟨v,by rw[← h1];congr 1;omega⟩
 ·obtain⟨v',h1,h2⟩:=h _ d (Od hsz hi hj);rw[show o+i*sz+j=o+(i*sz+j)from by omega,h1]at hv
  cases hv;exact h2
theorem Vv{t u e ty:TypeId}{k:TypeDesc}{sz n sLen sCap:Nat}{base:Option Addr}{x:Value}{X:Array Value}(ht:P.underlying t=some (.slice e))
  (hu:P.underlying u=some k)(hk:∀kk,k≠ .int kk)(hsz:Bw P e=some sz)(hl:(Builtin.lenOf x).run P w= .ok n w)(hX:(Builtin.firstCells sz n x).run P w= .ok X w)
  (hfit:sLen+n≤sCap)(hw:(match base with|some a=>(storeCells (a.add (sLen*sz)) X.toList).run P w|none=> .ok () w)= .ok () w'):
  (Builtin.append_ #[t,u] ty #[.slice base sLen sCap,x]).run P w= .ok (.slice base (sLen+n) sCap) w':=by
 have hm:(match k with| .int _=>true|_=>false)=false:=by cases k<;>first|rfl|exact absurd rfl (hk _)
 cases base with
 |none=>cases hw;simp[Builtin.append_,run_underlying ht,run_underlying hu,run_sizeOf hsz,hl,hfit,hX]
 |some a=>simp only at hw;simp[Builtin.append_,run_underlying ht,run_underlying hu,run_sizeOf hsz,hl,hfit,hX,hw]
theorem Aji{t u e ty:TypeId}{k:TypeDesc}{i:TypeInfo}{z:Value}{n sLen sCap:Nat}{base:Option Addr}{x:Value}{O X:Array Value}(ht:P.underlying t=some (.slice e))
  (hu:P.underlying u=some k)(hk:∀kk,k≠ .int kk)(hi:P.info? e=some i)(hz:i.zero=some z)(hl:(Builtin.lenOf x).run P w= .ok n w)
  (hO:(Builtin.firstCells i.size sLen (.slice base sLen sCap)).run P w.drew= .ok O w.drew)(hX:(Builtin.firstCells i.size n x).run P w.drew= .ok X w.drew)
  (hgrow:sCap<sLen+n)(h1:sLen+n≤Dh)(h2:(sLen+n)*i.bytes≤Dh):
  (Builtin.append_ #[t,u] ty #[.slice base sLen sCap,x]).run P w=
   .ok (.slice (some ⟨w.heap.size,0,none⟩) (sLen+n) (grownCap w (sLen+n) sCap e)) (w.drew.alloc (.cells (O++X++Builtin.zeroCells z.cells (grownCap w (sLen+n) sCap e - (sLen+n))) e)):=by
 have hm:(match k with| .int _=>true|_=>false)=false:=by cases k<;>first|rfl|exact absurd rfl (hk _)
 have hmax:Dh=68719476736:=by decide
 rw[hmax]at h1 h2;have hn:¬ (sLen+n≤sCap):=by omega
 have h63':¬ (9223372036854775807<((sLen:Int)+(n:Int))):=by omega
 have h48':¬ (281474976710656<Builtin.nextslicecap (sLen+n) sCap*i.bytes):=by
  have:=growslice_fits (need:=sLen+n) (old:=sCap) (bytes:=i.bytes) hgrow (by omega)
  omega
 have hd:w.drew.heap.size=w.heap.size:=rfl;simp[Builtin.append_,run_underlying ht,run_underlying hu,sizeOf,typeInfo,zeroValue,hi,hz,hl,hn,h63',h48',Question.forced,hO,hX,newRow,grownCap,hd]
theorem Aig{e:TypeId}{sz:Nat}(h:Kt P e sz=true):∃i z,P.info? e=some i∧i.zero=some z∧z.cells.size=sz:=by
 unfold Kt at h;split at h
 ·rename_i i hi;split at h
  ·rename_i z hz;exact⟨i,z,hi,hz,by simpa using h⟩
  ·cases h
 ·cases h
theorem Jl(z:Array Value)(n:Nat):(Builtin.zeroCells z n).size=n*z.size:=by simp[Builtin.zeroCells]
theorem F8.append{x y:List D}{A B:Array Value}(h:F8 g x A)(h':F8 g y B):F8 g (x++y) (A++B):=by
 refine⟨by rw[Array.size_append,h.size,h'.size,List.length_append],fun j d v hj hv=>?_⟩
 rw[List.getElem?_append]at hj;rw[Array.getElem?_append,h.size]at hv;split at hj
 ·rename_i hc;rw[if_pos hc]at hv;exact h.at_ j d v hj hv
 ·rename_i hc;rw[if_neg hc]at hv;exact h'.at_ _ d v hj hv
theorem Vt(hs:Co g st w):Co g st w.drew∧Step g st w [] g st w.drew:=hs.still (Nat.le_refl _) (fun _ _=>rfl) rfl rfl
theorem Vm{t:Nat}{k:Tk}{c lo:Nat}{A:Array Value}(h:st.length≤t∨∃k0,g.tk t=some k0):Dx g st (g.setTk t k c lo A):=fun id hid a b=>by
 have hne:id≠t:=by
  rintro rfl;rcases h with h|⟨k0,h⟩
  ·omega
  ·rw[b]at h;cases h
 exact⟨a,by simp only[G.setTk,upd_ne hne];exact b⟩
theorem Sa{c n:Nat}:Dx g st (g.addLoc st.length c n):=fun id hid a b=>by
 have hne:id≠st.length:=by omega
 exact⟨by simp only[G.addLoc,upd_ne hne];exact a,b⟩
theorem Ag0(hs:Co g st w){rows:List (List D)}{A Z:Array Value}{e:TypeId}{sz cap:Nat}(hr:F8 g rows.flatten A)(hsz:∀r∈rows,r.length=sz)
  (hcap:rows.length≤cap)(hZ:Z.size=(cap - rows.length)*sz):
  (∃g',VR g' (.sl rows (.tok st.length 0)) (.slice (some ⟨w.heap.size,0,none⟩) rows.length cap)∧Co g' (st++ [.tok 0]) (w.drew.alloc (.cells (A++Z) e))∧Step g st w [] g' (st++ [.tok 0]) (w.drew.alloc (.cells (A++Z) e))∧Dx g st g')∧
  (∃g',VR g' (.arr sz st.length 0 rows.length rows.length) (.slice (some ⟨w.heap.size,0,none⟩) rows.length cap)∧Co g' (st++ [.cells rows.flatten]) (w.drew.alloc (.cells (A++Z) e))∧Step g st w [] g' (st++ [.cells rows.flatten]) (w.drew.alloc (.cells (A++Z) e))∧Dx g st g'):=by
 have hp:Push w (w.drew.alloc (.cells (A++Z) e)) (.cells (A++Z) e):=⟨rfl,rfl,rfl⟩;have hAs:A.size=rows.length*sz:=by rw[hr.size,He hsz]
 have hle:rows.length*sz≤cap*sz:=Nat.mul_le_mul_right _ hcap;have hAZ:(A++Z).size=cap*sz:=by rw[Array.size_append,hAs,hZ,Nat.sub_mul];omega
 constructor
 ·obtain⟨h1,h2⟩:=hs.addTok (n:=A.size) hp (by rw[Array.size_append];omega)
  refine⟨_,.slOf hsz (fun j d hj=>?_) hcap ⟨⟨0,w.heap.size,A.size,(A++Z).size⟩,by simp[G.setTk,Bv],Nat.le_refl _,fun _=>⟨rfl,?_,?_⟩⟩,h1,h2,Vm (.inl (Nat.le_refl _))⟩
  ·have hjl:j<A.size:=by rw[hr.size];exact(List.getElem?_eq_some_iff.1 hj).1
   refine⟨A[j],?_,(hr.at_ j d _ hj (Array.getElem?_eq_getElem hjl)).mono h2.mono⟩;simp only[G.setTk,Nat.zero_add,true_and];rw[if_pos ⟨Nat.zero_le _,hjl⟩,Array.getElem?_append_left hjl,Array.getElem?_eq_getElem hjl]
  ·simp only[];rw[hAs];omega
  ·simp only[];rw[hAZ];omega
 ·have hst:(st++ [Obj.cells rows.flatten])[st.length]?=some (.cells rows.flatten):=by simp
  have hm:=hs.more (st':=st++ [Obj.cells rows.flatten]) (fun id o h=>by rw[List.getElem?_append_left (List.getElem?_eq_some_iff.1 h).1];exact h)
  obtain⟨h1,h2⟩:=hm.1.addObj (n:=(A++Z).size) hp hst (by
    cases hl:g.loc st.length with
    |none=>rfl
    |some c=>exact absurd (hs.loc_lt hl) (by omega)) (by
    cases hl:g.tk st.length with
    |none=>rfl
    |some c=>exact absurd (hs.tk_lt hl) (by omega)) (fun g' w' hmono hb hI hh=>by
    refine⟨A++Z,e,(0,0),hh,hb.symm,fun o _=>by simp,by rw[Array.size_append,hr.size];omega,fun j d v hj hv=>?_,hI⟩
    have hjl:j<A.size:=by rw[hr.size];exact(List.getElem?_eq_some_iff.1 hj).1
    rw[Array.getElem?_append_left hjl]at hv;exact(hr.at_ j d v hj hv).mono hmono)
  refine⟨_,.arr (c:=w.heap.size) (by simp[G.addLoc,Bv]) (Nat.le_refl _) hcap ?_,h1,hm.2.trans h2,Sa⟩
  simp only[G.addLoc,Bv];rw[hAZ];omega
end
section
variable{P:Program}{w w':World}{g g':G}{st st':St}{v:D}
theorem take_len{α:Type}{l:List α}{n:Nat}(h:l.length=n):l.take n=l:=by rw[← h,List.take_length]
theorem Aun{t u ty:TypeId}{k:TypeDesc}{hb:Bool}{a b:D}{x y:Value}{st':St}{W:Cb}(hu:P.underlying u=some k)(hk:∀kk,k≠ .int kk)
  (hs:Co g st w)(hx:VR g a x)(hy:VR g b y)(h:C8 P hb t a b st=some (v,st',W)):
  ∃r g' w',(Builtin.append_ #[t,u] ty #[x,y]).run P w= .ok r w'∧VR g' v r∧Co g' st' w'∧Step g st w W g' st' w'∧Dx g st g':=by
 unfold C8 at h;split at h
 case h_1=>cases h
 rename_i e he;have ht:=Dq he;split at h
 case h_2=>cases h
 rename_i sz by_ new hsz hby hnew;split at h
 case isFalse=>cases h
 rename_i hc;simp only[Bool.and_eq_true]at hc;obtain⟨hall,hz0⟩:=hc;obtain⟨i,z,hi,hz,hzs⟩:=Aig hz0;have hsi:i.size=sz:=by obtain⟨i',hi',rfl⟩:=Adl hsz;rw[hi]at hi';cases hi';rfl
 have hbi:i.bytes=by_:=by obtain⟨i',hi',rfl⟩:=Zp hby;rw[hi]at hi';cases hi';rfl
 have hnsz:∀r∈new,r.length=sz:=fun r hr=>by have:=List.all_eq_true.1 hall r hr;simp only[Bool.and_eq_true,beq_iff_eq]at this;exact this.1
 have hnok:new.flatten.all Al=true:=by rw[List.all_eq_true];intro d hd;obtain⟨r,hr,hd⟩:=List.mem_flatten.1 hd;have:=List.all_eq_true.1 hall r hr;simp only[Bool.and_eq_true,beq_iff_eq]at this;exact List.all_eq_true.1 this.2 d hd
 obtain⟨X,hlen,hX,hXr⟩:=Qh (P:=P) hs hy hnew hnsz (Nat.le_refl _);obtain⟨X',hlen',hX',hXr'⟩:=Qh (P:=P) (Vt hs).1 hy hnew hnsz (Nat.le_refl _);rw[take_len rfl]at hXr hXr';have hempty:new= []→X.toList= []:=fun hn=>by have:=hXr.size;rw[hn]at this;exact Array.toList_eq_nil_iff.2 (Array.eq_empty_of_size_eq_zero this)
 have hXs:X.size=new.length*sz:=by rw[hXr.size,He hnsz]
 have hXtl:X.toList.length=new.length*sz:=by simpa using hXs
 have hnone:∀(base:Option Addr) (sLen sCap:Nat),new= []→sLen≤sCap→(Builtin.append_ #[t,u] ty #[.slice base sLen sCap,y]).run P w= .ok (.slice base sLen sCap) w:=fun base sLen sCap hn hle=>by
  have:=Vv (ty:=ty) (base:=base) (sLen:=sLen) (sCap:=sCap) (w':=w) ht hu hk hsz hlen hX (by rw[hn];exact hle) (by
   cases base with
   |none=>rfl
   |some a=>simp only[hempty hn];rfl)
  rw[this,hn];rfl
 have hgrow:∀(base:Option Addr) (sLen sCap:Nat) (O:Array Value),sCap<sLen+new.length→sLen+new.length≤Dh→(sLen+new.length)*by_≤Dh→(Builtin.firstCells sz sLen (.slice base sLen sCap)).run P w.drew= .ok O w.drew→(Builtin.append_ #[t,u] ty #[.slice base sLen sCap,y]).run P w=
    .ok (.slice (some ⟨w.heap.size,0,none⟩) (sLen+new.length) (grownCap w (sLen+new.length) sCap e))
     (w.drew.alloc (.cells (O++X'++Builtin.zeroCells z.cells (grownCap w (sLen+new.length) sCap e - (sLen+new.length))) e)):=
  fun base sLen sCap O h1 h2 h3 h4=>Aji ht hu hk hi hz hlen (by rw[hsi];exact h4) (by rw[hsi];exact hX') h1 h2 (by rw[hbi];exact h3)
 have hrow:∀(rows:List (List D)) (gr:Gr) (base:Option Addr) (sLen sCap:Nat),VR g (.sl rows gr) (.slice base sLen sCap)→(∀r∈rows,r.length=sz)→sCap<sLen+new.length→sLen+new.length≤Dh→(sLen+new.length)*by_≤Dh→∃A,F8 g (rows++new).flatten A∧sLen=rows.length∧(Builtin.append_ #[t,u] ty #[.slice base sLen sCap,y]).run P w=
    .ok (.slice (some ⟨w.heap.size,0,none⟩) (rows++new).length (grownCap w (rows++new).length sCap e))
     (w.drew.alloc (.cells (A++Builtin.zeroCells z.cells (grownCap w (rows++new).length sCap e - (rows++new).length)) e)):=by
  intro rows gr base sLen sCap hv hrs h1 h2 h3;have hll:sLen=rows.length:=by cases hv<;>rfl
  obtain⟨O,_,hO,hOr⟩:=Qh (P:=P) (rows:=rows) (sz:=sz) (n:=rows.length) (Vt hs).1 hv rfl hrs (Nat.le_refl _);rw[take_len rfl]at hOr;refine⟨O++X',by rw[List.flatten_append];exact hOr.append hXr',hll,?_⟩
  rw[List.length_append,← hll];exact hgrow base sLen sCap O h1 h2 h3 (by rw[hll]at *;exact hO)
 split at h
 ·
  have hxs:x= .slice none 0 0:=by cases hx;rfl
  subst hxs;split at h
  ·rename_i hn;cases h;exact⟨_,g,w,hnone none 0 0 (by simpa using hn) (Nat.le_refl _),.nilsl,hs,Step.refl g st w,Dx.refl _ _⟩
  ·rename_i hn;have hn':new≠ []:=by simpa using hn
   have hpos:0<new.length:=List.length_pos_iff.2 hn';split at h
   case isFalse=>cases h
   rename_i hc;simp only[Bool.and_eq_true,decide_eq_true_eq]at hc;obtain⟨A,hA,_,hrun⟩:=hrow [] .none none 0 0 (.slNil (by simp)) (by simp) (by omega) (by omega) (by simpa using hc.1)
   rw[List.nil_append]at hA hrun;obtain⟨⟨g1,h1,h2,h3,hf1⟩,⟨g2,h4,h5,h6,hf2⟩⟩:=Ag0 hs (e:=e) (Z:=Builtin.zeroCells z.cells (grownCap w new.length 0 e - new.length)) (cap:=grownCap w new.length 0 e) hA hnsz
    (grownCap_ge _ _ _ _) (by rw[Jl,hzs])
   cases hb with
   |true=>simp only[if_true]at h;cases h;exact⟨_,g2,_,hrun,h4,h5,h6,hf2⟩
   |false=>simp only[BF]at h;cases h;exact⟨_,g1,_,hrun,h1,h2,h3,hf1⟩
 ·
  rename_i rows gr;have hxs:∃base sCap,x= .slice base rows.length sCap∧rows.length≤sCap:=by
   cases hx with
   |slNil=>exact⟨_,_,rfl,Nat.le_refl _⟩
   |slEmp=>exact⟨_,_,rfl,Nat.zero_le _⟩
   |sl _ _ _ hcap=>exact⟨_,_,rfl,hcap⟩
  obtain⟨base,sCap,rfl,hcap⟩:=hxs;split at h
  ·rename_i hn;cases h;exact⟨_,g,w,hnone base rows.length sCap (by simpa using hn) hcap,hx,hs,Step.refl g st w,Dx.refl _ _⟩
  ·rename_i hn;have hn':new≠ []:=by simpa using hn
   have hpos:0<new.length:=List.length_pos_iff.2 hn';split at h
   ·cases h
   rename_i hc;simp only[Bool.not_eq_true',Bool.not_eq_false,Bool.and_eq_true,decide_eq_true_eq]at hc;obtain⟨⟨hm1,hm2⟩,hrs0⟩:=hc;have hrs:∀r∈rows,r.length=sz:=fun r hr=>by simpa using List.all_eq_true.1 hrs0 r hr
   have hrn:∀r∈rows++new,r.length=sz:=fun r hr=>by
    rcases List.mem_append.1 hr with h|h
    ·exact hrs r h
    ·exact hnsz r h
   split at h
   ·cases h
   ·
    have hc2:sCap=rows.length:=by
     cases hx with
     |slNil=>rfl
     |slEmp _ hc=>exact hc rfl
     |sl _ _ _ _ hgr=>exact hgr
    obtain⟨A,hA,_,hrun⟩:=hrow rows _ base rows.length sCap hx hrs (by omega) hm2 hm1
    obtain⟨⟨g1,h1,h2,h3,hf1⟩,⟨g2,h4,h5,h6,hf2⟩⟩:=Ag0 hs (e:=e) (Z:=Builtin.zeroCells z.cells (grownCap w (rows++new).length sCap e - (rows++new).length))
     (cap:=grownCap w (rows++new).length sCap e) hA hrn (grownCap_ge _ _ _ _) (by rw[Jl,hzs])
    cases hb with
    |true=>simp only[if_true]at h;cases h;rw[List.length_append]at h4 hrun;rw[List.length_append]at h5 h6;exact⟨_,g2,_,hrun,h4,h5,h6,hf2⟩
    |false=>simp only[BF]at h;cases h;exact⟨_,g1,_,hrun,h1,h2,h3,hf1⟩
   ·
    rename_i id gen;split at h
    case h_2=>cases h
    rename_i gn hst;split at h
    case isFalse=>cases h
    rename_i hc;simp only[Bool.and_eq_true,decide_eq_true_eq,Bool.not_eq_true']at hc;obtain⟨rfl,hne⟩:=hc;have hrne:rows≠ []:=by simpa using hne
    cases h;obtain⟨r0,hr0⟩:=List.exists_mem_of_ne_nil rows hrne;have hx0:=hx;cases hx with
    |slNil=>exact absurd rfl hrne
    |slEmp=>exact absurd rfl hrne
    |sl hsz' hI hv hcap' hgr=>
     rename_i c o sz';have hszz:sz'=sz:=by rw[← hsz' r0 hr0,hrs r0 hr0]
     subst hszz;obtain⟨tk,htk,hle,hq⟩:=hgr;obtain⟨h1,A0,T0,fr0,h2⟩:=hs.tok _ _ htk;rw[hst]at h1;cases h1;obtain⟨rfl,hhi,hce⟩:=hq rfl;have hrd:=Reads.ofRows hs hsz' hI hv;by_cases hfit:rows.length+new.length≤sCap
     ·obtain⟨A,w',hrun,hA,hsim,hstep⟩:=hs.tokFit (P:=P) (X:=X.toList) htk (fun u hu=>by
       obtain⟨j,hj⟩:=List.mem_iff_getElem?.1 hu;have hj':X[j]?=some u:=by simpa using hj
       have hlt:j<new.flatten.length:=by rw[← hXr.size];exact(Array.getElem?_eq_some_iff.1 hj').1
       exact Vj (hXr.at_ j _ u (List.getElem?_eq_getElem hlt) hj') (List.all_eq_true.1 hnok _ (List.getElem_mem hlt))) (by
       rw[hhi,hXtl];have:=Nat.mul_le_mul_right sz' hfit;rw[Nat.add_mul]at this;omega)
      have hrun':=Vv (ty:=ty) (base:=some ⟨tk.blk,o,none⟩) (sLen:=rows.length) (sCap:=sCap) (w':=w') ht hu hk hsz hlen hX hfit (by simp only[Ga];rw[← hhi];exact hrun)
      refine⟨_,_,w',hrun',?_,hsim,hstep,Vm (.inr ⟨_,htk⟩)⟩;rw[← List.length_append];refine .slOf hrn (fun j d hj=>?_) (by rw[List.length_append];exact hfit) ⟨⟨tk.gen+1,tk.blk,tk.hi+X.toList.length,tk.ce⟩,by simp only[G.setTk,Bv],Nat.le_refl _,fun _=>⟨rfl,?_,?_⟩⟩
      ·rw[List.flatten_append,List.getElem?_append,He hrs]at hj;by_cases hjl:j<rows.length*sz'
       ·rw[if_pos hjl]at hj;have hq0:0<sz':=by
         rcases Nat.eq_zero_or_pos sz' with h0|h0
         ·rw[h0]at hjl;omega
         ·exact h0
        have hjd:j / sz'<rows.length:=by rw[Nat.div_lt_iff_lt_mul hq0];exact hjl
        have hdm:j / sz'*sz'+j % sz'=j:=by rw[Nat.mul_comm];exact Nat.div_add_mod j sz'
        have hrl:rows[j / sz'].length=sz':=hrs _ (List.getElem_mem hjd);have hjm:j % sz'<rows[j / sz'].length:=by rw[hrl];exact Nat.mod_lt _ hq0
        have hg:=Od hrs (List.getElem?_eq_getElem hjd) (List.getElem?_eq_getElem hjm);rw[hdm,hj]at hg;cases hg;obtain⟨u,hu1⟩:=hI _ _ _ _ (List.getElem?_eq_getElem hjd) (List.getElem?_eq_getElem hjm);have hu2:=hv _ _ _ _ _ (List.getElem?_eq_getElem hjd) (List.getElem?_eq_getElem hjm) hu1;refine⟨u,hstep.mono.I _ _ _ ?_,hu2.mono hstep.mono⟩;rw[← hu1];congr 1;omega
       ·rw[if_neg hjl]at hj;have hlt:j - rows.length*sz'<X.size:=by rw[hXr.size];exact(List.getElem?_eq_some_iff.1 hj).1
        refine⟨X[j - rows.length*sz'],?_,(hXr.at_ _ _ _ hj (Array.getElem?_eq_getElem hlt)).mono hstep.mono⟩;have:=hA (j - rows.length*sz') (by simpa using hlt)
        simp only[G.setTk];rw[if_pos ⟨trivial,by omega,by rw[hhi,hXtl];omega⟩]
        rw[show o+j=tk.hi+(j - rows.length*sz')from by omega,this]
        simp[hlt]
      ·simp only[hXtl,hhi,List.length_append,Nat.add_mul];omega
      ·simp only[];exact hce
     ·obtain⟨A,hA,_,hrun⟩:=hrow rows _ (some ⟨tk.blk,o,none⟩) rows.length sCap hx0 hrs (by omega) hm2 hm1
      have hp:Push w (w.drew.alloc (.cells (A++Builtin.zeroCells z.cells (grownCap w (rows++new).length sCap e - (rows++new).length)) e))
       (.cells (A++Builtin.zeroCells z.cells (grownCap w (rows++new).length sCap e - (rows++new).length)) e):=⟨rfl,rfl,rfl⟩
      obtain⟨hsim,hstep⟩:=hs.tokGrow (n:=A.size) htk hp (by rw[Array.size_append];omega)
      have hAs:A.size=(rows++new).length*sz':=by rw[hA.size,He hrn]
      refine⟨_,_,_,hrun,?_,hsim,hstep,Vm (.inr ⟨_,htk⟩)⟩;refine .slOf hrn (fun j d hj=>?_) (grownCap_ge _ _ _ _) ⟨⟨tk.gen+1,w.heap.size,A.size,(A++Builtin.zeroCells z.cells (grownCap w (rows++new).length sCap e - (rows++new).length)).size⟩,by simp only[G.setTk,Bv],Nat.le_refl _,fun _=>⟨rfl,?_,?_⟩⟩
      ·have hjl:j<A.size:=by rw[hA.size];exact(List.getElem?_eq_some_iff.1 hj).1
       refine⟨A[j],?_,(hA.at_ j d _ hj (Array.getElem?_eq_getElem hjl)).mono hstep.mono⟩;simp only[G.setTk,Nat.zero_add];rw[if_pos ⟨trivial,Nat.zero_le _,hjl⟩,Array.getElem?_append_left hjl,Array.getElem?_eq_getElem hjl]
      ·simp only[];rw[hAs];omega
      ·simp only[];rw[Array.size_append,hAs,Jl,hzs,Nat.sub_mul];have:=Nat.mul_le_mul_right sz' (grownCap_ge w (rows++new).length sCap e);omega
 ·
  rename_i s' id off len cap;cases hx with
  |arr hl h1 h2 h3=>
   rename_i sCap c;split at h
   ·rename_i hn;cases h;exact⟨_,g,w,hnone _ len sCap (by simpa using hn) (by omega),.arr hl h1 h2 h3,hs,Step.refl g st w,Dx.refl _ _⟩
   ·rename_i hn;have hn':new≠ []:=by simpa using hn
    have hpos:0<new.length:=List.length_pos_iff.2 hn';split at h
    ·cases h
    rename_i hc;simp only[Bool.not_eq_true',Bool.not_eq_false,Bool.and_eq_true,decide_eq_true_eq]at hc;obtain⟨⟨⟨hm1,hm2⟩,rfl⟩,rfl⟩:=hc;split at h
    case h_2=>cases h
    rename_i cs hst;have hfl:new.flatten.length=new.length*s':=He hnsz;have hfits:len+new.length≤sCap→∀w1,(storeCells ⟨c,len*s',none⟩ X.toList).run P w= .ok () w1→(Builtin.append_ #[t,u] ty #[.slice (some ⟨c,0,none⟩) len sCap,y]).run P w= .ok (.slice (some ⟨c,0,none⟩) (len+new.length) sCap) w1:=fun hf w1 hr=>Vv ht hu hk hsz hlen hX hf (by simp only[Ga,Nat.zero_add];exact hr)
    have hmul:∀q,len+new.length≤q→len*s'+new.length*s'≤q*s':=fun q hq=>by
     have:=Nat.mul_le_mul_right s' hq
     rwa [Nat.add_mul]at this
    split at h
    ·rename_i hc;simp only[Bool.and_eq_true,decide_eq_true_eq]at hc;cases h;obtain⟨w1,h4,h5,h6⟩:=Pq (P:=P) (off:=len*s') hs hl hst (B:=X.toList) (by simpa using hXr) hnok (by rw[hfl];have:=hmul _ hc.1;omega)
     rw[hfl,← Nat.add_mul]at h5 h6;exact⟨_,g,w1,hfits (by omega) w1 h4,.arr hl hc.1 h2 h3,h5,h6,Dx.refl _ _⟩
    ·split at h
     case isFalse=>cases h
     rename_i hc2;cases h;obtain⟨o,ho,hr⟩:=hs.obj _ _ hl;rw[hst]at ho;cases ho;obtain⟨A,T,fr,hr⟩:=hr;by_cases hf:len+new.length≤sCap
     ·
      have hAl:=hr.len;have hms:=hmul _ hf;have hAs:=hr.size;have hXl:X.toList.length=new.length*s':=by rw[Array.length_toList,hXs]
      have hrun:=Ha (P:=P) (c:=c) (T:=T) (fr:=fr) X.toList 0 (len*s') A w hr.heap (fun p h1 h2=>hr.fr p (by omega)) (by omega) (fun u hu=>by
       obtain⟨j,hj⟩:=List.mem_iff_getElem?.1 hu;have hj':X[j]?=some u:=by simpa using hj
       have hlt:j<new.flatten.length:=by rw[← hXr.size];exact(Array.getElem?_eq_some_iff.1 hj').1
       exact Vj (hXr.at_ j _ u (List.getElem?_eq_getElem hlt) hj') (List.all_eq_true.1 hnok _ (List.getElem_mem hlt)))
      have hfs:=foldl_set (len*s') X.toList 0 A;have hclt:=hs.blk _ _ hl;obtain⟨hsim,hstep⟩:=hs.arrMove (n:=A.size) (A:=putCells A (len*s') X.toList) (T:=T) (fr:=fr) (cs':=cs.take (len*s')++new.flatten)
       (w':= {w with heap:=w.heap.setIfInBounds c (.cells (putCells A (len*s') X.toList) T fr)}) (c1:=c) hl hst (by simp) (fun b hb hne=>by simp[Array.getElem?_setIfInBounds_ne (Ne.symm hne)]) (.inl rfl) (by simpa using hclt) (fun _=>hAs.symm)
       (fun g' hm hb hI=>by
        refine⟨Array.getElem?_setIfInBounds_self_of_lt hclt,by rw[hb];exact hfs.1,?_,?_,?_,hI⟩
        ·intro p hp;have:(putCells A (len*s') X.toList).size=A.size:=hfs.1;exact hr.fr p (by omega)
        ·have:(putCells A (len*s') X.toList).size=A.size:=hfs.1;rw[this,List.length_append,List.length_take,hfl];omega
        ·intro j d v hj hv;unfold putCells at hv;rw[hfs.2,hXl]at hv;rw[List.getElem?_append,List.length_take,Nat.min_eq_left hc2]at hj;by_cases hjl:j<len*s'
         ·rw[if_pos hjl,List.getElem?_take,if_pos hjl]at hj;rw[if_neg (by omega)]at hv
          exact(hr.at_ j d v hj hv).mono hm
         ·rw[if_neg hjl]at hj;have hlt:=(List.getElem?_eq_some_iff.1 hj).1;rw[hfl]at hlt;rw[if_pos (by omega),Nat.add_zero]at hv
          exact(hXr.at_ _ d v hj (by simpa using hv)).mono hm) rfl rfl
      refine⟨_,_,_,hfits hf _ hrun,.arr (c:=c) (by simp[G.addLoc,Bv]) (Nat.le_refl _) hf ?_,hsim,hstep,Sa⟩
      simp only[G.addLoc,Bv];omega
     ·
      have hms:=hmul _ (grownCap_ge w (len+new.length) sCap e);have hrd:Reads g w.drew c 0 (cs.take (len*s')):=(J3 (Vt hs).1 hl (.inl hst)).take _;obtain⟨O,hO,hOr⟩:=Es (P:=P) hrd;rw[List.length_take,Nat.min_eq_left hc2]at hO;have hrun:=hgrow (some ⟨c,0,none⟩) len sCap O (by omega) hm2 hm1 (by simpa[Builtin.firstCells]using hO)
      have hOX:=hOr.append hXr';have hOs:(O++X').size=(len+new.length)*s':=by rw[hOX.size,List.length_append,List.length_take,Nat.min_eq_left hc2,hfl,Nat.add_mul]
      let Z:=Builtin.zeroCells z.cells (grownCap w (len+new.length) sCap e - (len+new.length));have hZs:Z.size=(grownCap w (len+new.length) sCap e - (len+new.length))*s':=by rw[Jl,hzs]
      have hp:Push w (w.drew.alloc (.cells (O++X'++Z) e)) (.cells (O++X'++Z) e):=⟨rfl,rfl,rfl⟩;obtain⟨hsim,hstep⟩:=hs.arrMove (n:=(O++X'++Z).size) (A:=O++X'++Z) (T:=e) (fr:=(0,0)) (cs':=cs.take (len*s')++new.flatten) (w':=w.drew.alloc (.cells (O++X'++Z) e)) (c1:=w.heap.size)
       hl hst (by rw[hp.size];omega) (fun b hb _=>hp.old hb) (.inr (Nat.le_refl _)) (by rw[hp.size];omega) (fun h=>absurd (hs.blk _ _ hl) (by omega))
       (fun g' hm hb hI=>by
        refine⟨hp.new,hb.symm,fun o _=>by simp,by rw[Array.size_append,hOX.size];omega,fun j d v hj hv=>?_,hI⟩
        have hjl:j<(O++X').size:=by rw[hOX.size];exact(List.getElem?_eq_some_iff.1 hj).1
        rw[Array.getElem?_append_left hjl]at hv;exact(hOX.at_ j d v hj hv).mono hm) rfl rfl
      refine⟨_,_,_,hrun,.arr (c:=w.heap.size) (by simp[G.addLoc,Bv]) (Nat.le_refl _) (grownCap_ge _ _ _ _) ?_,hsim,hstep,Sa⟩
      simp only[G.addLoc,Bv];rw[Array.size_append,hOs,hZs,Nat.sub_mul];rw[Nat.add_mul];omega
 ·cases h
end
def Aa6(P:Program):Prop:=∀(f:FuncId) (fn:Func),P.funcs[f]?=some fn→fn.name≠ "runtime.NumGoroutine"
def Aky(C:Eo):Prop:=∀(f:FuncId) (x:List D→Option D),C.ext f=some x→∀(args:List D) (v:D),x args=some v→∀(g:G) (w:World) (A:Array Value),F8 g args A→∃r,(callFunc f A).run C.P w= .ok (.value r) w∧VR g v r
section
variable{P:Program}{w w':World}{g g':G}{st st':St}{v:D}
theorem Xg{d:D}{x:Value}(h:VR g' d x)(hd:R3 d=true):VR g d x:=by cases h<;>first|(simp[R3]at hd;done)|constructor
theorem Aje{d:D}{x:Value}(h:VR g' d x)(hd:Sn d=true):VR g d x:=by
 cases d with
 |undef=>exact .undef x
 |tup ds=>
  simp only[Sn]at hd;cases h with
  |tup h1 h2=>exact .tup h1 fun j d v hj hv=>Xg (h2 j d v hj hv) (List.all_eq_true.1 hd d (List.mem_of_getElem? hj))
 |int _ _=>exact Xg h hd
 |bool _=>exact Xg h hd
 |str _=>exact Xg h hd
 |_=>simp[Sn,R3]at hd
theorem LOk.upon{o:Oper}{a:Act}{W:Cb}{next:Act→World→Prop}{Q:Exit→Act→World→Prop}(h:LOk P (execOp a.eval o) v g st w st' W)
  (hK:∀r g' w',VR g' v r→Co g' st' w'→Step g st w W g' st' w'→Dx g st g'→next (a.put o.dst r) w'):o.wp P a w next Q:=by
 obtain⟨r,g',w',h1,h2,h3,h4,h5⟩:=h;unfold Oper.wp;rcases h1 with h1|⟨h1,rfl⟩
 ·rw[h1];exact hK r g' w' h2 h3 h4 h5
 ·rw[h1];exact hK undef g' w' h2 h3 h4 h5
theorem U4{b:Builtin}{hh:Bool}{ts:Array TypeId}{ty:TypeId}{cs:Array Bool}{as:List D}{A:Array Value}{W:Cb}(hs:Co g st w)(ha:F8 g as A)
  (h:Gn P hh b ts as st=some (v,st',W)):LOk P (builtin b ts ty cs A) v g st w st' W:=by
 have htwo:∀x y:D,as= [x,y]→∃p q,A= #[p,q]∧VR g x p∧VR g y q:=by
  rintro x y rfl;have h1:=ha.size;obtain⟨A⟩:=A
  match A,h1 with
  | [p,q],_=>exact⟨p,q,rfl,ha.at_ 0 x p rfl rfl,ha.at_ 1 y q rfl rfl⟩
 have hone:∀x:D,as= [x]→∃y,A= #[y]∧VR g x y:=by
  rintro x rfl;have h1:=ha.size;obtain⟨A⟩:=A
  match A,h1 with
  | [y],_=>exact⟨y,rfl,ha.at_ 0 x y rfl rfl⟩
 unfold Gn at h;split at h
 ·rename_i t u s x hts;obtain⟨p,q,rfl,hp,hq⟩:=htwo s x rfl;have hts':ts= #[t,u]:=by rw[← Array.toArray_toList (xs:=ts),hts]
  subst hts';split at h
  ·cases h
  ·cases h
  ·rename_i k hu hk;cases hk':P.underlying u with
   |none=>exact absurd hk' hu
   |some kk=>
    obtain⟨r,g',w',h1,h2,h3,h4,h5⟩:=Aun (ty:=ty) hk' (fun q hq=>hk q (by rw[hk',hq])) hs hp hq h
    exact⟨r,g',w',.inl (by simp[builtin,h1]),h2,h3,h4,h5⟩
 ·rename_i t ts' d s hts;obtain⟨p,q,rfl,hp,hq⟩:=htwo d s rfl;have hts':ts=(t::ts').toArray:=by rw[← Array.toArray_toList (xs:=ts),hts]
  subst hts';obtain⟨r,w',h1,h2,h3,h4⟩:=Bcs (u:=t) (ts:=ts') (ty:=ty) hs hp hq h;exact⟨r,g,w',.inl (by simp[builtin,h1]),h2,h3,h4,Dx.refl _ _⟩
 ·rename_i t ts' m k hts;obtain⟨p,q,rfl,hp,hq⟩:=htwo m k rfl;have hts':ts=(t::ts').toArray:=by rw[← Array.toArray_toList (xs:=ts),hts]
  subst hts';obtain⟨r,w',h1,h2,h3,h4⟩:=Aw7 (ts:=ts') (ty:=ty) hs hp hq h;exact⟨r,g,w',.inl (by simp[builtin,h1]),h2,h3,h4,Dx.refl _ _⟩
 ·rename_i t ts' x hts;obtain⟨p,rfl,hp⟩:=hone x rfl;have hts':ts=(t::ts').toArray:=by rw[← Array.toArray_toList (xs:=ts),hts]
  subst hts';obtain⟨r,w',h1,h2,h3,h4⟩:=A3n (ts:=ts') (ty:=ty) hs hp h;exact⟨r,g,w',.inl (by simp[builtin,h1]),h2,h3,h4,Dx.refl _ _⟩
 ·cases h
theorem Ti{f:St→D→Option (D × St)}(hf:∀(st:St) (d d':D) (st':St),f st d=some (d',st')→st'.length=st.length):
   ∀(ds ds':List D) (st st':St),Eu f st ds=some (ds',st')→st'.length=st.length
  | [],ds',st,st',h=>by simp[Eu]at h;rw[h.2]
  |d::ds,ds',st,st',h=>by
   unfold Eu at h;split at h
   ·rename_i d1 st1 h1;split at h
    ·rename_i ds1 st2 h2;cases h;rw[Ti hf ds ds1 st1 _ h2,hf st d d1 st1 h1]
    ·cases h
   ·cases h
theorem Aiz:∀(n:Nat) (st:St) (d d':D) (st':St),Sl n st d=some (d',st')→st'.length=st.length
  |0,st,d,d',st',h=>by simp[Sl]at h
  |n+1,st,d,d',st',h=>by
   unfold Sl at h;split at h
   ·cases h;rfl
   ·cases h;rfl
   ·split at h
    ·rename_i cs st1 h1;cases h;exact Ti (Aiz n) _ _ _ _ h1
    ·cases h
   ·split at h
    ·split at h
     ·cases h;rfl
     ·cases h
    ·split at h
     ·rename_i cs st1 h1;split at h
      ·cases h;rw[List.length_set];exact Ti (Aiz n) _ _ _ _ h1
      ·cases h
     ·cases h
    ·cases h
   ·cases h;rfl
theorem Asp{C:Eo}{cf:Ah}{f:FuncId}{first caps args:List D}{A B X:Array Value}{W:Cb}{o:Oper}{a:Act}
  {next:Act→World→Prop}{Q:Exit→Act→World→Prop}(hx:Aky C)(hn:Dm C.P f=false)
  (h:G6 C cf f first caps args st=some (v,st',W))(hs:Co g st w)(h1:F8 g first A)(h2:F8 g caps B)(h3:F8 g args X)
  (hK:∀r g' w',VR g' v r→Co g' st' w'→Step g st w W g' st' w'→Dx g st g'→next (a.put o.dst r) w'):
  o.upon C.P a next Q ((callFunc f (A++X++B)).run C.P w):=by
 unfold G6 at h;rw[hn]at h;simp only[Bool.not_false,if_true]at h;split at h
 ·rename_i x hxe;cases hxv:x (first++args++caps)with
  |none=>rw[hxv]at h;cases h
  |some u=>rw[hxv]at h;cases h;obtain⟨r,h4,h5⟩:=hx f x hxe _ _ hxv g w (A++X++B) ((h1.append h3).append h2);rw[h4];exact hK r g w h5 hs (Step.refl g st w) (Dx.refl _ _)
 ·cases h
theorem Ang{C:Eo}{cf:Ah}{β:Nat→Nat→Option Value}{f:FuncId}{first caps args:List D}{A B X:Array Value}{W:Cb}{o:Oper}{a:Act}
  {next:Act→World→Prop}{Q:Exit→Act→World→Prop}(hcf:∀f,Ji C.P β f (cf f))(hb:g.base=β)(hbody:Dm C.P f=true)
  (h:G6 C cf f first caps args st=some (v,st',W))(hs:Co g st w)(h1:F8 g first A)(h2:F8 g caps B)(h3:F8 g args X)
  (hK:∀r g' w',VR g' v r→Co g' st' w'→Step g st w W g' st' w'→Dx g st g'→next (a.put o.dst r) w'):
  o.upon C.P a next Q (.ok (.enter f (A++X++B)) w):=by
 unfold G6 at h;rw[hbody]at h;simp only[Bool.not_true,BF]at h;split at h
 ·
  refine(hcf f _ _ _ _ _ h g w (A++X++B) hb hs ((h1.append h3).append h2)).mono ?_;rintro e w'' ⟨r,g',rfl,h4,h5,h6,h7⟩;exact hK r g' w'' h4 h5 h6 h7
 ·split at h
  ·cases h
  rename_i as st1 hfz;obtain⟨g1,hF,hX⟩:=Ox hfz hs h3;split at h
  ·cases h
  rename_i v1 st2 W1 hc;refine(hcf f _ _ _ _ _ hc g1 w (A++X++B) (by rw[hF.step.mono.base];exact hb) hF.sim (((h1.mono hF.step.mono).append hX).append (h2.mono hF.step.mono))).mono ?_
  rintro e w'' ⟨r,g',rfl,h4,h5,h6,h7⟩;have hF0:Dx g st g1:=fun i _ p q=>⟨by rw[hF.loc];exact p,by rw[hF.tk];exact q⟩
  split at h
  ·rename_i hsc;simp only[Bool.and_eq_true,List.isEmpty_iff]at hsc;obtain⟨rfl,hsc⟩:=hsc;cases h;obtain⟨h8,h9⟩:=hs.still (w':=w'') h6.size (fun b hb=>h6.fr b hb (by simp)) h6.os h6.out
   exact hK r g w'' (Aje h4 hsc) h8 h9 (Dx.refl _ _)
  ·cases h;refine hK r g' w'' h4 h5 ((hF.step.trans h6).weaken fun i hi b hb=>⟨i,?_,hb⟩) (fun i hi p q=>?_)
   ·rw[Cm]at hi ⊢;rcases hi with hi|hi
    ·exact .inr hi
    ·cases hi
   ·obtain⟨p',q'⟩:=hF0 i hi p q;exact h7 i (by have:=Ti (Aiz Gu) _ _ _ _ hfz;omega) p' q'
theorem Abn{C:Eo}{cf:Ah}{hh:Bool}{β:Nat→Nat→Option Value}{o:Oper}{a:Act}{ρ:Operand→D}{W:Cb}{next:Act→World→Prop}{Q:Exit→Act→World→Prop}
  (hcf:∀f,Ji C.P β f (cf f))(hng:Aa6 C.P)(hext:Aky C)(hb:g.base=β)(h:Bj C hh cf o ρ st=some (v,st',W))(hs:Co g st w)(hv:∀x∈o.op.operands,VR g (ρ x) (a.eval x))
  (hK:∀r g' w',VR g' v r→Co g' st' w'→Step g st w W g' st' w'→Dx g st g'→next (a.put o.dst r) w'):o.wp C.P a w next Q:=by
 unfold Bj at h;split at h
 ·
  rename_i t x y hop;rw[hop]at hv;refine LOk.upon ?_ hK;unfold execOp;rw[hop];exact Ao2 hs (hv x (by simp[Op.operands])) (hv y (by simp[Op.operands])) h
 ·rename_i t m k x hop;rw[hop]at hv;refine LOk.upon ?_ hK;unfold execOp;rw[hop];exact X6 hs (hv m (by simp[Op.operands])) (hv k (by simp[Op.operands])) (hv x (by simp[Op.operands])) h
 ·rename_i t m k x hop;rw[hop]at hv;refine LOk.upon ?_ hK;unfold execOp;rw[hop];exact X6 hs (hv m (by simp[Op.operands])) (hv k (by simp[Op.operands])) (hv x (by simp[Op.operands])) h
 ·rename_i it b hop;rw[hop]at hv;refine LOk.upon ?_ hK;unfold execOp;rw[hop];exact Awy hs (hv it (by simp[Op.operands])) h
 ·
  rename_i b args ts hop;rw[hop]at hv;refine LOk.upon ?_ hK;unfold execOp;rw[hop];simp only[resolve,invoke,pure_bind];exact U4 hs (P6 fun x hx=>hv x (by simp[Op.operands,Call.operands];simpa using hx)) h
 ·
  rename_i x args ts hop;rw[hop]at hv;split at h
  case h_2=>cases h
  rename_i f first caps hx
  have hvx:=hv x (by simp[Op.operands,Call.operands])
  rw[hx]at hvx;have hargs:F8 g (args.toList.map ρ) (args.map a.eval):=P6 fun y hy=>hv y (by simp[Op.operands,Call.operands];exact .inr (by simpa using hy))
  generalize hax:a.eval x=ax at hvx;cases hvx with
  |func hsa hsb hva hvb=>
   rename_i A B;unfold Oper.wp;have hcall:(execOp a.eval o).run C.P w=(callFunc f (A++args.map a.eval++B)).run C.P w:=by unfold execOp;rw[hop];simp[resolve,hax,Deferred.ofValue,invoke]
   cases hbody:Dm C.P f with
   |false=>rw[hcall];exact Asp hext hbody h hs ⟨hsa,hva⟩ ⟨hsb,hvb⟩ hargs hK
   |true=>
    have hrun:(callFunc f (A++args.map a.eval++B)).run C.P w= .ok (.enter f (A++args.map a.eval++B)) w:=by
     unfold Dm at hbody;split at hbody
     ·rename_i fn hfn;have hnb:fn.body≠none:=by rintro hbb;simp[hbb]at hbody
      simp[callFunc,hfn,hng f fn hfn,hnb]
     ·cases hbody
    rw[hcall,hrun];exact Ang hcf hb hbody h hs ⟨hsa,hva⟩ ⟨hsb,hvb⟩ hargs hK
 ·cases h
end
def K(st st':St)(W:Cb):Prop:=st.length≤st'.length∧∀id,id<st.length→id ∉ W→st'[id]?=st[id]?
theorem K.refl(st:St)(W:Cb):K st st W:=⟨Nat.le_refl _,fun _ _ _=>rfl⟩
theorem K.trans{st st1 st2:St}{W V:Cb}(h:K st st1 W)(h':K st1 st2 V):K st st2 (Dj V W):=
 ⟨Nat.le_trans h.1 h'.1,fun id hi hn=>by rw[Cm]at hn;rw[h'.2 id (Nat.lt_of_lt_of_le hi h.1) (fun h=>hn (.inl h)),h.2 id hi (fun h=>hn (.inr h))]⟩
theorem K.weaken{st st':St}{W V:Cb}(h:K st st' W)(hs:∀id∈W,id∈V):K st st' V:=
 ⟨h.1,fun id hi hn=>h.2 id hi fun hw=>hn (hs id hw)⟩
theorem K.set{st:St}{id:Nat}{o:Obj}{W:Cb}(h:id∈W):K st (st.set id o) W:=
 ⟨by simp,fun i hi hn=>by rw[List.getElem?_set_ne];rintro rfl;exact hn h⟩
theorem K.app{st l:St}{W:Cb}:K st (st++l) W:=⟨by simp,fun i hi _=>List.getElem?_append_left hi⟩
def Yj(st st':St):Prop:=st'.length=st.length∧∀id:Nat,st'[id]?=st[id]?∨∃cs cs',st[id]?=some (Obj.cells cs)∧st'[id]?=some (Obj.fcells cs')
theorem Yj.refl(st:St):Yj st st:=⟨rfl,fun _=> .inl rfl⟩
theorem Yj.trans{st st1 st2:St}(h:Yj st st1)(h':Yj st1 st2):Yj st st2:=by
 refine⟨h'.1.trans h.1,fun id=>?_⟩;rcases h.2 id with h1|⟨cs,cs',h1,h2⟩
 ·rcases h'.2 id with h3|⟨cs,cs',h3,h4⟩
  ·exact .inl (h3.trans h1)
  ·exact .inr ⟨cs,cs',by rw[← h1];exact h3,h4⟩
 ·rcases h'.2 id with h3|⟨cs1,cs1',h3,h4⟩
  ·exact .inr ⟨cs,cs',h1,by rw[h3];exact h2⟩
  ·rw[h2]at h3;cases h3
theorem Aax{f:St→D→Option (D × St)}(hf:∀(st:St) (d d':D) (st':St),f st d=some (d',st')→Yj st st'):
  ∀(ds ds':List D) (st st':St),Eu f st ds=some (ds',st')→Yj st st'
 | [],ds',st,st',h=>by simp[Eu]at h;rw[h.2];exact .refl _
 |d::ds,ds',st,st',h=>by
  unfold Eu at h;split at h
  ·rename_i d1 st1 h1;split at h
   ·rename_i ds1 st2 h2;cases h;exact(hf st d d1 st1 h1).trans (Aax hf ds ds1 st1 _ h2)
   ·cases h
  ·cases h
theorem Ap0:∀(n:Nat) (st:St) (d d':D) (st':St),Sl n st d=some (d',st')→Yj st st'
 |0,st,d,d',st',h=>by simp[Sl]at h
 |n+1,st,d,d',st',h=>by
  unfold Sl at h;split at h
  ·cases h;exact .refl _
  ·cases h;exact .refl _
  ·split at h
   ·rename_i cs st1 h1;cases h;exact Aax (Ap0 n) _ _ _ _ h1
   ·cases h
  ·split at h
   ·split at h
    ·cases h;exact .refl _
    ·cases h
   ·split at h
    ·rename_i cs st1 h1;split at h
     ·rename_i h2 h3;cases h;refine(Aax (Ap0 n) _ _ _ _ h1).trans ⟨by simp,fun i=>?_⟩
      rw[List.getElem?_set];split
      ·rename_i e;subst e;exact .inr ⟨_,cs,h2,by rw[if_pos (List.getElem?_eq_some_iff.1 h2).1]⟩
      ·exact .inl rfl
     ·cases h
    ·cases h
   ·cases h
  ·cases h;exact .refl _
theorem Aex{st st':St}{id:Nat}{cs cs':List D}(h:st[id]?=some (.cells cs))(h':st'[id]?=some (.fcells cs')):id∈Dn st st':=by unfold Dn;rw[List.mem_filter,List.mem_range];exact⟨(List.getElem?_eq_some_iff.1 h).1,by rw[h,h']⟩
theorem Yj.k{st st':St}(h:Yj st st'):K st st' (Dn st st'):=
 ⟨by rw[h.1];exact Nat.le_refl _,fun id _ hn=>by
  rcases h.2 id with h1|⟨cs,cs',h1,h2⟩
  ·exact h1
  ·exact absurd (Aex h1 h2) hn⟩
theorem Zm{st st':St}{ds ds':List D}(h:Cw st ds=some (ds',st')):Yj st st':=Aax (Ap0 Gu) _ _ _ _ h
section
variable{P:Program}{st st':St}{v:D}{W:Cb}
theorem A0o{t:TypeId}{a x:D}(h:I4 P t a x st=some (v,st',W)):K st st' W:=by
 unfold I4 at h;split at h
 ·split at h
  ·dsimp only at h;split at h
   ·cases h;exact K.set (by simp)
   ·cases h
  ·cases h
 ·cases h
theorem Xt{t:TypeId}{m k x:D}(h:Hq P t m k x st=some (v,st',W)):K st st' W:=by
 unfold Hq at h;split at h
 ·split at h
  ·split at h
   ·cases h
   ·rename_i v1 st1 hfz;have hk:=(Ap0 _ _ _ _ _ hfz).k;have key:∀id o,K st (st1.set id o) (Dj (Dn st st1) [id]):=fun id o=>
     (hk.trans (K.set (id:=id) (o:=o) (W:= [id]) (by simp))).weaken fun i hi=>by rw[Cm]at hi ⊢;exact hi.symm
    split at h
    ·split at h
     ·split at h
      ·cases h;exact key _ _
      ·cases h
     ·cases h;exact key _ _
     ·cases h
    ·cases h
  ·cases h
 ·cases h
theorem Bah{a:D}{b:Bool}(h:Ak4 a b st=some (v,st',W)):K st st' W:=by
 unfold Ak4 at h;split at h
 ·split at h
  ·split at h
   ·dsimp only at h;cases h;exact K.set (by simp)
   ·cases h;exact K.refl _ _
  ·cases h
 ·cases h
theorem Ba3{t:TypeId}{d s:D}(h:Als P t d s st=some (v,st',W)):K st st' W:=by
 unfold Als at h;split at h
 ·split at h
  ·dsimp only at h;split at h
   ·split at h
    ·split at h
     ·cases h;exact K.set (by simp)
     ·cases h
    ·cases h
   ·cases h
  ·cases h
 ·cases h
theorem Avd{t:TypeId}{m k:D}(h:Wz P t m k st=some (v,st',W)):K st st' W:=by
 unfold Wz at h;split at h
 ·split at h
  ·split at h
   ·split at h
    ·cases h;exact K.set (by simp)
    ·cases h;exact K.refl _ _
    ·cases h
   ·cases h
  ·cases h
 ·cases h
theorem A4z{t:TypeId}{x:D}(h:Ac2 P t x st=some (v,st',W)):K st st' W:=by
 unfold Ac2 at h;split at h
 ·cases h;exact K.refl _ _
 ·cases h;exact K.refl _ _
 ·split at h
  ·cases h;exact K.refl _ _
  ·split at h
   ·split at h
    ·cases h;exact K.set (by simp)
    ·cases h
   ·cases h
 ·cases h
theorem Atb{hh:Bool}{t:TypeId}{s x:D}(h:C8 P hh t s x st=some (v,st',W)):K st st' W:=by
 unfold C8 at h;split at h
 ·cases h
 split at h
 case h_2=>cases h
 split at h
 case isFalse=>cases h
 split at h
 ·split at h
  ·cases h;exact K.refl _ _
  ·split at h
   ·split at h<;>(cases h;exact K.app)
   ·cases h
 ·split at h
  ·cases h;exact K.refl _ _
  ·split at h
   ·cases h
   ·split at h
    ·cases h
    ·split at h<;>(cases h;exact K.app)
    ·split at h
     ·split at h
      ·cases h;exact K.set (by simp)
      ·cases h
     ·cases h
 ·split at h
  ·cases h;exact K.refl _ _
  ·split at h
   ·cases h
   ·split at h
    ·split at h
     ·cases h;exact K.set (by simp)
     ·split at h
      ·cases h;exact K.trans (V:= []) (K.set (List.mem_singleton.2 rfl)) K.app
      ·cases h
    ·cases h
 ·cases h
theorem Aqt{hh:Bool}{b:Builtin}{ts:Array TypeId}{as:List D}(h:Gn P hh b ts as st=some (v,st',W)):K st st' W:=by
 unfold Gn at h;split at h
 ·split at h
  ·cases h
  ·cases h
  ·exact Atb h
 ·exact Ba3 h
 ·exact Avd h
 ·exact A4z h
 ·cases h
theorem Bbm{C:Eo}{cf:Ah}{f:FuncId}{first caps args:List D}(hcf:∀f,Ba (cf f))(h:G6 C cf f first caps args st=some (v,st',W)):K st st' W:=by
 unfold G6 at h;split at h
 ·split at h
  ·rename_i x _;cases hx:x (first++args++caps)with
   |none=>rw[hx]at h;cases h
   |some u=>rw[hx]at h;cases h;exact K.refl _ _
  ·cases h
 split at h
 ·exact hcf f _ _ _ _ _ h
 ·split at h
  ·cases h
  rename_i as st1 hfz;split at h
  ·cases h
  rename_i v1 st2 W1 hc;split at h
  ·cases h;exact K.refl _ _
  ·cases h;exact((Zm hfz).k.trans (hcf f _ _ _ _ _ hc)).weaken fun i hi=>by rw[Cm]at hi ⊢;exact hi.symm
theorem Jz{C:Eo}{cf:Ah}{hh:Bool}{o:Oper}{ρ:Operand→D}(hcf:∀f,Ba (cf f))(h:Bj C hh cf o ρ st=some (v,st',W)):K st st' W:=by
 unfold Bj at h;split at h
 ·exact A0o h
 ·exact Xt h
 ·exact Xt h
 ·exact Bah h
 ·exact Aqt h
 ·split at h
  ·exact Bbm hcf h
  ·cases h
 ·cases h
end
theorem R9{st:St}{id:Nat}{o:Obj}(h:st[id]?=some o):id<st.length:=(List.getElem?_eq_some_iff.1 h).1
theorem Akq{st:St}{d d':D}(h:Oa st d=some d'):∀id∈F4 d,id<st.length:=by
 unfold Oa at h;split at h
 ·simp[F4]
 ·simp[F4]
 ·split at h
  ·rename_i hst;intro i hi;simp only[F4,List.mem_singleton]at hi;subst hi;exact R9 hst
  ·cases h
 ·rename_i h1 h2 h3;intro i hi;cases d<;>simp[F4]at hi;exact absurd rfl (h3 _ _ _ _ _)
theorem Alr{f:D→Option D}:∀{cs cs':List D},Eb f cs=some cs'→∀d∈cs,∃d',f d=some d'
 | [],_,_,d,hd=>by cases hd
 |c::cs,cs',h,d,hd=>by
  unfold Eb at h;split at h
  ·rename_i d1 ds1 h1 h2;rcases List.mem_cons.1 hd with rfl|hd
   ·exact⟨d1,h1⟩
   ·exact Alr h2 d hd
  ·cases h
theorem Ao5{st:St}{d d':D}(h:B5q st d=some d'):∀id∈Iz d,id<st.length:=by
 unfold B5q at h;split at h
 ·rename_i cs;cases hm:Eb (Oa st) cs with
  |none=>rw[hm]at h;cases h
  |some cs'=>intro id hid;simp only[Iz,List.mem_flatMap]at hid;obtain⟨c,hc,hid⟩:=hid;obtain⟨d',h1⟩:=Alr hm c hc;exact Akq h1 id hid
 ·rename_i hne;have:Iz d=F4 d:=by
   cases d<;>first|rfl|exact absurd rfl (hne _)
  rw[this];exact Akq h
theorem Xx{st:St}:∀{l ps:List (Nat × D)},Fs st l=some ps→∀p∈l,∀id∈Iz p.2,id<st.length
 | [],_,_,p,hp=>by cases hp
 |(i,d)::l,ps,h,p,hp=>by
  unfold Fs at h;split at h
  ·rename_i h1 h2;rcases List.mem_cons.1 hp with rfl|hp
   ·exact Ao5 h1
   ·exact Xx h2 p hp
  ·cases h
section
variable{P:Program}{st:St}{v:D}{ids:Cb}
theorem Ays{t:TypeId}{a:D}(h:Fp P t a st=some (v,.rd ids)):∀id∈ids,id<st.length:=by
 unfold Fp at h;split at h
 ·split at h
  case h_3=>cases h
  all_goals
   rename_i hst;simp only[Option.map_eq_some_iff,Prod.mk.injEq,Fx.rd.injEq]at h;obtain⟨_,_,_,rfl⟩:=h;intro i hi;simp only[List.mem_singleton]at hi;subst hi;exact R9 hst
 ·simp only[Option.map_eq_some_iff,Prod.mk.injEq,Fx.rd.injEq]at h;obtain⟨_,_,_,rfl⟩:=h;simp
 ·cases h
theorem Ari{t:TypeId}{m k:D}{ok:Bool}(h:Io P t m k ok st=some (v,.rd ids)):∀id∈ids,id<st.length:=by
 unfold Io at h;split at h
 ·cases h
 ·split at h
  ·dsimp only at h;split at h
   ·simp only[Option.map_eq_some_iff,Prod.mk.injEq,Fx.rd.injEq]at h;obtain⟨_,_,_,rfl⟩:=h;simp
   ·split at h
    ·rename_i id _ es hst;have key:ids= [id]→∀id∈ids,id<st.length:=by
      rintro rfl i hi;simp only[List.mem_singleton]at hi;subst hi;exact R9 hst
     split at h
     ·simp only[Option.some.injEq,Prod.mk.injEq,Fx.rd.injEq]at h;exact key h.2.symm
     ·simp only[Option.map_eq_some_iff,Prod.mk.injEq,Fx.rd.injEq]at h;obtain⟨_,_,_,h⟩:=h;exact key h.symm
     ·cases h
    ·cases h
   ·cases h
  ·cases h
theorem Bcp{t:TypeId}{x:D}(h:Ny P t x st=some (v,.rd ids)):∀id∈ids,id<st.length:=by
 unfold Ny at h;split at h
 all_goals first
  |(simp only[Option.some.injEq,Prod.mk.injEq,Fx.rd.injEq]at h
    obtain⟨_,rfl⟩:=h;simp;done)
  |skip
 ·split at h
  ·rename_i hst;simp only[Option.some.injEq,Prod.mk.injEq,Fx.rd.injEq]at h;obtain⟨_,rfl⟩:=h;intro i hi;simp only[List.mem_singleton]at hi;subst hi;exact R9 hst
  ·cases h
 ·cases h
theorem Anw{s d:TypeId}{x:D}(h:Dr P s d x st=some (v,.rd ids)):∀id∈ids,id<st.length:=by
 unfold Dr at h;split at h
 ·simp only[Option.some.injEq,Prod.mk.injEq,Fx.rd.injEq]at h;obtain⟨_,rfl⟩:=h;simp
 ·simp only[Option.some.injEq,Prod.mk.injEq,Fx.rd.injEq]at h;obtain⟨_,rfl⟩:=h;simp
 ·split at h
  ·split at h
   ·cases h
   ·cases h
  ·cases h
 ·split at h
  ·simp only[Option.some.injEq,Prod.mk.injEq,Fx.rd.injEq]at h;obtain⟨_,rfl⟩:=h;simp
  ·split at h
   ·simp only[Option.map_eq_some_iff,Prod.mk.injEq,Fx.rd.injEq]at h;obtain⟨_,_,_,rfl⟩:=h;simp
   ·cases h
  ·split at h
   case h_3=>cases h
   all_goals
    rename_i hst;split at h
    ·simp only[Option.map_eq_some_iff,Prod.mk.injEq,Fx.rd.injEq]at h;obtain⟨_,_,_,rfl⟩:=h;intro i hi;simp only[List.mem_singleton]at hi;subst hi;exact R9 hst
    ·cases h
  ·cases h
 ·cases h
theorem Au0{h:Bool}{o:Oper}{ρ:Operand→D}{fx:Fx}(hq:Af P h o ρ st=some (v,fx))(hfx:fx= .rd ids):∀id∈ids,id<st.length:=by
 subst hfx;have pure_:∀{u:D},some (u,Fx.pure)=some (v,Fx.rd ids)→∀id∈ids,id<st.length:=fun h=>by simp only[Option.some.injEq,Prod.mk.injEq,Fx.rd.injEq]at h;obtain⟨_,rfl⟩:=h;simp
 have map_:∀{q:Option D},(q.map fun u=>(u,Fx.pure))=some (v,Fx.rd ids)→∀id∈ids,id<st.length:=fun h=>by simp only[Option.map_eq_some_iff,Prod.mk.injEq,Fx.rd.injEq]at h;obtain⟨_,_,_,rfl⟩:=h;simp
 unfold Af at hq;split at hq
 ·exact pure_ hq
 ·exact pure_ hq
 ·split at hq
  ·exact pure_ hq
  ·exact pure_ hq
  ·cases hq
 ·simp only[Option.map_eq_some_iff,Prod.mk.injEq]at hq;obtain⟨_,_,_,hq⟩:=hq;cases hq
 ·split at hq
  ·cases hq
  ·cases hq
 ·exact map_ hq
 ·split at hq
  ·cases hq
  ·split at hq
   ·rename_i hps;split at hq
    ·split at hq
     ·split at hq
      ·cases hq
      ·rename_i hh;simp only[Option.some.injEq,Prod.mk.injEq,Fx.rd.injEq]at hq;obtain⟨_,rfl⟩:=hq;rw[if_neg hh]at hps;intro id hid;rw[List.mem_flatMap]at hid;obtain⟨p,hp,hid⟩:=hid;exact Xx hps (p.1,ρ p.2) (List.mem_map.2 ⟨p,hp,rfl⟩) id hid
     ·cases hq
    ·cases hq
   ·cases hq
 ·exact Ays hq
 ·split at hq
  ·exact pure_ hq
  ·exact pure_ hq
  ·exact pure_ hq
  ·cases hq
 ·split at hq
  ·split at hq
   ·split at hq
    ·exact pure_ hq
    ·exact pure_ hq
    ·cases hq
   ·cases hq
  ·exact map_ hq
 ·exact map_ hq
 ·exact Anw hq
 ·split at hq
  ·cases hq
  ·rename_i hs;simp only[Option.some.injEq,Prod.mk.injEq,Fx.rd.injEq]at hq;obtain⟨_,rfl⟩:=hq;exact Ao5 hs
  ·cases hq
 ·exact pure_ hq
 ·split at hq
  ·cases hq
  ·split at hq
   ·cases hq
   ·cases hq
  ·cases hq
 ·split at hq
  ·cases hq
  ·split at hq
   ·split at hq
    ·cases hq
    ·cases hq
   ·cases hq
 ·split at hq
  ·split at hq
   ·cases hq
   ·unfold Bqz Lu at hq;split at hq
    all_goals try (dsimp only at hq)
    all_goals (repeat' (first|split at hq|(dsimp only at hq;split at hq)))
    all_goals first
     |exact pure_ hq
     |cases hq
  ·cases hq
 ·unfold Eh at hq
  repeat' split at hq
  all_goals first
   |exact pure_ hq
   |cases hq
 ·unfold M8 at hq
  repeat' split at hq
  all_goals first
   |exact map_ hq
   |cases hq
 ·unfold Cf at hq
  repeat' split at hq
  all_goals first
   |exact pure_ hq
   |cases hq
 ·unfold Qa at hq
  repeat' split at hq
  all_goals first
   |exact pure_ hq
   |exact map_ hq
   |cases hq
 ·exact Ari hq
 ·split at hq
  ·cases hq
  ·cases hq
 ·split at hq
  ·exact map_ hq
  ·cases hq
 ·unfold Aj at hq;split at hq
  ·exact Bcp hq
  ·unfold Ar8 at hq
   repeat' split at hq
   all_goals first
    |exact pure_ hq
    |cases hq
  ·exact map_ hq
  ·exact map_ hq
  ·cases hq
 ·cases hq
theorem Arr{h:Bool}{o:Oper}{ρ:Operand→D}{fx:Fx}(hs:silent o=true)(hq:Af P h o ρ st=some (v,fx)):fx= .rd []:=by
 have pure_:∀{u:D},some (u,Fx.pure)=some (v,fx)→fx= .rd []:=fun h=>by simp only[Option.some.injEq,Prod.mk.injEq]at h;exact h.2.symm
 have map_:∀{q:Option D},(q.map fun u=>(u,Fx.pure))=some (v,fx)→fx= .rd []:=fun h=>by simp only[Option.map_eq_some_iff,Prod.mk.injEq]at h;obtain⟨_,_,_,h⟩:=h;exact h.symm
 unfold silent at hs;unfold Af at hq;split at hs
 all_goals first
  |cases hs
  |skip
 all_goals
  rename_i hop;rw[hop]at hq;simp only at hq
 ·exact pure_ hq
 ·exact pure_ hq
 ·split at hq
  ·exact pure_ hq
  ·exact pure_ hq
  ·cases hq
 ·exact map_ hq
 ·split at hq
  ·exact pure_ hq
  ·exact pure_ hq
  ·exact pure_ hq
  ·cases hq
 ·split at hq
  ·split at hq
   ·split at hq
    ·exact pure_ hq
    ·exact pure_ hq
    ·cases hq
   ·cases hq
  ·exact map_ hq
 ·exact map_ hq
 ·exact pure_ hq
 ·unfold Eh at hq
  repeat' split at hq
  all_goals first
   |exact pure_ hq
   |cases hq
 ·unfold M8 at hq
  repeat' split at hq
  all_goals first
   |exact map_ hq
   |cases hq
 ·unfold Cf at hq
  repeat' split at hq
  all_goals first
   |exact pure_ hq
   |cases hq
 ·unfold Qa at hq
  repeat' split at hq
  all_goals first
   |exact pure_ hq
   |exact map_ hq
   |cases hq
 ·split at hq
  ·exact map_ hq
  ·cases hq
 ·split at hq
  ·split at hq
   ·cases hq
   ·unfold Bqz Lu at hq;split at hq
    all_goals try (dsimp only at hq)
    all_goals (repeat' (first|split at hq|(dsimp only at hq;split at hq)))
    all_goals first
     |exact pure_ hq
     |cases hq
  ·cases hq
end
structure We(ops:Array Oper)(B:Array Nat)(l:List Nat):Prop where
 lt:∀(p i:Nat),l[p]?=some i→i<ops.size
 all:∀(i:Nat),i<ops.size→∃p:Nat,l[p]?=some i
 mask:∀(i:Nat) (o:Oper),ops[i]?=some o→maskAt B i=Za B o∧maskAt B i<2 ^ ops.size
 guard:∀(i:Nat) (o:Oper),ops[i]?=some o→∀j want,o.guard=some (j,want)→(maskAt B i).testBit j=true
 dst:∀(i j:Nat) (o p:Oper),ops[i]?=some o→ops[j]?=some p→∀t,o.dst=some t→t∈tmpsOf ops p→i=j∨(maskAt B i).testBit j=true∨(maskAt B j).testBit i=true
 later:∀(p q i j:Nat),p<q→l[p]?=some i→l[q]?=some j→j≠i∧(maskAt B i).testBit j=false∧(Dp ops i=true→(maskAt B j).testBit i=true)
 self:∀(p i:Nat),l[p]?=some i→(maskAt B i).testBit i=false
theorem Ab1{ops:Array Oper}{B:Array Nat}:∀{l:List Nat},Aj8.later ops B l=true→(∀(p q i j:Nat),p<q→l[p]?=some i→l[q]?=some j→j≠i∧(maskAt B i).testBit j=false∧(Dp ops i=true→(maskAt B j).testBit i=true))∧(∀(p i:Nat),l[p]?=some i→(maskAt B i).testBit i=false)
 | [],_=>⟨by simp,by simp⟩
 |x::l,h=>by
  simp only[Aj8.later,Bool.and_eq_true,Bool.not_eq_true',List.all_eq_true,bne_iff_ne,ne_eq,Bool.or_eq_true]at h;obtain⟨⟨h1,h2⟩,h3⟩:=h;obtain⟨h4,h5⟩:=Ab1 h3;constructor
  ·intro p q i j hpq hp hq;cases q with
   |zero=>omega
   |succ q=>
    simp only[List.getElem?_cons_succ]at hq;cases p with
    |zero=>
     simp only[List.getElem?_cons_zero,Option.some.injEq]at hp;subst hp;obtain⟨⟨a,b⟩,c⟩:=h1 j (List.mem_of_getElem? hq);refine⟨a,b,fun hl=>?_⟩;rcases c with c|c
     ·rw[hl]at c;cases c
     ·exact c
    |succ p=>simp only[List.getElem?_cons_succ]at hp;exact h4 p q i j (by omega) hp hq
  ·intro p i hp;cases p with
   |zero=>simp only[List.getElem?_cons_zero,Option.some.injEq]at hp;subst hp;exact h2
   |succ p=>simp only[List.getElem?_cons_succ]at hp;exact h5 p i hp
theorem Amq{ops:Array Oper}{B:Array Nat}{l:List Nat}(h:Aj8 ops B l=true):We ops B l:=by
 unfold Aj8 at h;simp only[Bool.and_eq_true,beq_iff_eq,List.all_eq_true,List.mem_range,decide_eq_true_eq]at h;obtain⟨⟨⟨⟨h1,h0⟩,h2⟩,h3⟩,h4⟩:=h;obtain⟨h5,h6⟩:=Ab1 h4;have hop:∀(i:Nat) (o:Oper),ops[i]?=some o→i<ops.size:=fun i o h=>(Array.getElem?_eq_some_iff.1 h).1;refine⟨fun p i hp=>h0 i (List.mem_of_getElem? hp),fun i hi=>?_,fun i o ho=>?_,fun i o ho j want hg=>?_,fun i j o p ho hp t ht hm=>?_,h5,h6⟩
 ·have:=h2 i hi;rw[List.contains_iff_mem]at this;exact List.mem_iff_getElem?.1 this
 ·have:=h3 i (hop i o ho);rw[ho]at this;simp only[Bool.and_eq_true,beq_iff_eq,decide_eq_true_eq]at this;exact this.1.1
 ·have:=h3 i (hop i o ho);rw[ho]at this;simp only[Bool.and_eq_true]at this;have:=this.1.2;rw[hg]at this;exact this
 ·have:=h3 i (hop i o ho);rw[ho]at this;simp only[Bool.and_eq_true]at this;have:=this.2;rw[ht]at this;simp only[List.all_eq_true,List.mem_range,Bool.or_eq_true,beq_iff_eq]at this;rcases this j (hop j p hp)with((h|h)|h)|h
  ·exact .inl h.symm
  ·exact .inr (.inl h)
  ·exact .inr (.inr h)
  ·rw[hp]at h;simp only[Bool.not_eq_true']at h;have:=List.contains_iff_mem.2 hm;rw[h]at this;cases this
def Ap(ops:Array Oper)(B:Array Nat):Prop:=∀i j,Dp ops i=true→Dp ops j=false→La ops j=false→j<ops.size→(maskAt B i).testBit j=true∨(maskAt B j).testBit i=true
def A6o(ops:Array Oper)(l:List Nat):Prop:=∃B,We ops B l∧Ap ops B
def H6(od:Nat→Option (List Nat × Bool)):Code→Prop
 | .region id ops draw=>draw=true→(∀l,od id=some (l,true)→A6o ops l)∧(∀l,od id=some (l,false)→We ops (Region.before ops) l)
 | .seq a b=>H6 od a∧H6 od b
 | .cond _ a b=>H6 od a∧H6 od b
 | .block _ b=>H6 od b
 | .loop b=>H6 od b
 |_=>True
def bitsOf(l:List Tmp):Nat:=l.foldl (fun s t=>s ||| 2 ^ t) 0
def Ago:Option Tmp→Nat
 |some t=>2 ^ t
 |none=>0
def Aoa(m:Nat):Option (Nat × Bool)→Bool
 |some (j,_)=>m.testBit j
 |none=>true
def Aa5(m tm wm:Nat):List (Nat × Nat × Nat)→Bool
 | []=>true
 |(j,tj,wj)::prev=>(m.testBit j || (Nat.beq (Nat.land wj tm) 0 && Nat.beq (Nat.land tj wm) 0)) && Aa5 m tm wm prev
def An3(b:Bool)(ns i:Nat):Nat:=if b then ns else ns ||| 2 ^ i
def Ajo(ops:Array Oper)(B:Array Nat)(n:Nat)(ap:Bool):List Nat→Nat→Nat→Nat→List (Nat × Nat × Nat)→Bool
 | [],done,_,_,_=>Nat.beq done (2 ^ n - 1)
 |i::l,done,ld,ns,prev=>
  match ops[i]? with
  |none=>false
  |some o=>
   Nat.beq (Nat.land (maskAt B i) done) (maskAt B i) && Nat.beq (Nat.land (maskAt B i) ld) ld && !done.testBit i && Nat.beq (maskAt B i) (Za B o) && Aoa (maskAt B i) o.guard &&
   (!ap || !loud o || Nat.beq (Nat.land (maskAt B i) ns) ns) &&
   (Nat.beq (Nat.land (maskAt B i) done) done || Aa5 (maskAt B i) (bitsOf (tmpsOf ops o)) (Ago o.dst) prev) &&
   Ajo ops B n ap l (done ||| 2 ^ i) (if loud o then ld ||| 2 ^ i else ld) (An3 (loud o || silent o) ns i) ((i,bitsOf (tmpsOf ops o),Ago o.dst)::prev)
def Am6(ops:Array Oper)(ap:Bool)(l:List Nat):Bool:=Ajo ops (Region.before ops) ops.size ap l 0 0 0 []
def Il(od:Nat→Option (List Nat × Bool)):Code→Bool
 | .region id ops true=>match od id with
  |some (l,ap)=>Am6 ops ap l
  |none=>true
 | .seq a b=>Il od a && Il od b
 | .cond _ a b=>Il od a && Il od b
 | .block _ b=>Il od b
 | .loop b=>Il od b
 |_=>true
theorem Abr{l:List Tmp}{t:Tmp}:(bitsOf l).testBit t=true↔t∈l:=by
 have key:∀(l:List Tmp) (s:Nat),(l.foldl (fun s t=>s ||| 2 ^ t) s).testBit t=true↔s.testBit t=true∨t∈l:=by
  intro l;induction l with
  |nil=>simp
  |cons x l ih=>
   intro s;rw[List.foldl_cons,ih,Nat.testBit_or,Nat.testBit_two_pow,List.mem_cons];simp only[Bool.or_eq_true,decide_eq_true_eq];constructor
   ·rintro((h|h)|h)
    ·exact .inl h
    ·exact .inr (.inl h.symm)
    ·exact .inr (.inr h)
   ·rintro(h|h|h)
    ·exact .inl (.inl h)
    ·exact .inl (.inr h.symm)
    ·exact .inr h
 unfold bitsOf;rw[key];simp
theorem Av7{a b j:Nat}(h:Nat.land a b=a)(hj:a.testBit j=true):b.testBit j=true:=by
 have:(Nat.land a b).testBit j=true:=by rw[h];exact hj
 change (a &&& b).testBit j=true at this;rw[Nat.testBit_and]at this;simp at this;exact this.2
theorem Tg{a b j:Nat}(h:Nat.land a b=b)(hj:b.testBit j=true):a.testBit j=true:=by
 have:(Nat.land a b).testBit j=true:=by rw[h];exact hj
 change (a &&& b).testBit j=true at this;rw[Nat.testBit_and]at this;simp at this;exact this.1
theorem Agb{a b j:Nat}(h:Nat.land a b=0)(ha:a.testBit j=true)(hb:b.testBit j=true):False:=by
 have:(a &&& b).testBit j=true:=by rw[Nat.testBit_and,ha,hb];rfl
 change (Nat.land a b).testBit j=true at this;rw[h]at this;simp at this
theorem Zx{m tm wm:Nat}:∀{prev:List (Nat × Nat × Nat)},Aa5 m tm wm prev=true→∀p∈prev,m.testBit p.1=true∨(Nat.land p.2.2 tm=0∧Nat.land p.2.1 wm=0)
 | [],_,p,hp=>by cases hp
 |(j,tj,wj)::prev,h,p,hp=>by
  simp only[Aa5,Bool.and_eq_true,Bool.or_eq_true,Nat.beq_eq]at h;rcases List.mem_cons.1 hp with rfl|hp
  ·exact h.1
  ·exact Zx h.2 p hp
structure Pre(ops:Array Oper)(B:Array Nat)(ap:Bool)(l:List Nat)(done ld ns:Nat)(prev:List (Nat × Nat × Nat)):Prop where
 done:∀j,done.testBit j=true↔j∈l
 ld:∀j,ld.testBit j=true↔j∈l∧Dp ops j=true
 ns:∀j,ns.testBit j=true↔j∈l∧Dp ops j=false∧La ops j=false
 prev:∀(i:Nat) (o:Oper),i∈l→ops[i]?=some o→(i,bitsOf (tmpsOf ops o),Ago o.dst)∈prev
 op:∀i∈l,∃o,ops[i]?=some o∧maskAt B i=Za B o∧Aoa (maskAt B i) o.guard=true
 sub:∀i∈l,∀j,(maskAt B i).testBit j=true→j∈l
 later:∀(p q i j:Nat),p<q→l[p]?=some i→l[q]?=some j→j≠i∧(maskAt B i).testBit j=false∧(Dp ops i=true→(maskAt B j).testBit i=true)∧(ap=true→Dp ops j=true→Dp ops i=false→La ops i=false→(maskAt B j).testBit i=true)∧(∀o p t,ops[i]?=some o→ops[j]?=some p→(o.dst=some t→t∈tmpsOf ops p→(maskAt B j).testBit i=true)∧(p.dst=some t→t∈tmpsOf ops o→(maskAt B j).testBit i=true))
 self:∀i∈l,(maskAt B i).testBit i=false
theorem Af9{ops:Array Oper}{B:Array Nat}{n:Nat}{ap:Bool}:∀(l:List Nat) (pre:List Nat) (done ld ns:Nat) (prev:List (Nat × Nat × Nat)),Ajo ops B n ap l done ld ns prev=true→Pre ops B ap pre done ld ns prev→∃done' ld' ns' prev',Pre ops B ap (pre++l) done' ld' ns' prev'∧done'=2 ^ n - 1
 | [],pre,done,ld,ns,prev,h,hp=>by simp only[Ajo,Nat.beq_eq]at h;exact⟨done,ld,ns,prev,by simpa using hp,h⟩
 |i::l,pre,done,ld,ns,prev,h,hp=>by
  unfold Ajo at h;split at h
  ·cases h
  rename_i o ho;simp only[Bool.and_eq_true,Nat.beq_eq,Bool.not_eq_true',Bool.or_eq_true]at h;obtain⟨⟨⟨⟨⟨⟨⟨h1,h2⟩,h3⟩,h4⟩,h5⟩,h6⟩,h7⟩,h8⟩:=h;have hni:i ∉ pre:=fun hm=>by rw[(hp.done i).2 hm]at h3;cases h3
  have hsub:∀j,(maskAt B i).testBit j=true→j∈pre:=fun j hj=>(hp.done j).1 (Av7 h1 hj);have hnext:Pre ops B ap (pre++ [i]) (done ||| 2 ^ i) (if loud o then ld ||| 2 ^ i else ld) (An3 (loud o || silent o) ns i) ((i,bitsOf (tmpsOf ops o),Ago o.dst)::prev):=by
   refine⟨fun j=>?_,fun j=>?_,fun j=>?_,fun x ox hx hox=>?_,fun x hx=>?_,fun x hx j hj=>?_,fun p q x y hpq hx hy=>?_,fun x hx=>?_⟩
   ·rw[Nat.testBit_or,Nat.testBit_two_pow,List.mem_append,List.mem_singleton];simp only[Bool.or_eq_true,decide_eq_true_eq,hp.done];constructor
    ·rintro(h|h)
     ·exact .inl h
     ·exact .inr h.symm
    ·rintro(h|h)
     ·exact .inl h
     ·exact .inr h.symm
   ·have hlo:Dp ops i=loud o:=by simp[Dp,ho]
    rw[List.mem_append,List.mem_singleton];by_cases hl:loud o=true
    ·rw[if_pos hl,Nat.testBit_or,Nat.testBit_two_pow];simp only[Bool.or_eq_true,decide_eq_true_eq,hp.ld];constructor
     ·rintro(⟨h,h'⟩|rfl)
      ·exact⟨.inl h,h'⟩
      ·exact⟨.inr rfl,by rw[hlo];exact hl⟩
     ·rintro⟨h|rfl,h'⟩
      ·exact .inl ⟨h,h'⟩
      ·exact .inr rfl
    ·rw[if_neg hl,hp.ld];constructor
     ·rintro⟨h,h'⟩;exact⟨.inl h,h'⟩
     ·rintro⟨h|rfl,h'⟩
      ·exact⟨h,h'⟩
      ·rw[hlo]at h';exact absurd h' hl
   ·have hlo:Dp ops i=loud o:=by simp[Dp,ho]
    have hsi:La ops i=silent o:=by simp[La,ho]
    rw[List.mem_append,List.mem_singleton];unfold An3;by_cases hl:(loud o || silent o)=true
    ·rw[if_pos hl,hp.ns];constructor
     ·rintro⟨h,h'⟩;exact⟨.inl h,h'⟩
     ·rintro⟨h|rfl,h',h''⟩
      ·exact⟨h,h',h''⟩
      ·rw[hlo]at h';rw[hsi]at h'';rw[h',h'']at hl;cases hl
    ·rw[if_neg hl,Nat.testBit_or,Nat.testBit_two_pow];simp only[Bool.or_eq_true,not_or,Bool.not_eq_true]at hl;simp only[Bool.or_eq_true,decide_eq_true_eq,hp.ns];constructor
     ·rintro(⟨h,h'⟩|rfl)
      ·exact⟨.inl h,h'⟩
      ·exact⟨.inr rfl,by rw[hlo];exact hl.1,by rw[hsi];exact hl.2⟩
     ·rintro⟨h|rfl,h'⟩
      ·exact .inl ⟨h,h'⟩
      ·exact .inr rfl
   ·rcases List.mem_append.1 hx with hx|hx
    ·exact List.mem_cons_of_mem _ (hp.prev x ox hx hox)
    ·rw[List.mem_singleton]at hx;subst hx;rw[ho]at hox;cases hox;exact List.mem_cons_self
   ·rcases List.mem_append.1 hx with hx|hx
    ·exact hp.op x hx
    ·rw[List.mem_singleton]at hx;subst hx;exact⟨o,ho,h4,h5⟩
   ·rcases List.mem_append.1 hx with hx|hx
    ·exact List.mem_append_left _ (hp.sub x hx j hj)
    ·rw[List.mem_singleton]at hx;subst hx;exact List.mem_append_left _ (hsub j hj)
   ·by_cases hq:q<pre.length
    ·rw[List.getElem?_append_left (by omega)]at hx
     rw[List.getElem?_append_left hq]at hy;exact hp.later p q x y hpq hx hy
    ·have hqe:q=pre.length:=by
      have:=(List.getElem?_eq_some_iff.1 hy).1;simp at this;omega
     subst hqe;rw[List.getElem?_append_right (Nat.le_refl _)]at hy;simp at hy;subst hy;rw[List.getElem?_append_left (by omega)]at hx
     have hxm:x∈pre:=List.mem_of_getElem? hx;have hdx:done.testBit x=true:=(hp.done x).2 hxm;refine⟨fun e=>hni (by rw[e];exact hxm),?_,fun hl=>Tg h2 ((hp.ld x).2 ⟨hxm,hl⟩),fun hap hl hl' hs'=>?_,fun ox p t hox hpo=>?_⟩
     ·cases hb:(maskAt B x).testBit i with
      |false=>rfl
      |true=>exact absurd (hp.sub x hxm i hb) hni
     ·have:loud o=true:=by simpa[Dp,ho]using hl
      rcases h6 with(h6|h6)|h6
      ·rw[hap]at h6;cases h6
      ·rw[this]at h6;cases h6
      ·exact Tg h6 ((hp.ns x).2 ⟨hxm,hl',hs'⟩)
     ·rw[ho]at hpo;cases hpo;rcases h7 with h7|h7
      ·exact⟨fun _ _=>Tg h7 hdx,fun _ _=>Tg h7 hdx⟩
      ·rcases Zx h7 _ (hp.prev x ox hxm hox)with h9|⟨h9,h10⟩
       ·exact⟨fun _ _=>h9,fun _ _=>h9⟩
       ·refine⟨fun hd ht=>?_,fun hd ht=>?_⟩
        ·exfalso;refine Agb (j:=t) h9 ?_ (Abr.2 ht);rw[hd];simp[Ago]
        ·exfalso;refine Agb (j:=t) h10 (Abr.2 ht) ?_;rw[hd];simp[Ago]
   ·rcases List.mem_append.1 hx with hx|hx
    ·exact hp.self x hx
    ·rw[List.mem_singleton]at hx;subst hx;cases hb:(maskAt B x).testBit x with
     |false=>rfl
     |true=>exact absurd (hsub x hb) hni
  have:=Af9 l (pre++ [i]) _ _ _ _ h8 hnext
  rwa [List.append_assoc,List.singleton_append]at this
theorem Y7{ops:Array Oper}{ap:Bool}{l:List Nat}(h:Am6 ops ap l=true):We ops (Region.before ops) l∧(ap=true→Ap ops (Region.before ops)):=by
 unfold Am6 at h;obtain⟨done,ld,ns,prev,hp,hd⟩:=Af9 l [] 0 0 0 [] h ⟨by simp,by simp,by simp,by simp,by simp,by simp,by simp,by simp⟩
 rw[List.nil_append]at hp;have hlt:∀i∈l,i<ops.size:=fun i hi=>by obtain⟨o,ho,_⟩:=hp.op i hi;exact(Array.getElem?_eq_some_iff.1 ho).1
 have hin:∀i,i<ops.size→i∈l:=fun i hi=>by rw[← hp.done i,hd,Nat.testBit_two_pow_sub_one];simpa using hi
 have hpos:∀i,i∈l→∃p:Nat,l[p]?=some i:=fun i hi=>List.mem_iff_getElem?.1 hi;refine⟨⟨fun p i hpi=>hlt i (List.mem_of_getElem? hpi),fun i hi=>hpos i (hin i hi),fun i o ho=>?_,fun i o ho j want hg=>?_,fun i j o p ho hpo t ht hm=>?_,fun p q i j hpq hi hj=>?_,fun p i hi=>hp.self i (List.mem_of_getElem? hi)⟩,fun hap i j hi hj hjs hjl=>?_⟩
 ·have him:=hin i (Array.getElem?_eq_some_iff.1 ho).1;obtain⟨o',ho',h1,_⟩:=hp.op i him;rw[ho]at ho';cases ho';refine⟨h1,?_⟩;refine Nat.lt_pow_two_of_testBit _ fun j hj=>?_;cases hb:(maskAt (Region.before ops) i).testBit j with
  |false=>rfl
  |true=>exact absurd (hlt j (hp.sub i him j hb)) (by omega)
 ·have him:=hin i (Array.getElem?_eq_some_iff.1 ho).1;obtain⟨o',ho',_,h2⟩:=hp.op i him;rw[ho]at ho';cases ho';rw[hg]at h2;exact h2
 ·obtain⟨a,ha⟩:=hpos i (hin i (Array.getElem?_eq_some_iff.1 ho).1);obtain⟨b,hb⟩:=hpos j (hin j (Array.getElem?_eq_some_iff.1 hpo).1);rcases Nat.lt_trichotomy a b with h1|h1|h1
  ·exact .inr (.inr (((hp.later a b i j h1 ha hb).2.2.2.2 o p t ho hpo).1 ht hm))
  ·subst h1;rw[ha]at hb;cases hb;exact .inl rfl
  ·exact .inr (.inl (((hp.later b a j i h1 hb ha).2.2.2.2 p o t hpo ho).2 ht hm))
 ·have:=hp.later p q i j hpq hi hj;exact⟨this.1,this.2.1,this.2.2.1⟩
 ·have hil:i<ops.size:=by
   unfold Dp at hi;split at hi
   ·rename_i o ho;exact(Array.getElem?_eq_some_iff.1 ho).1
   ·cases hi
  obtain⟨a,ha⟩:=hpos i (hin i hil);obtain⟨b,hb⟩:=hpos j (hin j hjl);rcases Nat.lt_trichotomy a b with h1|h1|h1
  ·exact .inr ((hp.later a b i j h1 ha hb).2.2.1 hi)
  ·subst h1;rw[ha]at hb;cases hb;rw[hi]at hj;cases hj
  ·exact .inl ((hp.later b a j i h1 hb ha).2.2.2.1 hap hi hj hjs)
theorem Ama{od:Nat→Option (List Nat × Bool)}:∀(c:Code),Il od c=true→H6 od c:=by
 intro c;induction c with
 |region id ops draw=>
  intro h hd;subst hd;refine⟨fun l hl=>?_,fun l hl=>?_⟩
  ·simp only[Il,hl]at h;exact⟨_,(Y7 h).1,(Y7 h).2 rfl⟩
  ·simp only[Il,hl]at h;exact(Y7 h).1
 |seq a b iha ihb=>intro h;simp only[Il,Bool.and_eq_true]at h;exact⟨iha h.1,ihb h.2⟩
 |cond c a b iha ihb=>intro h;simp only[Il,Bool.and_eq_true]at h;exact⟨iha h.1,ihb h.2⟩
 |block id b ih=>intro h;exact ih h
 |loop b ih=>intro h;exact ih h
 |_=>intro _;trivial
section
variable{P:Program}{w w':World}{g g':G}{st st':St}{v:D}
theorem V4{e:Env}{a:Act}(h:F8 g e a.tmps)(x:Operand):VR g (ev e x) (a.eval x):=by
 cases x with
 |tmp t=>
  simp only[ev,Act.eval];rw[List.getD_eq_getElem?_getD];by_cases ht:t<e.length
  ·have hA:t<a.tmps.size:=by rw[h.size];exact ht
   rw[List.getElem?_eq_getElem ht];simp only[Option.getD_some,Array.getD,hA,dif_pos];exact h.at_ t _ _ (List.getElem?_eq_getElem ht) (Array.getElem?_eq_getElem hA)
  ·rw[List.getElem?_eq_none (Nat.le_of_not_lt ht)];exact .undef _
 |const v=>exact Abq
 |global n=>exact .undef _
 |func f=>exact .func rfl rfl (by simp) (by simp)
theorem G5{e:Env}{a:Act}{dst:Option Tmp}{r:Value}(h:F8 g e a.tmps)(hv:VR g v r):F8 g (Am e dst v) (a.put dst r).tmps:=by
 cases dst with
 |none=>exact h
 |some t=>
  refine⟨by simp[Am,Act.put,h.size],fun j d x hj hx=>?_⟩
  simp only[Am]at hj;simp only[Act.put]at hx;rw[List.getElem?_set]at hj;rw[Array.getElem?_setIfInBounds]at hx;by_cases e:t=j
  ·subst e;rw[if_pos rfl]at hj hx;split at hj
   ·rename_i hlt;rw[if_pos (by rw[h.size];exact hlt)]at hx
    cases hj;cases hx;exact hv
   ·cases hj
  ·rw[if_neg e]at hj hx;exact h.at_ j d x hj hx
theorem I9{e:Env}{a:Act}{o:Oper}{ops:Array Oper}{b:Bool}(h:F8 g e a.tmps)(hw:Ct o ops e=some b):Region.wanted o (yielded ops a.tmps)=b:=by
 unfold Ct at hw;unfold Region.wanted;split at hw
 ·cases hw;simp[*]
 ·rename_i j want hg;rw[hg];simp only[yielded];split at hw
  ·rename_i t ht;rw[ht];simp only[Option.bind_some];split at hw
   ·rename_i b' hb;cases hw;have hA:t<a.tmps.size:=by rw[h.size];exact(List.getElem?_eq_some_iff.1 hb).1
    have:=(h.at_ t _ _ hb (Array.getElem?_eq_getElem hA)).bool_inv;rw[Array.getElem?_eq_getElem hA,this];simp only[];cases b'<;>cases want<;>rfl
   ·rename_i hb;cases hw;have hA:t<a.tmps.size:=by rw[h.size];exact(List.getElem?_eq_some_iff.1 hb).1
    have hv:=h.at_ t _ _ hb (Array.getElem?_eq_getElem hA);rw[Array.getElem?_eq_getElem hA];generalize a.tmps[t]=q at hv;cases hv with
    |tup _ _=>rfl
   ·cases hw
  ·cases hw
theorem Ay5:VR g (.tup []) undef:= .tup rfl (by simp)
structure At(g0:G)(st0:St)(w0:World)(ds:List Deferred)(e:Env)(st:St)(W:Cb)(a:Act)(w:World)(g:G):Prop where
 sim:Co g st w
 step:Step g0 st0 w0 W g st w
 free:Dx g0 st0 g
 env:F8 g e a.tmps
 defers:a.defers=ds
 k:K st0 st W
theorem Mw{W:Cb}:Dj [] W=W:=rfl
variable{g0:G}{st0:St}{w0:World}{ds:List Deferred}{e:Env}{W:Cb}{a:Act}
theorem Act.put_defers'{dst:Option Tmp}{r:Value}:(a.put dst r).defers=a.defers:=by cases dst<;>rfl
theorem At.quiet{h:Bool}{o:Oper}{fx:Fx}(hA:At g0 st0 w0 ds e st W a w g)(hq:Af P h o (ev e) st=some (v,fx)):
  ∃r w' g',(execOp a.eval o).run P w= .ok (.value r) w'∧At g0 st0 w0 ds (Am e o.dst v) (Dy st fx) W (a.put o.dst r) w' g':=by
 have hgrow:∀(id:Nat) (ob:Obj),st[id]?=some ob→(Dy st fx)[id]?=some ob:=fun id ob hid=>by
  cases fx with
  |rd ids=>exact hid
  |al o'=>exact(List.getElem?_append_left (List.getElem?_eq_some_iff.1 hid).1).trans hid
 obtain⟨hm1,hm2⟩:=hA.sim.more (st':=Dy st fx) hgrow;have hsame:∀ids,fx= .rd ids→∀id∈ids,(Dy st fx)[id]?=st[id]?:=by rintro ids rfl id _;rfl
 have hnew:∀ob,fx= .al ob→(Dy st fx)[st.length]?=some ob∧g.loc st.length=none∧g.tk st.length=none:=by
  rintro ob rfl;refine⟨by simp[Dy],?_,?_⟩
  ·cases hl:g.loc st.length with
   |none=>rfl
   |some c=>exact absurd (hA.sim.loc_lt hl) (by omega)
  ·cases hl:g.tk st.length with
   |none=>rfl
   |some c=>exact absurd (hA.sim.tk_lt hl) (by omega)
 obtain⟨r,g',w',h1,h2,h3,h4,h5⟩:=Z9 hq hm1 (fun x _=>V4 hA.env x) hsame hnew;have hstep:Step g0 st0 w0 W g' (Dy st fx) w':=by have:=(hA.step.trans hm2).trans h4;simpa[Mw]using this
 refine⟨r,w',g',h1,h3,hstep,fun id hid p q=>?_,G5 (hA.env.mono h4.mono) h2,by rw[Act.put_defers'];exact hA.defers,?_⟩
 ·obtain⟨p',q'⟩:=hA.free id hid p q;have hne:Te st.length fx≠some id:=by
   cases fx with
   |rd ids=>simp[Te]
   |al ob=>simp only[Te,ne_eq,Option.some.injEq];have:=hA.k.1;omega
  obtain⟨p2,q2⟩:=h5 id hne;exact⟨by rw[p2];exact p',by rw[q2];exact q'⟩
 ·refine(hA.k.trans (K.weaken (V:= []) ?_ (fun _ h=>h))).weaken (fun i hi=>by simpa[Mw]using hi)
  cases fx with
  |rd ids=>exact K.refl _ _
  |al ob=>exact K.app
structure Ctx(C:Eo)(cf:Ah)(β:Nat→Nat→Option Value):Prop where
 just:∀f,Ji C.P β f (cf f)
 keeps:∀f,Ba (cf f)
 count:Aa6 C.P
 ext:Aky C
 ords:∀(f:FuncId) (fn:Func) (c:Code),C.P.funcs[f]?=some fn→fn.body=some c→H6 (C.ords f) c
 mixed:C.P.follows .mixedOrders=true
theorem At.loud{C:Eo}{cf:Ah}{β:Nat→Nat→Option Value}{h:Bool}{o:Oper}{st':St}{V:Cb}{next:Act→World→Prop}{Q:Exit→Act→World→Prop}
  (hX:Ctx C cf β)(hb:g0.base=β)(hA:At g0 st0 w0 ds e st W a w g)(hq:Bj C h cf o (ev e) st=some (v,st',V))
  (hK:∀a' w' g',At g0 st0 w0 ds (Am e o.dst v) st' (Dj V W) a' w' g'→next a' w'):o.wp C.P a w next Q:=by
 refine Abn hX.just hX.count hX.ext (by rw[hA.step.mono.base];exact hb) hq hA.sim (fun x _=>V4 hA.env x) fun r g' w' h1 h2 h3 h4=>?_
 exact hK _ _ g' ⟨h2,hA.step.trans h3,hA.free.trans h4 hA.k.1,G5 (hA.env.mono h3.mono) h1,by rw[Act.put_defers'];exact hA.defers,hA.k.trans (Jz hX.keeps hq)⟩
theorem At.skip{o:Oper}(hA:At g0 st0 w0 ds e st W a w g):At g0 st0 w0 ds (Am e o.dst (.tup [])) st W (a.put o.dst undef) w g:=
 ⟨hA.sim,hA.step,hA.free,G5 hA.env Ay5,by rw[Act.put_defers'];exact hA.defers,hA.k⟩
theorem Ps{C:Eo}{cf:Ah}{β:Nat→Nat→Option Value}{h:Bool}{ops:Array Oper}{B:Array Nat}{Q:Exit→Act→World→Prop}{e':Env}{st':St}{W':Cb}
  (hX:Ctx C cf β)(hb:g0.base=β)(hQ:∀a w g,At g0 st0 w0 ds e' st' W' a w g→Q .normal a w):
  ∀(is:List Nat) (lg:Rh) (e:Env) (st:St) (W:Cb) (a:Act) (w:World) (g:G),Ay C h cf false ops B is lg e st W=some (e',st',W')→At g0 st0 w0 ds e st W a w g→wpOps C.P ops Q is a w
 | [],lg,e,st,W,a,w,g,hr,hA=>by simp only[Ay,Option.some.injEq,Prod.mk.injEq]at hr;obtain⟨rfl,rfl,rfl⟩:=hr;exact hQ a w g hA
 |i::is,lg,e,st,W,a,w,g,hr,hA=>by
  unfold Ay at hr;simp only[wpOps];split at hr
  ·cases hr
  rename_i o ho;rw[ho];simp only;split at hr
  ·cases hr
  ·rename_i hw;rw[I9 hA.env hw];exact Ps hX hb hQ is lg _ st W _ w g hr hA.skip
  ·rename_i hw;rw[I9 hA.env hw];simp only[if_true];refine .inl ?_;split at hr
   ·split at hr
    ·cases hr
    rename_i v st1 V hq;simp only[Bool.false_and,BF]at hr;exact hA.loud hX hb hq fun a' w' g' hA'=>Ps hX hb hQ is lg _ _ _ a' w' g' hr hA'
   ·split at hr
    ·cases hr
    rename_i v fx hq;obtain⟨r,w',g',h1,h2⟩:=hA.quiet hq;unfold Oper.wp;rw[h1];exact Ps hX hb hQ is _ _ _ _ _ w' g' hr h2
end
abbrev Sta:=Rh × Env × St × Cb
inductive One(C:Eo)(h dr:Bool)(cf:Ah)(ops:Array Oper)(B:Array Nat)(i:Nat)(o:Oper):Sta→D→Sta→Prop
 |skip {lg:Rh} {e:Env} {st:St} {W:Cb} (hw:Ct o ops e=some false):One C h dr cf ops B i o (lg,e,st,W) (.tup []) (lg,Am e o.dst (.tup []),st,W)
 |loud {lg:Rh} {e:Env} {st st':St} {W V:Cb} {v:D} (hw:Ct o ops e=some true) (hl:loud o=true) (hq:Bj C h cf o (ev e) st=some (v,st',V)) (hc:dr=true→clash B i lg V=false):
   One C h dr cf ops B i o (lg,e,st,W) v (lg,Am e o.dst v,st',Dj V W)
 |quiet {lg:Rh} {e:Env} {st:St} {W:Cb} {v:D} {fx:Fx} (hw:Ct o ops e=some true) (hl:loud o=false) (hq:Af C.P h o (ev e) st=some (v,fx)):
   One C h dr cf ops B i o (lg,e,st,W) v (Ju dr i st lg fx,Am e o.dst v,Dy st fx,W)
structure Tr(C:Eo)(h dr:Bool)(cf:Ah)(ops:Array Oper)(B:Array Nat)(l:List Nat)(F:Nat→Sta)(val:Nat→D):Prop where
 one:∀(p i:Nat),l[p]?=some i→∃o,ops[i]?=some o∧One C h dr cf ops B i o (F p) (val p) (F (p+1))
theorem B55{C:Eo}{h dr:Bool}{cf:Ah}{ops:Array Oper}{B:Array Nat}{e':Env}{st':St}{W':Cb}:
  ∀(l:List Nat) (lg:Rh) (e:Env) (st:St) (W:Cb),Ay C h cf dr ops B l lg e st W=some (e',st',W')→∃F val,F 0=(lg,e,st,W)∧(F l.length).2=(e',st',W')∧Tr C h dr cf ops B l F val
 | [],lg,e,st,W,hr=>by simp only[Ay,Option.some.injEq]at hr;exact⟨fun _=>(lg,e,st,W),fun _=> .undef,rfl,hr,⟨by simp⟩⟩
 |i::is,lg,e,st,W,hr=>by
  have key:∀(s:Sta) (v:D) (o:Oper),ops[i]?=some o→One C h dr cf ops B i o (lg,e,st,W) v s→Ay C h cf dr ops B is s.1 s.2.1 s.2.2.1 s.2.2.2=some (e',st',W')→∃F val,F 0=(lg,e,st,W)∧(F (i::is).length).2=(e',st',W')∧Tr C h dr cf ops B (i::is) F val:=by
   intro s v o ho h1 h2;obtain⟨F,val,h3,h4,h5⟩:=B55 is _ _ _ _ h2;refine⟨fun p=>match p with|0=>(lg,e,st,W)|p+1=>F p,fun p=>match p with|0=>v|p+1=>val p,rfl,by simpa using h4,⟨fun p j hj=>?_⟩⟩
   cases p with
   |zero=>simp only[List.getElem?_cons_zero,Option.some.injEq]at hj;subst hj;refine⟨o,ho,?_⟩;simp only[h3];exact h1
   |succ p=>simp only[List.getElem?_cons_succ]at hj;exact h5.one p j hj
  unfold Ay at hr;split at hr
  ·cases hr
  rename_i o ho;split at hr
  ·cases hr
  ·rename_i hw;exact key (lg,_,st,W) _ o ho (.skip hw) hr
  ·rename_i hw;split at hr
   ·rename_i hl;split at hr
    ·cases hr
    rename_i v st1 V hq;split at hr
    ·cases hr
    rename_i hc;simp only[Bool.and_eq_true,not_and,Bool.not_eq_true]at hc;exact key (lg,_,st1,_) v o ho (.loud hw hl hq hc) hr
   ·rename_i hl;split at hr
    ·cases hr
    rename_i v fx hq;exact key (_,_,_,W) v o ho (.quiet hw (by simpa using hl) hq) hr
def Nw(dst:Nat→Option Tmp)(val:Nat→D)(T:Nat→Bool)(e0:Env):Nat→Env
 |0=>e0
 |p+1=>if T p then Am (Nw dst val T e0 p) (dst p) (val p)else Nw dst val T e0 p
theorem Atg{e:Env}{d:Option Tmp}{v:D}:(Am e d v).length=e.length:=by cases d<;>simp[Am]
theorem Pi(dst:Nat→Option Tmp)(val:Nat→D)(T:Nat→Bool)(e0:Env):∀p,(Nw dst val T e0 p).length=e0.length
 |0=>rfl
 |p+1=>by
  simp only[Nw];split
  ·rw[Atg,Pi]
  ·exact Pi dst val T e0 p
theorem Aod{e:Env}{d:Option Tmp}{v:D}{t:Tmp}(h:d≠some t):(Am e d v)[t]?=e[t]?:=by
 cases d with
 |none=>rfl
 |some u=>simp only[Am];rw[List.getElem?_set_ne];rintro rfl;exact h rfl
theorem Aa9{e:Env}{v:D}{t:Tmp}:(Am e (some t) v)[t]?=if t<e.length then some v else none:=by simp only[Am];rw[List.getElem?_set];simp
theorem Mt{dst:Nat→Option Tmp}{val:Nat→D}{T T':Nat→Bool}{e0:Env}{t:Tmp}:∀(n:Nat),(∀r,r<n→dst r=some t→T r=T' r)→(Nw dst val T e0 n)[t]?=(Nw dst val T' e0 n)[t]?
 |0,_=>rfl
 |n+1,h=>by
  have ih:=Mt (val:=val) (e0:=e0) n fun r hr=>h r (by omega)
  simp only[Nw];by_cases hd:dst n=some t
  ·rw[← h n (by omega) hd,hd]
   cases T n with
   |true=>simp only[if_true];rw[Aa9,Aa9,Pi,Pi]
   |false=>simpa using ih
  ·split<;>split<;>simp only[Aod hd,ih]
theorem Wn{dst:Nat→Option Tmp}{val:Nat→D}{T:Nat→Bool}{e0:Env}{p:Nat}:∀(n:Nat),p≤n→(∀r,p≤r→r<n→T r=false)→Nw dst val T e0 n=Nw dst val T e0 p
 |0,hp,_=>by
  have:p=0:=by omega
  subst this;rfl
 |n+1,hp,h=>by
  by_cases he:p=n+1
  ·subst he;rfl
  ·simp only[Nw];rw[h n (by omega) (by omega)]
   simp only[BF];exact Wn n (by omega) fun r h1 h2=>h r h1 (by omega)
section
variable{C:Eo}{cf:Ah}{β:Nat→Nat→Option Value}{h dr:Bool}{ops:Array Oper}{B:Array Nat}{l:List Nat}{F:Nat→Sta}{val:Nat→D}
def Oo(ops:Array Oper)(l:List Nat)(p:Nat):Option Tmp:=((l[p]?).bind (ops[·]?)).bind (·.dst)
theorem Adk{p i:Nat}{o:Oper}(h1:l[p]?=some i)(h2:ops[i]?=some o):Oo ops l p=o.dst:=by simp[Oo,h1,h2]
theorem Ub{i:Nat}{o:Oper}(h2:ops[i]?=some o):Dp ops i=loud o:=by simp[Dp,h2]
theorem Ky{p i:Nat}(h1:l[p]?=some i):p<l.length:=(List.getElem?_eq_some_iff.1 h1).1
theorem Tr.step(hT:Tr C h dr cf ops B l F val){p:Nat}(hp:p<l.length):∃i o,l[p]?=some i∧ops[i]?=some o∧One C h dr cf ops B i o (F p) (val p) (F (p+1)):=by obtain⟨o,h1,h2⟩:=hT.one p l[p] (List.getElem?_eq_getElem hp);exact⟨l[p],o,List.getElem?_eq_getElem hp,h1,h2⟩
theorem One.env{i:Nat}{o:Oper}{s s':Sta}{v:D}(h1:One C h dr cf ops B i o s v s'):s'.2.1=Am s.2.1 o.dst v:=by cases h1<;>rfl
theorem One.log{i:Nat}{o:Oper}{s s':Sta}{v:D}(h1:One C h dr cf ops B i o s v s'):∀x∈s.1,x∈s'.1:=by
 intro x hx;cases h1 with
 |skip=>exact hx
 |loud=>exact hx
 |quiet hw hl hq=>
  rename_i fx;cases fx with
  |rd ids=>
   cases dr with
   |true=>exact List.mem_append_right _ hx
   |false=>exact hx
  |al ob=>
   cases dr with
   |true=>exact List.mem_cons_of_mem _ hx
   |false=>exact hx
theorem One.len(hk:∀f,Ba (cf f)){i:Nat}{o:Oper}{s s':Sta}{v:D}(h1:One C h dr cf ops B i o s v s'):s.2.2.1.length≤s'.2.2.1.length:=by
 cases h1 with
 |skip=>exact Nat.le_refl _
 |loud hw hl hq hc=>exact(Jz hk hq).1
 |quiet hw hl hq=>
  rename_i fx;cases fx with
  |rd ids=>exact Nat.le_refl _
  |al ob=>simp[Dy]
theorem One.keep(hk:∀f,Ba (cf f)){i:Nat}{o:Oper}{s s':Sta}{v:D}(ho:ops[i]?=some o)(h1:One C h dr cf ops B i o s v s'){id:Nat}(hid:id<s.2.2.1.length)
  (hl:Dp ops i=true→dr=true∧∃x∈s.1,x.2=id∧(maskAt B i).testBit x.1=false):s'.2.2.1[id]?=s.2.2.1[id]?:=by
 cases h1 with
 |skip=>rfl
 |loud hw hlo hq hc=>
  rename_i V;obtain⟨hdr,x,hx,rfl,hb⟩:=hl (by rw[Ub ho];exact hlo)
  have hc:=hc hdr;refine(Jz hk hq).2 _ hid fun hV=>?_;unfold clash at hc;rw[List.any_eq_false]at hc;have:=hc x hx;simp only[Bool.and_eq_true,Bool.not_eq_true',not_and,Bool.not_eq_false]at this;rw[this (List.contains_iff_mem.2 hV)]at hb;cases hb
 |quiet hw hlo hq=>
  rename_i fx;cases fx with
  |rd ids=>rfl
  |al ob=>exact List.getElem?_append_left hid
theorem Tr.env(hT:Tr C h dr cf ops B l F val):∀p,p≤l.length→(F p).2.1=Nw (Oo ops l) val (fun _=>true) (F 0).2.1 p
 |0,_=>rfl
 |p+1,hp=>by
  obtain⟨i,o,h1,h2,h3⟩:=hT.step (show p<l.length by omega)
  rw[h3.env,Tr.env hT p (by omega)]
  simp only[Nw,if_true];rw[Adk h1 h2]
theorem Tr.log(hT:Tr C h dr cf ops B l F val){p:Nat}:∀q,p≤q→q≤l.length→∀x∈(F p).1,x∈(F q).1
 |0,hp,_,x,hx=>by
  have:p=0:=by omega
  subst this;exact hx
 |q+1,hp,hq,x,hx=>by
  by_cases he:p=q+1
  ·subst he;exact hx
  ·obtain⟨i,o,h1,h2,h3⟩:=hT.step (show q<l.length by omega)
   exact h3.log x (Tr.log hT q (by omega) (by omega) x hx)
theorem Tr.len(hk:∀f,Ba (cf f))(hT:Tr C h dr cf ops B l F val){p:Nat}:∀q,p≤q→q≤l.length→(F p).2.2.1.length≤(F q).2.2.1.length
 |0,hp,_=>by
  have:p=0:=by omega
  subst this;exact Nat.le_refl _
 |q+1,hp,hq=>by
  by_cases he:p=q+1
  ·subst he;exact Nat.le_refl _
  ·obtain⟨i,o,h1,h2,h3⟩:=hT.step (show q<l.length by omega)
   exact Nat.le_trans (Tr.len hk hT q (by omega) (by omega)) (h3.len hk)
theorem Tr.stays(hk:∀f,Ba (cf f))(hT:Tr C h dr cf ops B l F val){p id:Nat}(hid:id<(F p).2.2.1.length):∀q,p≤q→q≤l.length→(∀r i,p≤r→r<q→l[r]?=some i→Dp ops i=true→dr=true∧∃x∈(F p).1,x.2=id∧(maskAt B i).testBit x.1=false)→(F q).2.2.1[id]?=(F p).2.2.1[id]?
 |0,hp,_,_=>by
  have:p=0:=by omega
  subst this;rfl
 |q+1,hp,hq,hl=>by
  by_cases he:p=q+1
  ·subst he;rfl
  ·obtain⟨i,o,h1,h2,h3⟩:=hT.step (show q<l.length by omega)
   rw[h3.keep hk h2 (Nat.lt_of_lt_of_le hid (Tr.len hk hT q (by omega) (by omega))) fun hlo=>?_]
   ·exact Tr.stays hk hT hid q (by omega) (by omega) fun r j a b=>hl r j a (by omega)
   ·obtain⟨hdr,x,hx,a,b⟩:=hl q i (by omega) (by omega) h1 hlo
    exact⟨hdr,x,Tr.log hT q (by omega) (by omega) x hx,a,b⟩
theorem Tr.grows(hT:Tr C h dr cf ops B l F val){p:Nat}:∀q,p≤q→q≤l.length→(∀r i,p≤r→r<q→l[r]?=some i→Dp ops i=false)→(∀(id:Nat) (o:Obj),(F p).2.2.1[id]?=some o→(F q).2.2.1[id]?=some o)∧(F q).2.2.2=(F p).2.2.2
 |0,hp,_,_=>by
  have:p=0:=by omega
  subst this;exact⟨fun _ _ h=>h,rfl⟩
 |q+1,hp,hq,hl=>by
  by_cases he:p=q+1
  ·subst he;exact⟨fun _ _ h=>h,rfl⟩
  ·obtain⟨i,o,h1,h2,h3⟩:=hT.step (show q<l.length by omega)
   obtain⟨h4,h5⟩:=Tr.grows hT q (by omega) (by omega) fun r j a b=>hl r j a (by omega)
   have hlo:=hl q i (by omega) (by omega) h1
   rw[Ub h2]at hlo;have key:(∀(id:Nat) (o:Obj),(F q).2.2.1[id]?=some o→(F (q+1)).2.2.1[id]?=some o)∧(F (q+1)).2.2.2=(F q).2.2.2:=by
    generalize F q=s at h3;generalize F (q+1)=s' at h3;generalize val q=vv at h3;cases h3 with
    |skip=>exact⟨fun _ _ h=>h,rfl⟩
    |loud hw hlo' hq hc=>rw[hlo]at hlo';cases hlo'
    |quiet hw hl2 hq=>
     rename_i fx;cases fx with
     |rd ids=>exact⟨fun _ _ h=>h,rfl⟩
     |al ob=>exact⟨fun id o h=>(List.getElem?_append_left (List.getElem?_eq_some_iff.1 h).1).trans h,rfl⟩
   exact⟨fun id o h=>key.1 id o (h4 id o h),key.2.trans h5⟩
theorem Yi(ops:Array Oper)(l:List Nat):∀(k p:Nat),p+k=l.length→∃q,p≤q∧q≤l.length∧(∀r i,p≤r→r<q→l[r]?=some i→Dp ops i=false)∧(q<l.length→∃i,l[q]?=some i∧Dp ops i=true)
 |0,p,hp=>⟨p,Nat.le_refl _,by omega,fun r i a b=>by omega,fun hlt=>by omega⟩
 |k+1,p,hp=>by
  have hlt:p<l.length:=by omega
  cases hb:Dp ops l[p]with
  |true=>exact⟨p,Nat.le_refl _,by omega,fun r i a b=>by omega,fun _=>⟨l[p],List.getElem?_eq_getElem hlt,hb⟩⟩
  |false=>
   obtain⟨q,h1,h2,h3,h4⟩:=Yi ops l k (p+1) (by omega)
   refine⟨q,by omega,h2,fun r i a b hr=>?_,h4⟩
   by_cases he:r=p
   ·subst he;rw[List.getElem?_eq_getElem hlt]at hr;cases hr;exact hb
   ·exact h3 r i (by omega) b hr
end
def has(S:Array Bool)(i:Nat):Bool:=S.getD i false
theorem Hw{S:Array Bool}{i j:Nat}(hi:i<S.size):has (S.setIfInBounds i true) j=if j=i then true else has S j:=by
 unfold has;rw[Array.getD_eq_getD_getElem?,Array.getD_eq_getD_getElem?,Array.getElem?_setIfInBounds];by_cases e:j=i
 ·subst e;simp[hi]
 ·rw[if_neg (Ne.symm e),if_neg e]
theorem Si{S:Array Bool}{i j:Nat}(hi:i<S.size)(h:has S j=true):has (S.setIfInBounds i true) j=true:=by
 rw[Hw hi];split
 ·rfl
 ·exact h
def Ir(l:List Nat)(S:Array Bool)(p:Nat):Bool:=match l[p]? with
 |some i=>has S i
 |none=>false
theorem Zz(B:Array Nat):∀(l:List Edge) (s j:Nat),(l.foldl (fun s e=>if Region.binds .any e then s ||| 2 ^ e.on ||| maskAt B e.on else s) s).testBit j=true↔
  s.testBit j=true∨∃e∈l,Region.binds .any e=true∧(j=e.on∨(maskAt B e.on).testBit j=true)
 | [],s,j=>by simp
 |e::l,s,j=>by
  rw[List.foldl_cons,Zz B l];by_cases hb:Region.binds .any e=true
  ·simp only[hb,if_true,Nat.testBit_or,Bool.or_eq_true,List.mem_cons,exists_eq_or_imp,true_and];have:Nat.testBit (2 ^ e.on) j=true↔j=e.on:=by
    rw[Nat.testBit_two_pow];simp[eq_comm]
   rw[this];constructor
   ·rintro(((h|h)|h)|h)
    ·exact .inl h
    ·exact .inr (.inl (.inl h))
    ·exact .inr (.inl (.inr h))
    ·exact .inr (.inr h)
   ·rintro(h|(h|h)|h)
    ·exact .inl (.inl (.inl h))
    ·exact .inl (.inl (.inr h))
    ·exact .inl (.inr h)
    ·exact .inr h
  ·simp only[hb,BF,List.mem_cons,exists_eq_or_imp,false_and,false_or]
theorem Ace{B:Array Nat}{o:Oper}{j:Nat}:(Za B o).testBit j=true↔∃e∈o.after.toList,Region.binds .any e=true∧(j=e.on∨(maskAt B e.on).testBit j=true):=by unfold Za;rw[← Array.foldl_toList,Zz];simp
section
variable{C:Eo}{cf:Ah}{β:Nat→Nat→Option Value}{h dr:Bool}{ops:Array Oper}{B:Array Nat}{l:List Nat}{F:Nat→Sta}{val:Nat→D}
theorem O3(hO:We ops B l){p q i:Nat}(hp:l[p]?=some i)(hq:l[q]?=some i):p=q:=by
 rcases Nat.lt_trichotomy p q with h1|h1|h1
 ·exact absurd rfl (hO.later p q i i h1 hp hq).1
 ·exact h1
 ·exact absurd rfl (hO.later q p i i h1 hq hp).1
theorem Ajy(hO:We ops B l){S:Array Bool}(hcl:∀i,has S i=true→∀j,(maskAt B i).testBit j=true→has S j=true){p i:Nat}{o:Oper}{t:Tmp}
  (hp:l[p]?=some i)(ho:ops[i]?=some o)(hn:has S i=false)(hm:∀j,(maskAt B i).testBit j=true→has S j=true)(ht:t∈tmpsOf ops o):
  ∀r,r<l.length→Oo ops l r=some t→Ir l S r=decide (r<p):=by
 intro r hr hd;have hx:=List.getElem?_eq_getElem hr;generalize l[r]=x at hx;unfold Oo at hd;rw[hx]at hd;simp only[Option.bind_some]at hd;cases hox:ops[x]? with
 |none=>rw[hox]at hd;simp at hd
 |some ox=>
  rw[hox]at hd;simp only[Option.bind_some]at hd;unfold Ir;rw[hx];simp only;rcases hO.dst x i ox o hox ho t hd ht with h1|h1|h1
  ·subst h1;have:=O3 hO hx hp;subst this;rw[hn];simp
  ·have hlt:p<r:=by
    rcases Nat.lt_trichotomy p r with h2|h2|h2
    ·exact h2
    ·subst h2;rw[hp]at hx;cases hx;rw[hO.self p i hp]at h1;cases h1
    ·rw[(hO.later r p x i h2 hx hp).2.1]at h1;cases h1
   have:has S x=false:=by
    cases hs:has S x with
    |false=>rfl
    |true=>rw[hcl x hs i h1]at hn;cases hn
   rw[this];simp;omega
  ·have hlt:r<p:=by
    rcases Nat.lt_trichotomy p r with h2|h2|h2
    ·rw[(hO.later p r i x h2 hp hx).2.1]at h1;cases h1
    ·subst h2;rw[hp]at hx;cases hx;rw[hO.self p i hp]at h1;cases h1
    ·exact h2
   rw[hm x h1];simp[hlt]
theorem Agn(hT:Tr C h dr cf ops B l F val)(hO:We ops B l){S:Array Bool}(hcl:∀i,has S i=true→∀j,(maskAt B i).testBit j=true→has S j=true){p i:Nat}{o:Oper}{t:Tmp}
  (hp:l[p]?=some i)(ho:ops[i]?=some o)(hn:has S i=false)(hm:∀j,(maskAt B i).testBit j=true→has S j=true)(ht:t∈tmpsOf ops o):
  (Nw (Oo ops l) val (Ir l S) (F 0).2.1 l.length)[t]?=(F p).2.1[t]?:=by
 have hpl:=Ky hp;rw[hT.env p (by omega),Mt (T':=fun r=>decide (r<p)) l.length (Ajy hO hcl hp ho hn hm ht),Wn (p:=p) l.length (by omega) (fun r h1 _=>by simp;omega)]
 exact Mt p fun r hr _=>by simp[hr]
theorem Acx(hT:Tr C h dr cf ops B l F val)(hO:We ops B l){S:Array Bool}(hcl:∀i,has S i=true→∀j,(maskAt B i).testBit j=true→has S j=true){p i:Nat}{o:Oper}
  (hp:l[p]?=some i)(ho:ops[i]?=some o)(hi:i<S.size)(hn:has S i=false)(hm:∀j,(maskAt B i).testBit j=true→has S j=true):
  Nw (Oo ops l) val (Ir l (S.setIfInBounds i true)) (F 0).2.1 l.length=Am (Nw (Oo ops l) val (Ir l S) (F 0).2.1 l.length) o.dst (val p):=by
 have hpl:=Ky hp;have hset:∀r,Ir l (S.setIfInBounds i true) r=if r=p then true else Ir l S r:=by
  intro r;unfold Ir;cases hr:l[r]? with
  |none=>simp only;rw[if_neg];rintro rfl;rw[hp]at hr;cases hr
  |some x=>
   simp only;rw[Hw hi];by_cases e:r=p
   ·subst e;rw[hp]at hr;cases hr;simp
   ·rw[if_neg e,if_neg];rintro rfl;exact e (O3 hO hr hp)
 apply List.ext_getElem?;intro t;by_cases hd:o.dst=some t
 ·rw[hd,Aa9,Pi,Mt (T':=fun r=>decide (r≤p)) l.length (fun r hr hdr=>?_),Wn (p:=p+1) l.length (by omega) (fun r h1 _=>by simp;omega)]
  ·simp only[Nw,Nat.le_refl,decide_true,if_true];rw[Adk hp ho,hd,Aa9,Pi]
  ·rw[hset,Ajy hO hcl hp ho hn hm (t:=t) (by simp[tmpsOf,hd]) r hr hdr]
   split
   ·rename_i e;subst e;simp
   ·rename_i e;by_cases hlt:r<p
    ·simp[hlt];omega
    ·simp[hlt];omega
 ·rw[Aod hd];refine Mt _ fun r hr hdr=>?_;rw[hset,if_neg];rintro rfl;rw[Adk hp ho]at hdr;exact hd hdr
theorem Ak6{e e':Env}{o:Oper}(h:∀t∈tmpsOf ops o,e[t]?=e'[t]?):∀x∈o.op.operands,ev e x=ev e' x:=by
 intro x hx;cases x with
 |tmp t=>
  have ht:t∈tmpsOf ops o:=by unfold tmpsOf Oper.looksAt;refine List.mem_append_right _ (List.mem_append_left _ ?_);rw[List.mem_filterMap];exact⟨.tmp t,by simpa using hx,rfl⟩
  simp only[ev,List.getD_eq_getElem?_getD,h t ht]
 |const v=>rfl
 |global n=>rfl
 |func f=>rfl
theorem Qb{e e':Env}{o:Oper}(h:∀t∈tmpsOf ops o,e[t]?=e'[t]?):Ct o ops e=Ct o ops e':=by
 unfold Ct;cases hg:o.guard with
 |none=>rfl
 |some gw=>
  obtain⟨j,want⟩:=gw;simp only;cases ht:(ops[j]?).bind (·.dst)with
  |none=>rfl
  |some t=>
   have:t∈tmpsOf ops o:=by unfold tmpsOf Oper.looksAt;refine List.mem_append_right _ (List.mem_append_right _ ?_);rw[hg];simp[ht]
   simp only[h t this]
structure Inv(ops:Array Oper)(B:Array Nat)(l:List Nat)(F:Nat→Sta)(val:Nat→D)(g0:G)(st0:St)(w0:World)(ds:List Deferred)(S:Array Bool)(a:Act)(w:World)(g:G)(q:Nat):Prop where
 size:S.size=ops.size
 closed:∀i,has S i=true→∀j,(maskAt B i).testBit j=true→has S j=true
 le:q≤l.length
 here:∀i:Nat,l[q]?=some i→Dp ops i=true∧has S i=false
 louds:∀p i:Nat,p<q→l[p]?=some i→Dp ops i=true→has S i=true
 below:∀p i:Nat,q≤p→l[p]?=some i→has S i=false
 at_:At g0 st0 w0 ds (Nw (Oo ops l) val (Ir l S) (F 0).2.1 l.length) (F q).2.2.1 (F q).2.2.2 a w g
 free:∀p i:Nat,p<q→l[p]?=some i→has S i=false→(F p).2.2.1.length<(F (p+1)).2.2.1.length→g.loc (F p).2.2.1.length=none∧g.tk (F p).2.2.1.length=none
variable{g0 g:G}{st0:St}{w0 w:World}{ds:List Deferred}{S:Array Bool}{a:Act}{q:Nat}{Q:Exit→Act→World→Prop}
theorem Abg{md:Region.Mode}{i:Nat}(h:i∈Region.ready md ops S)(hsz:S.size=ops.size):has S i=false∧∃o,ops[i]?=some o∧∀e∈o.after.toList,Region.binds md e=true→has S e.on=true:=by
 unfold Region.ready at h;rw[List.mem_filter,List.mem_range]at h;obtain⟨hi,h⟩:=h;rw[Array.getElem?_eq_getElem hi]at h;simp only[Option.map_some,Option.getD_some,Bool.and_eq_true,Bool.not_eq_true',Array.all_eq_true_iff_forall_mem]at h;obtain⟨h1,h2⟩:=h;refine⟨?_,ops[i],Array.getElem?_eq_getElem hi,fun e he hb=>?_⟩
 ·unfold has;rw[Array.getD_eq_getD_getElem?,Array.getElem?_eq_getElem (by omega)]at h1 ⊢
  exact h1
 ·have:=h2 e (by simpa using he)
  rw[hb]at this;simpa[has]using this
theorem Aml(hO:We ops B l)(hsz:S.size=ops.size)(h:Region.ready .any ops S= []):∀i,i<ops.size→has S i=true:=by
 have key:∀p i:Nat,l[p]?=some i→has S i=true:=by
  intro p;induction p using Nat.strongRecOn with
  |_ p ih=>
   intro i hp;by_cases hi:i<ops.size
   ·cases hs:has S i with
    |true=>rfl
    |false=>
     exfalso;have ho:ops[i]?=some ops[i]:=Array.getElem?_eq_getElem hi;have hm:=hO.mask i _ ho;have:i∈Region.ready .any ops S:=by
      unfold Region.ready;rw[List.mem_filter,List.mem_range];refine⟨hi,?_⟩;rw[ho];simp only[Option.map_some,Option.getD_some,Bool.and_eq_true,Bool.not_eq_true',Array.all_eq_true_iff_forall_mem];refine⟨?_,fun e he=>?_⟩
      ·unfold has at hs;rw[Array.getD_eq_getD_getElem?,Array.getElem?_eq_getElem (by omega)]at hs ⊢
       exact hs
      ·by_cases hb:Region.binds .any e=true
       ·have hbit:(maskAt B i).testBit e.on=true:=by
         rw[hm.1,Ace];exact⟨e,by simpa using he,hb,.inl rfl⟩
        have hlt:e.on<ops.size:=by
         by_cases hlt:e.on<ops.size
         ·exact hlt
         ·have:Nat.testBit (maskAt B i) e.on=false:=Nat.testBit_lt_two_pow (Nat.lt_of_lt_of_le hm.2 (Nat.pow_le_pow_right (by omega) (by omega)))
          rw[this]at hbit;cases hbit
        obtain⟨r,hr⟩:=hO.all e.on hlt;have hrp:r<p:=by
         rcases Nat.lt_trichotomy r p with h2|h2|h2
         ·exact h2
         ·subst h2;rw[hp]at hr;cases hr;rw[hO.self r _ hp]at hbit;cases hbit
         ·rw[(hO.later p r i e.on h2 hp hr).2.1]at hbit;cases hbit
        have:=ih r hrp e.on hr;simp only[has]at this;rw[this];simp
       ·simp[hb]
     rw[h]at this;cases this
   ·exact absurd (hO.lt p i hp) hi
 intro i hi;obtain⟨p,hp⟩:=hO.all i hi;exact key p i hp
end
section
variable{C:Eo}{cf:Ah}{β:Nat→Nat→Option Value}{h dr:Bool}{ops:Array Oper}{B:Array Nat}{l:List Nat}{F:Nat→Sta}{val:Nat→D}
variable{g0 g:G}{st0:St}{w0 w:World}{ds:List Deferred}{S:Array Bool}{a:Act}{q:Nat}{Q:Exit→Act→World→Prop}
theorem Tr.first_len(hk:∀f,Ba (cf f))(hT:Tr C h dr cf ops B l F val)(h0:(F 0).2.2.1=st0){p:Nat}(hp:p≤l.length):st0.length≤(F p).2.2.1.length:=by rw[← h0];exact hT.len hk p (Nat.zero_le _) hp
theorem Inv.quiet(hap:dr=false→Ap ops B)(hX:Ctx C cf β)(hT:Tr C h dr cf ops B l F val)(hO:We ops B l)(h0:(F 0).2.2.1=st0)(hI:Inv ops B l F val g0 st0 w0 ds S a w g q)
  {p i:Nat}{o:Oper}(hpq:p<q)(hp:l[p]?=some i)(ho:ops[i]?=some o)(hn:has S i=false)(hm:∀j,(maskAt B i).testBit j=true→has S j=true)(hnl:Dp ops i=false)
  {K:Act→World→Prop}(hK:∀a w g,Inv ops B l F val g0 st0 w0 ds (S.setIfInBounds i true) a w g q→K a w):wpOp C.P ops Q i K a w:=by
 have hi:i<S.size:=by rw[hI.size];exact hO.lt p i hp
 have hpl:=Ky hp;obtain⟨o',ho',h1⟩:=hT.one p i hp;rw[ho]at ho';cases ho';have hws:=Acx (val:=val) hT hO hI.closed hp ho hi hn hm;have hrs:=fun t ht=>Agn (t:=t) hT hO hI.closed hp ho hn hm ht;have hq1:=hI.le;have fin:∀a' w' g',At g0 st0 w0 ds (Am (Nw (Oo ops l) val (Ir l S) (F 0).2.1 l.length) o.dst (val p)) (F q).2.2.1 (F q).2.2.2 a' w' g'→(∀p' i',p'<q→l[p']?=some i'→i'≠i→(F p').2.2.1.length<(F (p'+1)).2.2.1.length→g.loc (F p').2.2.1.length=none→g.tk (F p').2.2.1.length=none→g'.loc (F p').2.2.1.length=none∧g'.tk (F p').2.2.1.length=none)→K a' w':=by
  intro a' w' g' hA hf;refine hK a' w' g' ⟨by simp[hI.size],?_,hI.le,?_,?_,?_,by rw[hws];exact hA,?_⟩
  ·intro x hx j hj;rw[Hw hi]at hx;split at hx
   ·rename_i e;subst e;exact Si hi (hm j hj)
   ·exact Si hi (hI.closed x hx j hj)
  ·intro x hx;obtain⟨h2,h3⟩:=hI.here x hx;refine⟨h2,?_⟩;rw[Hw hi,if_neg]
   ·exact h3
   ·rintro rfl;have:=O3 hO hp hx;omega
  ·intro p' x hlt hx hl;exact Si hi (hI.louds p' x hlt hx hl)
  ·intro p' x hle hx;rw[Hw hi,if_neg]
   ·exact hI.below p' x hle hx
   ·rintro rfl;have:=O3 hO hp hx;omega
  ·intro p' x hlt hx hs hg;rw[Hw hi]at hs;split at hs
   ·cases hs
   ·rename_i hne;obtain⟨h2,h3⟩:=hI.free p' x hlt hx hs hg;exact hf p' x hlt hx hne hg h2 h3
 unfold wpOp;rw[ho];simp only;generalize hFp:F p=s at h1;generalize hFp':F (p+1)=s' at h1;generalize hvp:val p=vv at h1;cases h1 with
 |skip hw=>
  rw[hFp]at hrs;rw[hvp]at fin;rw[I9 hI.at_.env (by rw[Qb hrs];exact hw)]
  exact fin _ _ g hI.at_.skip (fun _ _ _ _ _ _ h2 h3=>⟨h2,h3⟩)
 |loud hw hl hq hc=>rw[Ub ho,hl]at hnl;cases hnl
 |quiet hw hl hq=>
  rename_i lg e st W fx;rw[hFp]at hrs;rw[hvp]at fin;rw[I9 hI.at_.env (by rw[Qb hrs];exact hw)]
  simp only[if_true];refine .inl ?_;have hb:∀r j,p+1≤r→r<q→l[r]?=some j→Dp ops j=true→(maskAt B j).testBit i=false:=fun r j _ hrq hr hlo=>by
   cases hbb:(maskAt B j).testBit i with
   |false=>rfl
   |true=>rw[hI.closed j (hI.louds r j hrq hr hlo) i hbb]at hn;cases hn
  have hstay:(fx≠ .rd [])→∀id,id<(Dy st fx).length→(dr=true→(i,id)∈Ju dr i st lg fx)→(F q).2.2.1[id]?=(Dy st fx)[id]?:=fun hfx id hid hmem=>by
   have hnsil:La ops i=false:=by
    cases hsl:La ops i with
    |false=>rfl
    |true=>exact absurd (Arr (by simpa[La,ho]using hsl) hq) hfx
   have:=Tr.stays hX.keeps hT (p:=p+1) (id:=id) (by rw[hFp'];exact hid) q (by omega) hq1 fun r j h2 h3 h4 h5=>
    (by
     cases hdr:dr with
     |true=>exact⟨rfl,(i,id),by rw[hFp'];exact hmem hdr,rfl,hb r j h2 h3 h4 h5⟩
     |false=>
      exfalso;rcases hap hdr j i h5 hnl hnsil (hO.lt p i hp)with h6|h6
      ·rw[hb r j h2 h3 h4 h5]at h6;cases h6
      ·rw[(hO.later p r i j (by omega) hp h4).2.1]at h6;cases h6)
   rw[this,hFp']
  have hv:∀x∈o.op.operands,VR g (ev e x) (a.eval x):=fun x hx=>by rw[← Ak6 (ops:=ops) (o:=o) hrs x hx];exact V4 hI.at_.env x
  have hrd:∀ids,fx= .rd ids→∀id∈ids,(F q).2.2.1[id]?=st[id]?:=by
   rintro ids rfl id hid;have hlt:id<st.length:=by exact Au0 hq rfl id hid
   exact hstay (by rintro h;cases h;cases hid) id hlt (by intro hdr;simp only[Ju,hdr,if_true];exact List.mem_append_left _ (List.mem_map.2 ⟨id,hid,rfl⟩))
  have hlen:∀ob,fx= .al ob→(F p).2.2.1.length<(F (p+1)).2.2.1.length:=by rintro ob rfl;rw[hFp,hFp'];simp[Dy]
  have hal:∀ob,fx= .al ob→(F q).2.2.1[st.length]?=some ob∧g.loc st.length=none∧g.tk st.length=none:=by
   rintro ob rfl;have h2:=hI.free p i hpq hp hn (hlen ob rfl);rw[hFp]at h2;refine⟨?_,h2⟩;rw[hstay (by simp) st.length (by simp[Dy]) (by intro hdr;simp[Ju,hdr])]
   simp[Dy]
  obtain⟨r,g',w',h2,h3,h4,h5,h6⟩:=Z9 hq hI.at_.sim hv hrd hal;unfold Oper.wp;rw[h2];refine fin _ w' g' ⟨h4,?_,?_,G5 (hI.at_.env.mono h5.mono) h3,by rw[Act.put_defers'];exact hI.at_.defers,hI.at_.k⟩ ?_
  ·have:=hI.at_.step.trans h5;simpa[Mw]using this
  ·intro id hid h7 h8;obtain⟨h9,h10⟩:=hI.at_.free id hid h7 h8;have hle:=Tr.first_len hX.keeps hT h0 (p:=p) (by omega)
   rw[hFp]at hle;replace hle:st0.length≤st.length:=hle;have hne:Te st.length fx≠some id:=by
    cases fx with
    |rd ids=>simp[Te]
    |al ob=>simp only[Te,ne_eq,Option.some.injEq];omega
   obtain⟨h11,h12⟩:=h6 id hne;exact⟨by rw[h11];exact h9,by rw[h12];exact h10⟩
  ·intro p' x hlt hx hne hg h7 h8;have hne:Te st.length fx≠some (F p').2.2.1.length:=by
    cases hfx:fx with
    |rd ids=>simp[Te]
    |al ob=>
     simp only[Te,ne_eq,Option.some.injEq];have h9:=hlen ob hfx;have hpp:p'≠p:=by rintro rfl;rw[hp]at hx;cases hx;exact hne rfl
     have h10:(F p).2.2.1.length=st.length:=by rw[hFp]
     rcases Nat.lt_or_gt_of_ne hpp with h11|h11
     ·have:=hT.len hX.keeps (p:=p'+1) p (by omega) (by omega)
      omega
     ·have:=hT.len hX.keeps (p:=p+1) p' (by omega) (by omega)
      omega
   obtain⟨h11,h12⟩:=h6 _ hne;exact⟨by rw[h11];exact h7,by rw[h12];exact h8⟩
theorem Inv.loud(hX:Ctx C cf β)(hb:g0.base=β)(hT:Tr C h dr cf ops B l F val)(hO:We ops B l)(hI:Inv ops B l F val g0 st0 w0 ds S a w g q)
  {i:Nat}{o:Oper}(hp:l[q]?=some i)(ho:ops[i]?=some o)(hn:has S i=false)(hm:∀j,(maskAt B i).testBit j=true→has S j=true)
  {K:Act→World→Prop}(hK:∀a w g q,Inv ops B l F val g0 st0 w0 ds (S.setIfInBounds i true) a w g q→K a w):wpOp C.P ops Q i K a w:=by
 have hi:i<S.size:=by rw[hI.size];exact hO.lt q i hp
 have hpl:=Ky hp;obtain⟨o',ho',h1⟩:=hT.one q i hp;rw[ho]at ho';cases ho';have hws:=Acx (val:=val) hT hO hI.closed hp ho hi hn hm;have hrs:=fun t ht=>Agn (t:=t) hT hO hI.closed hp ho hn hm ht;obtain⟨q',hq1,hq2,hq3,hq4⟩:=Yi ops l (l.length - (q+1)) (q+1) (by omega)
 obtain⟨hgr,hgW⟩:=hT.grows (p:=q+1) q' hq1 hq2 hq3;have hgl:=hT.len hX.keeps (p:=q+1) q' hq1 hq2;have fin:∀a' w' g',At g0 st0 w0 ds (Am (Nw (Oo ops l) val (Ir l S) (F 0).2.1 l.length) o.dst (val q)) (F (q+1)).2.2.1 (F (q+1)).2.2.2 a' w' g'→Dx g (F q).2.2.1 g'→K a' w':=by
  intro a' w' g' hA hf;obtain⟨hs1,hs2⟩:=hA.sim.more hgr;refine hK a' w' g' q' ⟨by simp[hI.size],?_,hq2,?_,?_,?_,?_,?_⟩
  ·intro x hx j hj;rw[Hw hi]at hx;split at hx
   ·rename_i e;subst e;exact Si hi (hm j hj)
   ·exact Si hi (hI.closed x hx j hj)
  ·intro x hx;obtain⟨y,h2,h3⟩:=hq4 (Ky hx);rw[hx]at h2;cases h2;refine⟨h3,?_⟩;rw[Hw hi,if_neg]
   ·exact hI.below q' x (by omega) hx
   ·rintro rfl;have:=O3 hO hp hx;omega
  ·intro p' x hlt hx hl;rw[Hw hi];split
   ·rfl
   ·rename_i hne;rcases Nat.lt_trichotomy p' q with h2|h2|h2
    ·exact hI.louds p' x h2 hx hl
    ·subst h2;rw[hp]at hx;cases hx;exact absurd rfl hne
    ·rw[hq3 p' x (by omega) hlt hx]at hl;cases hl
  ·intro p' x hle hx;rw[Hw hi,if_neg]
   ·exact hI.below p' x (by omega) hx
   ·rintro rfl;have:=O3 hO hp hx;omega
  ·rw[hws,hgW];refine⟨hs1,?_,hA.free,hA.env,hA.defers,?_⟩
   ·have:=hA.step.trans hs2;simpa[Mw]using this
   ·have hk:Go.Vam.K (F (q+1)).2.2.1 (F q').2.2.1 []:=⟨hgl,fun id hid _=>by
     rw[List.getElem?_eq_getElem hid];exact hgr _ _ (List.getElem?_eq_getElem hid)⟩
    have:=hA.k.trans hk;simpa[Mw]using this
  ·intro p' x hlt hx hs hg;rw[Hw hi]at hs;split at hs
   ·cases hs
   ·rename_i hne;rcases Nat.lt_trichotomy p' q with h2|h2|h2
    ·obtain⟨h3,h4⟩:=hI.free p' x h2 hx hs hg;have:=hT.len hX.keeps (p:=p'+1) q (by omega) (by omega)
     exact hf _ (by omega) h3 h4
    ·subst h2;rw[hp]at hx;cases hx;exact absurd rfl hne
    ·have:=hT.len hX.keeps (p:=q+1) p' (by omega) (by omega)
     constructor
     ·cases hl:g'.loc (F p').2.2.1.length with
      |none=>rfl
      |some c=>exact absurd (hA.sim.loc_lt hl) (by omega)
     ·cases hl:g'.tk (F p').2.2.1.length with
      |none=>rfl
      |some c=>exact absurd (hA.sim.tk_lt hl) (by omega)
 unfold wpOp;rw[ho];simp only;have hat:=hI.at_;generalize hFp:F q=s at h1 hat;generalize hFp':F (q+1)=s' at h1 fin;generalize hvp:val q=vv at h1 fin;rw[hFp]at hrs fin;cases h1 with
 |skip hw=>
  rw[I9 hat.env (by rw[Qb hrs];exact hw)]
  exact fin _ _ g hat.skip (Dx.refl _ _)
 |loud hw hl hq hc=>
  rename_i lg e st st' W V;rw[I9 hat.env (by rw[Qb hrs];exact hw)]
  simp only[if_true];refine .inl (Abn hX.just hX.count hX.ext (by rw[hat.step.mono.base];exact hb) hq hat.sim (fun x hx=>?_) fun r g' w' h2 h3 h4 h5=>?_)
  ·rw[← Ak6 (ops:=ops) (o:=o) hrs x hx];exact V4 hat.env x
  ·exact fin _ w' g' ⟨h3,hat.step.trans h4,hat.free.trans h5 hat.k.1,G5 (hat.env.mono h4.mono) h2,by rw[Act.put_defers'];exact hat.defers,hat.k.trans (Jz hX.keeps hq)⟩ h5
 |quiet hw hl hq=>have:=(hI.here i hp).1;rw[Ub ho,hl]at this;cases this
def left(S:Array Bool)(n:Nat):Nat:=((List.range n).filter fun i=>!has S i).length
theorem filter_lt{p p':Nat→Bool}(hpp:∀x,p' x=true→p x=true):∀(L:List Nat) (x:Nat),x∈L→p x=true→p' x=false→(L.filter p').length<(L.filter p).length
 |y::L,x,hx,h1,h2=>by
  have hle:(L.filter p').length≤(L.filter p).length:=by
   clear hx;induction L with
   |nil=>simp
   |cons z L ih=>
    simp only[List.filter_cons];cases h3:p' z with
    |true=>simp[hpp z h3,ih]
    |false=>
     simp only[BF];split
     ·simp;omega
     ·exact ih
  simp only[List.filter_cons];rcases List.mem_cons.1 hx with rfl|hx
  ·rw[h1,h2];simp;omega
  ·have:=filter_lt hpp L x hx h1 h2;cases h3:p' y with
   |true=>simp[hpp y h3,this]
   |false=>
    simp only[BF];split
    ·simp;omega
    ·exact this
theorem A0b(hap:dr=false→Ap ops B)(hX:Ctx C cf β)(hb:g0.base=β)(hT:Tr C h dr cf ops B l F val)(hO:We ops B l)(h0:(F 0).2.2.1=st0)
  (hQ:∀a w g,At g0 st0 w0 ds (F l.length).2.1 (F l.length).2.2.1 (F l.length).2.2.2 a w g→Q .normal a w):
  ∀(n:Nat) (S:Array Bool) (a:Act) (w:World) (g:G) (q:Nat),left S ops.size≤n→Inv ops B l F val g0 st0 w0 ds S a w g q→wpAny C.P .any ops Q n S a w:=by
 have fin:∀(S:Array Bool) (a:Act) (w:World) (g:G) (q:Nat),Inv ops B l F val g0 st0 w0 ds S a w g q→Region.ready .any ops S= []→Q .normal a w:=by
  intro S a w g q hI hr;have hall:=Aml hO hI.size hr;have hq:q=l.length:=by
   have:=hI.le;by_cases hlt:q<l.length
   ·have h1:=List.getElem?_eq_getElem hlt;have h2:=(hI.here _ h1).2;rw[hall _ (hO.lt q _ h1)]at h2;cases h2
   ·omega
  have hat:=hI.at_;rw[hq]at hat;refine hQ a w g ?_;rw[hT.env l.length (Nat.le_refl _)];have:Nw (Oo ops l) val (fun _=>true) (F 0).2.1 l.length=Nw (Oo ops l) val (Ir l S) (F 0).2.1 l.length:=by apply List.ext_getElem?;intro t;refine Mt _ fun r hr _=>?_;unfold Ir;rw[List.getElem?_eq_getElem hr];exact(hall _ (hO.lt r _ (List.getElem?_eq_getElem hr))).symm
  rw[this];exact hat
 intro n;induction n with
 |zero=>
  intro S a w g q hl hI;have hr:Region.ready .any ops S= []:=by
   rw[List.eq_nil_iff_forall_not_mem];intro i hi;obtain⟨h1,o,ho,_⟩:=Abg hi hI.size;have hm:i∈(List.range ops.size).filter fun i=>!has S i:=by rw[List.mem_filter,List.mem_range];exact⟨(Array.getElem?_eq_some_iff.1 ho).1,by simp[h1]⟩
   have:0<left S ops.size:=List.length_pos_of_mem hm;omega
  exact⟨hr,fin S a w g q hI hr⟩
 |succ n ih=>
  intro S a w g q hl hI;refine⟨fin S a w g q hI,fun i hi=>?_⟩;obtain⟨hn,o,ho,haf⟩:=Abg hi hI.size;have hm:∀j,(maskAt B i).testBit j=true→has S j=true:=fun j hj=>by
   rw[(hO.mask i o ho).1,Ace]at hj;obtain⟨e,he,hbd,hj⟩:=hj;have h1:=haf e he hbd;rcases hj with rfl|hj
   ·exact h1
   ·exact hI.closed e.on h1 j hj
  have hlt:i<ops.size:=(Array.getElem?_eq_some_iff.1 ho).1;have hi':i<S.size:=by rw[hI.size];exact hlt
  have hleft:left (S.setIfInBounds i true) ops.size≤n:=by
   have:=filter_lt (p:=fun i=>!has S i) (p':=fun j=>!has (S.setIfInBounds i true) j) (fun x hx=>by
    rw[Hw hi']at hx;split at hx
    ·simp at hx
    ·exact hx) (List.range ops.size) i (List.mem_range.2 hlt) (by simp[hn]) (by simp[Hw hi'])
   unfold left at hl ⊢;omega
  obtain⟨p,hp⟩:=hO.all i hlt;cases hlo:Dp ops i with
  |true=>
   have hpq:p=q:=by
    rcases Nat.lt_trichotomy p q with h2|h2|h2
    ·rw[hI.louds p i h2 hp hlo]at hn;cases hn
    ·exact h2
    ·have hql:q<l.length:=Nat.lt_trans h2 (Ky hp);have h3:=List.getElem?_eq_getElem hql;obtain⟨h4,h5⟩:=hI.here _ h3;rw[hm _ ((hO.later q p _ i h2 h3 hp).2.2 h4)]at h5;cases h5
   subst hpq;exact hI.loud hX hb hT hO hp ho hn hm fun a w g q hI'=>ih _ a w g q hleft hI'
  |false=>
   have hpq:p<q:=by
    rcases Nat.lt_trichotomy p q with h2|h2|h2
    ·exact h2
    ·subst h2;rw[(hI.here i hp).1]at hlo;cases hlo
    ·have hql:q<l.length:=Nat.lt_trans h2 (Ky hp);have h3:=List.getElem?_eq_getElem hql;obtain⟨h4,h5⟩:=hI.here _ h3;rw[hm _ ((hO.later q p _ i h2 h3 hp).2.2 h4)]at h5;cases h5
   exact hI.quiet hap hX hT hO h0 hpq hp ho hn hm hlo fun a w g hI'=>ih _ a w g q hleft hI'
end
end Go.Vam
