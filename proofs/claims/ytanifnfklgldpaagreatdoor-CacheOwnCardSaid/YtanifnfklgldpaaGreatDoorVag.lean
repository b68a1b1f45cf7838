/-
  check.back: its passes, its way; its law.
-/
import Derived.Test.YtanifnfklgldpaaGreatDoorVaf
set_option linter.unusedSimpArgs false
set_option linter.unusedVariables false
namespace Go.Vam
abbrev Lp:=List (List UInt8 × Nat)
abbrev X9:=List (List UInt8 × List (List UInt8))
def Cu(x:List UInt8):Lp→Option Nat
 | []=>none
 |p::l=>if p.1 == x then some p.2 else Cu x l
def Lh(x:List UInt8)(d:Nat):Lp→Lp
 | []=> [(x,d)]
 |p::l=>if p.1 == x then(x,d)::l else p::Lh x d l
theorem Hr(x y:List UInt8)(d:Nat):∀fs:Lp,Cu y (Lh x d fs)=if x=y then some d else Cu y fs
 | []=>by unfold Lh Cu Cu;simp
 |p::l=>by
  unfold Lh;by_cases h:p.1=x
  ·subst h;simp only[beq_self_eq_true,if_true];rw[Cu,Cu];by_cases hy:p.1=y<;>simp[hy]
  ·have h2:(p.1 == x)=false:=by simpa using h
   simp only[h2];show Cu y (p::Lh x d l)=_;rw[Cu,Cu,Hr x y d l];by_cases hy:p.1=y
   ·subst hy;have h3:¬ x=p.1:=fun e=>h e.symm;simp[h3]
   ·simp[hy]
def F7(n x:List UInt8)(s:Lp × Bool):Lp × Bool:=
 match Cu x s.1 with
 |none=>s
 |some d=>match Cu n s.1 with
  |none=>(Lh n (d+1) s.1,true)
  |some w=>if d+1<w then(Lh n (d+1) s.1,true)else s
def H8(n:List UInt8):List (List UInt8)→Lp × Bool→Lp × Bool
 | [],s=>s
 |x::xs,s=>H8 n xs (F7 n x s)
def Walk(all:X9)(src:List UInt8):Nat→List UInt8→Prop
 |0,n=>n=src
 |d+1,n=>∃ns x,(n,ns)∈all∧x∈ns∧Walk all src d x
def absent(all:X9)(far:Lp):Nat:=all.countP fun p=>(Cu p.1 far).isNone
def Avh(B:Nat)(far:Lp)(n:List UInt8):Nat:=match Cu n far with
 |none=>B+1
 |some d=>d
def cost(all:X9)(far:Lp):Nat:=(all.map fun p=>Avh all.length far p.1).sum
structure Good(all:X9)(src:List UInt8)(far:Lp):Prop where
 zero:Cu src far=some 0
 walk:∀n d,Cu n far=some d→Walk all src d n
 small:∀n d,Cu n far=some d→d+absent all far≤all.length
def ClosedAt(far:Lp)(n x:List UInt8):Prop:=∀d,Cu x far=some d→∃w,Cu n far=some w∧w≤d+1
def Closed(all:X9)(far:Lp):Prop:=∀n ns,(n,ns)∈all→∀x∈ns,ClosedAt far n x
theorem sum_lt{α:Type}(f g:α→Nat):∀(l:List α),(∀p∈l,f p≤g p)→(∃p∈l,f p<g p)→(l.map f).sum<(l.map g).sum
 | [],_,⟨p,h,_⟩=>by cases h
 |a::l,hle,⟨p,hp,hlt⟩=>by
  simp only[List.map_cons,List.sum_cons];have h1:=hle a (by simp)
  rcases List.mem_cons.1 hp with rfl|hp
  ·have h2:(l.map f).sum≤(l.map g).sum:=by
    clear hlt h1 hp;induction l with
    |nil=>simp
    |cons b l ih=>
     simp only[List.map_cons,List.sum_cons];have:=hle b (by simp)
     have:=ih (fun q hq=>hle q (by
      rcases List.mem_cons.1 hq with rfl|h
      ·simp
      ·simp[h]))
     omega
   omega
  ·have:=sum_lt f g l (fun q hq=>hle q (by simp[hq])) ⟨p,hp,hlt⟩
   omega
theorem Afi{α:Type}(p q:α→Bool):∀(l:List α),(∀a∈l,p a=true→q a=true)→(∃a∈l,p a=false∧q a=true)→l.countP p<l.countP q
 | [],_,⟨a,h,_⟩=>by cases h
 |b::l,himp,⟨a,ha,h1,h2⟩=>by
  rw[List.countP_cons,List.countP_cons];have hb:=himp b (by simp)
  have hle:l.countP p≤l.countP q:=List.countP_mono_left fun c hc h=>himp c (by simp[hc]) h
  rcases List.mem_cons.1 ha with rfl|ha
  ·rw[h1,h2];simp;omega
  ·have:=Afi p q l (fun c hc=>himp c (by simp[hc])) ⟨a,ha,h1,h2⟩
   cases hpb:p b
   ·simp only[BF];omega
   ·rw[hb hpb];simp only[if_true];omega
section
variable{all:X9}{src:List UInt8}{far:Lp}
theorem Good.set{n:List UInt8}{ns:List (List UInt8)}{x:List UInt8}{d:Nat}(h:Good all src far)(hn:(n,ns)∈all)(hx:x∈ns)(hd:Cu x far=some d)(hw:∀w,Cu n far=some w→d+1<w):
  Good all src (Lh n (d+1) far)∧cost all (Lh n (d+1) far)<cost all far:=by
 have hab:absent all (Lh n (d+1) far)≤absent all far:=by
  unfold absent;refine List.countP_mono_left fun p _ hp=>?_;rw[Hr]at hp;split at hp
  ·cases hp
  ·exact hp
 have hd1:d+1+absent all (Lh n (d+1) far)≤all.length:=by
  cases hgn:Cu n far with
  |some w=>have:=hw w hgn;have:=h.small n w hgn;omega
  |none=>
   have h1:=h.small x d hd;have h2:absent all (Lh n (d+1) far)<absent all far:=by
    unfold absent;refine Afi _ _ _ (fun p _ hp=>?_) ⟨(n,ns),hn,?_,?_⟩
    ·rw[Hr]at hp;split at hp
     ·cases hp
     ·exact hp
    ·rw[Hr,if_pos rfl];rfl
    ·rw[hgn];rfl
   omega
 refine⟨⟨?_,fun m e hm=>?_,fun m e hm=>?_⟩,?_⟩
 ·rw[Hr];split
  ·rename_i he;subst he;have:=hw 0 h.zero;omega
  ·exact h.zero
 ·rw[Hr]at hm;split at hm
  ·rename_i he;subst he;cases hm;exact⟨ns,x,hn,hx,h.walk x d hd⟩
  ·exact h.walk m e hm
 ·rw[Hr]at hm;split at hm
  ·cases hm;exact hd1
  ·have:=h.small m e hm;omega
 ·unfold cost;refine sum_lt _ _ _ (fun p _=>?_) ⟨(n,ns),hn,?_⟩
  ·unfold Avh;rw[Hr];by_cases he:n=p.1
   ·rw[if_pos he,← he];cases hgn:Cu n far with
    |none=>show d+1≤all.length+1;omega
    |some w=>have:=hw w hgn;show d+1≤w;omega
   ·rw[if_neg he];exact Nat.le_refl _
  ·unfold Avh;rw[Hr,if_pos rfl];cases hgn:Cu n far with
   |none=>show d+1<all.length+1;omega
   |some w=>exact hw w hgn
theorem Z6{n:List UInt8}{ns:List (List UInt8)}{x:List UInt8}(t:Bool)(h:Good all src far)(hn:(n,ns)∈all)(hx:x∈ns):
  Good all src (F7 n x (far,t)).1∧((F7 n x (far,t)=(far,t)∧ClosedAt far n x)∨((F7 n x (far,t)).2=true∧cost all (F7 n x (far,t)).1<cost all far)):=by
 unfold F7;dsimp only;cases hd:Cu x far with
 |none=>exact⟨h,.inl ⟨rfl,fun d hd'=>by rw[hd]at hd';cases hd'⟩⟩
 |some d=>
  dsimp only;cases hw:Cu n far with
  |none=>
   have:=h.set hn hx hd (fun w h'=>by rw[hw]at h';cases h')
   exact⟨this.1,.inr ⟨rfl,this.2⟩⟩
  |some w=>
   dsimp only;split
   ·rename_i hlt;have:=h.set hn hx hd (fun w' h'=>by rw[hw]at h';cases h';exact hlt)
    exact⟨this.1,.inr ⟨rfl,this.2⟩⟩
   ·exact⟨h,.inl ⟨rfl,fun d' hd'=>by rw[hd]at hd';cases hd';exact⟨w,hw,by omega⟩⟩⟩
theorem R5{n:List UInt8}{ns:List (List UInt8)}(hn:(n,ns)∈all):∀(xs:List (List UInt8)) (far:Lp) (t:Bool),(∀x∈xs,x∈ns)→Good all src far→Good all src (H8 n xs (far,t)).1∧((H8 n xs (far,t)=(far,t)∧∀x∈xs,ClosedAt far n x)∨((H8 n xs (far,t)).2=true∧cost all (H8 n xs (far,t)).1<cost all far))
 | [],far,t,_,h=>⟨h,.inl ⟨rfl,fun x hx=>by cases hx⟩⟩
 |x::xs,far,t,hxs,h=>by
  rw[H8];obtain⟨h1,h2⟩:=Z6 (far:=far) t h hn (hxs x (by simp))
  rcases h2 with⟨h2,h3⟩|⟨h2,h3⟩
  ·rw[h2];obtain⟨h4,h5⟩:=R5 hn xs far t (fun y hy=>hxs y (by simp[hy])) h
   refine⟨h4,?_⟩;rcases h5 with⟨h5,h6⟩|h5
   ·exact .inl ⟨h5,fun y hy=>by
     rcases List.mem_cons.1 hy with rfl|hy
     ·exact h3
     ·exact h6 y hy⟩
   ·exact .inr h5
  ·generalize F7 n x (far,t)=s at h1 h2 h3;obtain⟨far1,t1⟩:=s;obtain⟨h4,h5⟩:=R5 hn xs far1 t1 (fun y hy=>hxs y (by simp[hy])) h1
   refine⟨h4,.inr ?_⟩;dsimp only at h2 h3;rcases h5 with⟨h5,h6⟩|⟨h5,h6⟩
   ·rw[h5];exact⟨h2,h3⟩
   ·exact⟨h5,by omega⟩
structure Yq(all:X9)(src:List UInt8)(far0:Lp)(pre:List Nat)(s:Lp × Bool):Prop where
 good:Good all src s.1
 what:(s=(far0,false)∧∀i∈pre,∀n ns,all[i]?=some (n,ns)→∀x∈ns,ClosedAt far0 n x)∨(s.2=true∧cost all s.1<cost all far0)
theorem Yq.start(h:Good all src far):Yq all src far [] (far,false):=⟨h,.inl ⟨rfl,fun i hi=>by cases hi⟩⟩
theorem Yq.step{far0:Lp}{pre:List Nat}{s:Lp × Bool}{i:Nat}{n:List UInt8}{ns:List (List UInt8)}(h:Yq all src far0 pre s)(hi:all[i]?=some (n,ns)):Yq all src far0 (pre++ [i]) (H8 n ns s):=by
 obtain⟨far,t⟩:=s;obtain⟨h1,h2⟩:=R5 (List.mem_of_getElem? hi) ns far t (fun _ h=>h) h.good;refine⟨h1,?_⟩;rcases h.what with⟨h3,h4⟩|⟨h3,h4⟩
 ·cases h3;rcases h2 with⟨h5,h6⟩|h5
  ·refine .inl ⟨h5,fun j hj m ms hjm=>?_⟩;rcases List.mem_append.1 hj with hj|hj
   ·exact h4 j hj m ms hjm
   ·simp at hj;subst hj;rw[hi]at hjm;cases hjm;exact h6
  ·exact .inr h5
 ·dsimp only at h3 h4;rcases h2 with⟨h5,h6⟩|⟨h5,h6⟩
  ·rw[h5];exact .inr ⟨h3,h4⟩
  ·exact .inr ⟨h5,by omega⟩
theorem Yq.closed{far0 far:Lp}{pre:List Nat}(h:Yq all src far0 pre (far,false))(hp:pre.Perm (List.range all.length)):far=far0∧Closed all far:=by
 rcases h.what with⟨h1,h2⟩|⟨h1,_⟩
 ·cases h1;refine⟨rfl,fun n ns hn x hx=>?_⟩;obtain⟨i,hi⟩:=List.mem_iff_getElem?.1 hn;have hlt:i<all.length:=(List.getElem?_eq_some_iff.1 hi).1;exact h2 i (hp.mem_iff.2 (List.mem_range.2 hlt)) n ns hi x hx
 ·cases h1
theorem Aiu(hz:Cu src far=some 0)(hc:Closed all far):∀(d:Nat) (n:List UInt8),Walk all src d n→∃w,Cu n far=some w∧w≤d
 |0,n,h=>by cases h;exact⟨0,hz,Nat.le_refl _⟩
 |d+1,n,⟨ns,x,hn,hx,hw⟩=>by obtain⟨w,h1,h2⟩:=Aiu hz hc d x hw;obtain⟨v,h3,h4⟩:=hc n ns hn x hx w h1;exact⟨v,h3,by omega⟩
theorem look_eq{far1 far2:Lp}(h1:Good all src far1)(c1:Closed all far1)(h2:Good all src far2)(c2:Closed all far2)(n:List UInt8):Cu n far1=Cu n far2:=by
 have h3:∀d,Cu n far1=some d→∃w,Cu n far2=some w∧w≤d:=fun d hd=>Aiu h2.zero c2 d n (h1.walk n d hd);have h4:∀d,Cu n far2=some d→∃w,Cu n far1=some w∧w≤d:=fun d hd=>Aiu h1.zero c1 d n (h2.walk n d hd);cases e1:Cu n far1 with
 |some d=>obtain⟨w,h5,h6⟩:=h3 d e1;obtain⟨v,h7,h8⟩:=h4 w h5;rw[e1]at h7;cases h7;rw[h5];congr 1;omega
 |none=>
  cases e2:Cu n far2 with
  |some d=>obtain⟨w,h5,_⟩:=h4 d e2;rw[e1]at h5;cases h5
  |none=>rfl
def Af7:X9→Lp × Bool→Lp × Bool
 | [],s=>s
 |p::l,s=>Af7 l (H8 p.1 p.2 s)
def A48(all:X9):Nat→Lp→Option Lp
 |0,_=>none
 |k+1,far=>match Af7 all (far,false)with
  |(far,false)=>some far
  |(far,true)=>A48 all k far
theorem Acr{far0:Lp}:∀(l:X9) (pre:List Nat) (s:Lp × Bool),(∀(i:Nat) (p:List UInt8 × List (List UInt8)),l[i]?=some p→all[pre.length+i]?=some p)→(∀i∈pre,i<pre.length)→Yq all src far0 pre s→(pre=List.range pre.length)→Yq all src far0 (List.range (pre.length+l.length)) (Af7 l s)
 | [],pre,s,hl,hp,h,hr=>by rw[Af7,List.length_nil,Nat.add_zero,← hr];exact h
 |p::l,pre,s,hl,hp,h,hr=>by
  rw[Af7];have h0:=hl 0 p (by simp)
  have h1:=h.step (i:=pre.length) (n:=p.1) (ns:=p.2) (by simpa using h0)
  have h2:=Acr l (pre++ [pre.length]) _ (fun i q hi=>by
   have:=hl (i+1) q (by simpa using hi)
   rw[List.length_append];simp only[List.length_singleton];rw[show pre.length+1+i=pre.length+(i+1)from by omega]
   exact this) (fun i hi=>by
   rw[List.length_append];rcases List.mem_append.1 hi with h|h
   ·have:=hp i h;simp only[List.length_singleton];omega
   ·simp at h;subst h;simp) h1 (by
   rw[List.length_append];simp only[List.length_singleton];rw[List.range_succ,← hr])
  rw[List.length_append]at h2;simp only[List.length_singleton]at h2;rw[List.length_cons,show pre.length+(l.length+1)=pre.length+1+l.length from by omega]
  exact h2
theorem Afy:∀(k:Nat) (far far':Lp),Good all src far→A48 all k far=some far'→Good all src far'∧Closed all far'
 |0,_,_,_,h=>by cases h
 |k+1,far,far',hg,h=>by
  have hp:=Acr (all:=all) (src:=src) (far0:=far) all [] (far,false) (fun i p hi=>by simpa using hi) (fun i hi=>by cases hi) (Yq.start hg) rfl
  simp only[List.length_nil,Nat.zero_add]at hp;unfold A48 at h;generalize hs:Af7 all (far,false)=s at h hp;obtain⟨f1,t⟩:=s;cases t with
  |false=>cases h;exact⟨hp.good,(hp.closed (List.Perm.refl _)).2⟩
  |true=>exact Afy k f1 far' hp.good h
theorem good_start(h:(all.length)=all.length):Good all src [(src,0)]:=by
 refine⟨by simp[Cu],fun n d hd=>?_,fun n d hd=>?_⟩
 ·unfold Cu Cu at hd;split at hd
  ·rename_i he;cases hd;exact(by simpa using he:src=n).symm
  ·cases hd
 ·unfold Cu Cu at hd;split at hd
  ·cases hd;rw[Nat.zero_add];exact List.countP_le_length
  ·cases hd
end
end Go.Vam
namespace Go.Vam
open Go.Proofs Go.Proofs.Tryz
def Gz(fs:Lp):List (D × D):=fs.map fun p=>(.str p.1,.int .i64 p.2)
theorem A9e:prog.underlying 9=some .string:=underlying9
theorem Ave:Aar prog 250=some (9,3):=by kernel_rfl
theorem Ao0(a b:List UInt8):eqT prog 20 9 (.str a) (.str b)=some (a == b):=by unfold eqT;rw[A9e]
theorem Zf(a:List UInt8):Xo prog 9 (.str a)=true:=by unfold Xo Va;rw[A9e]
theorem Ya(x:List UInt8):∀(fs:Lp) (i:Nat),(Jc prog 9 (.str x) (Gz fs) i=some none∧Cu x fs=none∧∀d':Nat,Gz (Lh x d' fs)=Gz fs++ [(.str x,.int .i64 d')])∨∃(j d:Nat),Jc prog 9 (.str x) (Gz fs) i=some (some (i+j,.int .i64 d))∧Cu x fs=some d∧(Gz fs)[j]?=some (.str x,.int .i64 d)∧∀d':Nat,Gz (Lh x d' fs)=(Gz fs).set j (.str x,.int .i64 d')
 | [],i=> .inl ⟨rfl,rfl,fun _=>rfl⟩
 |p::l,i=>by
  have hc:Gz (p::l)=(.str p.1,.int .i64 p.2)::Gz l:=rfl;rw[hc,Jc,Ao0,Cu];by_cases h:p.1=x
  ·right;subst h;exact⟨0,p.2,by simp,by simp,by simp,fun d'=>by simp[Lh,Gz]⟩
  ·have h1:(x == p.1)=false:=by simpa using fun e=>h e.symm
   have h2:(p.1 == x)=false:=by simpa using h
   have hs:∀d',Lh x d' (p::l)=p::Lh x d' l:=fun d'=>by simp[Lh,h2]
   rcases Ya x l (i+1)with⟨h3,h4,h5⟩|⟨j,d,h3,h4,h5,h6⟩
   ·left;refine⟨by simp[h1,h3],by simp[h2,h4],fun d'=>?_⟩
    rw[hs];show(.str p.1,.int .i64 p.2)::Gz (Lh x d' l)=_;rw[h5];rfl
   ·right;refine⟨j+1,d,?_,by simp[h2,h4],by simpa using h5,fun d'=>?_⟩
    ·rw[h1];dsimp only;rw[h3];congr 3;omega
    ·rw[hs];show(.str p.1,.int .i64 p.2)::Gz (Lh x d' l)=_;rw[h6];rfl
theorem Bdm:Xn prog 3=some (.int .i64 0):=by kernel_rfl
def getD'(o:Option Nat):D:=match o with
 |some d=> .tup [.int .i64 (d:Nat),.bool true]
 |none=> .tup [.int .i64 0,.bool false]
theorem Qo{st:St}{id:Nat}{fs:Lp}{x:List UInt8}(h:st[id]?=some (.map (Gz fs))):Io prog 250 (.map id) (.str x) true st=some (getD' (Cu x fs),.rd [id]):=by
 unfold Io;rw[Ave];simp only[Zf,if_true,h];rcases Ya x fs 0 with⟨h1,h2,_⟩|⟨j,d,h1,h2,_⟩
 ·rw[h1,h2,Bdm];rfl
 ·rw[h1,h2];rfl
theorem Ajd(st:St):Dn st st= []:=Du st
theorem Vi{st:St}{id d:Nat}{fs:Lp}{x:List UInt8}(h:st[id]?=some (.map (Gz fs))):Hq prog 250 (.map id) (.str x) (.int .i64 d) st=some (.undef,st.set id (.map (Gz (Lh x d fs))),[id]):=by
 unfold Hq;rw[Ave];simp only[Zf,if_true];have hf:Sl Gu st (.int .i64 (d:Int))=some (.int .i64 d,st):=rfl;rw[hf];simp only[h,Ajd];rcases Ya x fs 0 with⟨h1,h2,h3⟩|⟨j,d0,h1,h2,h3,h4⟩
 ·rw[h1,h3];rfl
 ·rw[h1,h4];simp only[Nat.zero_add];have:sameAt (Gz fs) j (.str x)=true:=by
   unfold sameAt;rw[h3];simp[Aom,Sc]
  rw[this];rfl
end Go.Vam
namespace Go.Vam
mutual
def Apk:D→D→Bool
 | .int k a,.int k' b=>k == k' && a == b
 | .bool a,.bool b=>a == b
 | .str a,.str b=>a == b
 | .nilsl,.nilsl=>true
 | .sl r .none,.sl r' .none=>Ahu r r'
 | .agg a,.agg b=>Aci a b
 |_,_=>false
def Aci:List D→List D→Bool
 | [],[]=>true
 |a::x,b::y=>Apk a b && Aci x y
 |_,_=>false
def Ahu:List (List D)→List (List D)→Bool
 | [],[]=>true
 |a::x,b::y=>Aci a b && Ahu x y
 |_,_=>false
end
mutual
theorem Akp:∀{a b:D},Apk a b=true→a=b:=fun {a b} h=>by
 unfold Apk at h;split at h
 ·simp only[Bool.and_eq_true,beq_iff_eq]at h;obtain⟨h1,h2⟩:=h;subst h1 h2;rfl
 ·rw[beq_iff_eq.1 h]
 ·rw[beq_iff_eq.1 h]
 ·rfl
 ·rw[Afg h]
 ·rw[Rs h]
 ·cases h
theorem Rs:∀{x y:List D},Aci x y=true→x=y
 | [],[],_=>rfl
 |a::x,b::y,h=>by unfold Aci at h;rw[Bool.and_eq_true]at h;rw[Akp h.1,Rs h.2]
 | [],_::_,h=>by cases h
 |_::_,[],h=>by cases h
theorem Afg:∀{x y:List (List D)},Ahu x y=true→x=y
 | [],[],_=>rfl
 |a::x,b::y,h=>by unfold Ahu at h;rw[Bool.and_eq_true]at h;rw[Rs h.1,Afg h.2]
 | [],_::_,h=>by cases h
 |_::_,[],h=>by cases h
end
def rowOf(args:List D):List (List D × D)→Option D
 | []=>none
 |r::l=>if Aci r.1 args then some r.2 else rowOf args l
theorem Afc{args:List D}{v:D}:∀{l:List (List D × D)},rowOf args l=some v→(args,v)∈l
 | [],h=>by cases h
 |r::l,h=>by
  unfold rowOf at h;split at h
  ·rename_i he;cases h;rw[← Rs he];exact List.mem_cons_self
  ·exact List.mem_cons_of_mem _ (Afc h)
def Im(rows:List (List D × D)):Bz:=fun _ args st=>match rowOf args rows with
 |some v=>some (v,st,[])
 |none=>none
def Akr(P:Program)(β:Nat→Nat→Option Value)(f:FuncId)(args:List D)(v:D):Prop:=
 ∀st g w (A:Array Value),g.base=β→Co g st w→F8 g args A→Calls P f A w fun e w'=>∃r g',e= .returned r∧VR g' v r∧Co g' st w'∧Step g st w [] g' st w'∧Dx g st g'
theorem Qg{P:Program}{β:Nat→Nat→Option Value}{f:FuncId}{rows:List (List D × D)}(h:∀r∈rows,Akr P β f r.1 r.2)(cf:Ah):Ji P β f (Im rows cf):=by
 intro args st v st' W hr g w A hb hs hA;unfold Im at hr;split at hr
 ·rename_i v1 hv;cases hr;exact h _ (Afc hv) st g w A hb hs hA
 ·cases hr
theorem Ou{rows:List (List D × D)}(cf:Ah):Ba (Im rows cf):=by
 intro args st v st' W hr;unfold Im at hr;split at hr
 ·cases hr;exact⟨Nat.le_refl _,fun _ _ _=>rfl⟩
 ·cases hr
theorem A2s{g:G}{st:St}{w:World}(hs:Co g st w):Co (g.cut 0) [] w:=by
 have hl:∀id c,(g.cut 0).loc id≠some c:=fun id c h=>by simp[G.cut]at h
 have ht:∀t k,(g.cut 0).tk t≠some k:=fun t k h=>by simp[G.cut]at h
 refine⟨fun id c h=>absurd h (hl id c),fun t k h=>absurd h (ht t k),fun id id' b h _=>?_,hs.imm,fun id c h=>absurd h (hl id c),fun b o v h=>⟨(hs.base b o v h).1,fun id ho=>(by
  rcases ho with⟨h,_⟩|⟨k,h,_⟩
  ·exact absurd h (hl _ _)
  ·exact absurd h (ht _ _)),(hs.base b o v h).2.2⟩⟩
 rcases h with⟨h,_⟩|⟨k,h,_⟩
 ·exact absurd h (hl _ _)
 ·exact absurd h (ht _ _)
theorem row_of{P:Program}{β:Nat→Nat→Option Value}{f:FuncId}{c:List D→St→Res}(hj:Ji P β f c){args:List D}{v:D}{st2:St}{W2:Cb}(h:c args []=some (v,st2,W2))(ha:F6 0 args=false)(hv:Sn v=true):
  Akr P β f args v:=by
 intro st g w A hb hs hA;have hA0:F8 (g.cut 0) args A:=⟨hA.size,fun j d x h1 h2=>(hA.at_ j d x h1 h2).cut (Fv.1 ha j d h1)⟩;refine(hj args [] v st2 W2 h (g.cut 0) w A hb (A2s hs) hA0).mono ?_;rintro e w' ⟨r,g1,rfl,h1,h2,h3,h4⟩;have hno:∀id b,¬ Own (g.cut 0) [] id b:=by rintro id b (⟨h,_⟩|⟨k,h,_⟩)<;>simp[G.cut]at h
 have:=hs.still h3.size (fun b hb=>h3.fr b hb fun id _=>hno id b) h3.os h3.out;exact⟨r,g,rfl,Aje h1 hv,this.1,this.2,Dx.refl _ _⟩
def Dl(o:Oper):Oper:= {dst:=o.dst,op:=o.op,type:=0,pos:= "",after:= #[],guard:=o.guard}
def strip:Code→Code
 | .region id ops false=> .region id (ops.map Dl) false
 | .seq a b=> .seq (strip a) (strip b)
 | .cond c a b=> .cond c (strip a) (strip b)
 | .block id a=> .block id (strip a)
 | .loop a=> .loop (strip a)
 |c=>c
section
variable{C:Eo}{h:Bool}{cf:Ah}
theorem Anc(o:Oper)(ops:Array Oper)(e:Env):Ct (Dl o) (ops.map Dl) e=Ct o ops e:=by
 unfold Ct;show(match o.guard with|none=>_|some (j,want)=>_)=_
 cases o.guard with
 |none=>rfl
 |some p=>obtain⟨j,want⟩:=p;dsimp only;rw[Array.getElem?_map];cases ops[j]?<;>rfl
theorem Pf(ops:Array Oper)(B:Array Nat):∀(l:List Nat) (lg:Rh) (e:Env) (st:St) (W:Cb),Ay C h cf false (ops.map Dl) B l lg e st W=Ay C h cf false ops B l lg e st W
 | [],lg,e,st,W=>rfl
 |i::l,lg,e,st,W=>by
  unfold Ay;rw[Array.getElem?_map];cases ho:ops[i]? with
  |none=>rfl
  |some o=>
   simp only[Option.map_some,Anc];have h1:loud (Dl o)=loud o:=rfl;have h2:Af C.P h (Dl o) (ev e) st=Af C.P h o (ev e) st:=rfl;have h3:Bj C h cf (Dl o) (ev e) st=Bj C h cf o (ev e) st:=rfl;have h4:(Dl o).dst=o.dst:=rfl;rw[h1,h2,h3,h4];cases Ct o ops e with
   |none=>rfl
   |some b=>
    cases b with
    |false=>exact Pf ops B l _ _ _ _
    |true=>
     dsimp only;split
     ·cases Bj C h cf o (ev e) st with
      |none=>rfl
      |some p=>obtain⟨v,st',V⟩:=p;dsimp only;simp only[Bool.false_and];exact Pf ops B l _ _ _ _
     ·cases Af C.P h o (ev e) st with
      |none=>rfl
      |some p=>obtain⟨v,fx⟩:=p;exact Pf ops B l _ _ _ _
theorem Am8(od:Nat→Option (List Nat × Bool))(N:Nat):∀(c:Code),exec C h od cf N (strip c)=exec C h od cf N c:=by
 intro c;induction c with
 |region id ops draw=>
  cases draw with
  |true=>rfl
  |false=>funext e st;show exec C h od cf N (.region id (ops.map Dl) false) e st=_;unfold exec region;simp only[BF,Array.size_map,Pf]
 |seq a b iha ihb=>funext e st;show exec C h od cf N (.seq (strip a) (strip b)) e st=_;unfold exec;rw[iha,ihb]
 |cond c a b iha ihb=>funext e st;show exec C h od cf N (.cond c (strip a) (strip b)) e st=_;unfold exec;rw[iha,ihb]
 |block id a iha=>funext e st;show exec C h od cf N (.block id (strip a)) e st=_;unfold exec;rw[iha]
 |loop a iha=>funext e st;show exec C h od cf N (.loop (strip a)) e st=_;unfold exec;rw[iha]
 |_=>rfl
end
theorem Cy(e:Env)(i j:Nat)(v:D):(e.set i v).getD j .undef=if i=j then(if i<e.length then v else .undef)else e.getD j .undef:=by
 simp only[List.getD_eq_getElem?_getD,List.getElem?_set];by_cases h:i=j
 ·subst h;by_cases h2:i<e.length
  ·simp[h2]
  ·simp[h2]
 ·simp[h]
section
variable{C:Eo}{hh:Bool}{cf:Ah}{N:Nat}{Pw:Nat→Prop}
structure Mk(C:Eo)(hh:Bool)(cf:Ah)(N:Nat)(Pw:Nat→Prop)(c:Code)(e:Env)(st:St)(Q:Ex→Env→St→Prop):Prop where
 ex:∃x e' st' V,exec C hh (fun _=>none) cf N c e st=some (x,e',st',V)∧(∀id∈V,Pw id)∧Q x e' st'
structure Adn(C:Eo)(hh:Bool)(cf:Ah)(Pw:Nat→Prop)(ops:Array Oper)(l:List Nat)(e:Env)(st:St)(Q:Env→St→Prop):Prop where
 ex:∀W:Cb,(∀id∈W,Pw id)→∃e' st' V,Ay C hh cf false ops #[] l [] e st W=some (e',st',V)∧(∀id∈V,Pw id)∧Q e' st'
variable{e:Env}{st st':St}{Q:Ex→Env→St→Prop}{R:Env→St→Prop}{ops:Array Oper}{l:List Nat}
theorem Mk.mono{c:Code}{Q':Ex→Env→St→Prop}(h:Mk C hh cf N Pw c e st Q')(hq:∀x e' st',Q' x e' st'→Q x e' st'):Mk C hh cf N Pw c e st Q:=by obtain⟨x,e',st',V,h1,h2,h3⟩:=h.ex;exact⟨x,e',st',V,h1,h2,hq _ _ _ h3⟩
theorem Cs{c:Code}(h:Mk C hh cf N Pw (strip c) e st Q):Mk C hh cf N Pw c e st Q:=by obtain⟨x,e',st',V,h1,h2⟩:=h.ex;rw[Am8]at h1;exact⟨x,e',st',V,h1,h2⟩
theorem Ch(h:Q .norm e st):Mk C hh cf N Pw .skip e st Q:=⟨⟨_,_,_,_,rfl,by simp,h⟩⟩
theorem Ce{id:Nat}(h:Q (.exit id) e st):Mk C hh cf N Pw (.exit id) e st Q:=⟨⟨_,_,_,_,rfl,by simp,h⟩⟩
theorem D9(h:Q .ret e st):Mk C hh cf N Pw .ret e st Q:=⟨⟨_,_,_,_,rfl,by simp,h⟩⟩
theorem Bp{a b:Code}(h:Mk C hh cf N Pw a e st (fun x e1 st1=>match x with| .norm=>Mk C hh cf N Pw b e1 st1 Q|x=>Q x e1 st1)):Mk C hh cf N Pw (.seq a b) e st Q:=by
 obtain⟨x,e1,st1,V,h1,h2,h3⟩:=h.ex;cases x with
 |norm=>obtain⟨y,e2,st2,W,h4,h5,h6⟩:=h3.ex;refine⟨⟨y,e2,st2,Dj W V,?_,fun id hid=>(Cm.1 hid).elim (h5 id) (h2 id),h6⟩⟩;unfold exec;rw[h1];dsimp only;rw[h4]
 |exit id=>refine⟨⟨_,e1,st1,V,?_,h2,h3⟩⟩;unfold exec;rw[h1]
 |ret=>refine⟨⟨_,e1,st1,V,?_,h2,h3⟩⟩;unfold exec;rw[h1]
theorem Alb{c:Operand}{a b:Code}(hc:ev e c= .bool true)(h:Mk C hh cf N Pw a e st Q):Mk C hh cf N Pw (.cond c a b) e st Q:=by obtain⟨x,e1,st1,V,h1,h2,h3⟩:=h.ex;refine⟨⟨x,e1,st1,V,?_,h2,h3⟩⟩;unfold exec;rw[hc];exact h1
theorem Ze{c:Operand}{a b:Code}(hc:ev e c= .bool false)(h:Mk C hh cf N Pw b e st Q):Mk C hh cf N Pw (.cond c a b) e st Q:=by obtain⟨x,e1,st1,V,h1,h2,h3⟩:=h.ex;refine⟨⟨x,e1,st1,V,?_,h2,h3⟩⟩;unfold exec;rw[hc];exact h1
theorem Bh{id:Nat}{b:Code}(h:Mk C hh cf N Pw b e st (fun x e1 st1=>match x with| .exit i=>Q (if i=id then .norm else .exit i) e1 st1|x=>Q x e1 st1)):Mk C hh cf N Pw (.block id b) e st Q:=by
 obtain⟨x,e1,st1,V,h1,h2,h3⟩:=h.ex;cases x with
 |exit i=>refine⟨⟨_,e1,st1,V,?_,h2,h3⟩⟩;unfold exec;rw[h1]
 |norm=>refine⟨⟨_,e1,st1,V,?_,h2,h3⟩⟩;unfold exec;rw[h1]
 |ret=>refine⟨⟨_,e1,st1,V,?_,h2,h3⟩⟩;unfold exec;rw[h1]
theorem Ans{id:Nat}(h:Adn C hh cf Pw ops (List.range ops.size) e st (fun e' st'=>Q .norm e' st')):Mk C hh cf N Pw (.region id ops false) e st Q:=by
 obtain⟨e',st',V,h1,h2,h3⟩:=h.ex [] (by simp)
 refine⟨⟨.norm,e',st',V,?_,h2,h3⟩⟩;unfold exec region;simp only[BF];rw[h1]
theorem Aie{body:Env→St→ExR}{Pw:Nat→Prop}(I:Nat→Env→St→Prop)
  (step:∀k e st,I k e st→∃x e' st' V,body e st=some (x,e',st',V)∧(∀id∈V,Pw id)∧(match x with| .norm=>∃k',k'<k∧I k' e' st'|x=>Q x e' st')):
  ∀(n:Nat) (k:Nat) (e:Env) (st:St) (W:Cb),k<n→I k e st→(∀id∈W,Pw id)→∃x e' st' V,Iq body n e st W=some (x,e',st',V)∧(∀id∈V,Pw id)∧Q x e' st'
 |0,_,_,_,_,h,_,_=>absurd h (by omega)
 |n+1,k,e,st,W,hk,hI,hW=>by
  obtain⟨x,e1,st1,V,h1,h2,h3⟩:=step k e st hI;have hj:∀id∈Dj V W,Pw id:=fun id hid=>(Cm.1 hid).elim (h2 id) (hW id);unfold Iq;rw[h1];cases x with
  |norm=>obtain⟨k',h4,h5⟩:=h3;exact Aie I step n k' e1 st1 _ (by omega) h5 hj
  |exit id=>exact⟨_,_,_,_,rfl,hj,h3⟩
  |ret=>exact⟨_,_,_,_,rfl,hj,h3⟩
theorem Wq{b:Code}(I:Nat→Env→St→Prop)(k:Nat)(hk:k<N)(hI:I k e st)
  (step:∀k e st,I k e st→Mk C hh cf N Pw b e st (fun x e' st'=>match x with| .norm=>∃k',k'<k∧I k' e' st'|x=>Q x e' st')):Mk C hh cf N Pw (.loop b) e st Q:=
 ⟨Aie I (fun k e st h=>(step k e st h).ex) N k e st [] hk hI (by simp)⟩
theorem Axw(h:R e st):Adn C hh cf Pw ops [] e st R:=⟨fun W hW=>⟨e,st,W,rfl,hW,h⟩⟩
theorem Baz{i:Nat}{o:Oper}{v:D}{ids:Cb}(ho:ops[i]?=some o)(hw:Ct o ops e=some true)(hl:loud o=false)(hq:Af C.P hh o (ev e) st=some (v,.rd ids))
  (h:Adn C hh cf Pw ops l (Am e o.dst v) st R):Adn C hh cf Pw ops (i::l) e st R:=⟨fun W hW=>by
 obtain⟨e',st',V,h1,h2⟩:=h.ex W hW;refine⟨e',st',V,?_,h2⟩;unfold Ay;rw[ho];dsimp only;rw[hw];dsimp only;rw[hl,hq];simp only[BF];exact h1⟩
theorem A8d{i:Nat}{o:Oper}{v:D}{ob:Obj}(ho:ops[i]?=some o)(hw:Ct o ops e=some true)(hl:loud o=false)(hq:Af C.P hh o (ev e) st=some (v,.al ob))
  (h:Adn C hh cf Pw ops l (Am e o.dst v) (st++ [ob]) R):Adn C hh cf Pw ops (i::l) e st R:=⟨fun W hW=>by
 obtain⟨e',st',V,h1,h2⟩:=h.ex W hW;refine⟨e',st',V,?_,h2⟩;unfold Ay;rw[ho];dsimp only;rw[hw];dsimp only;rw[hl,hq];simp only[BF];exact h1⟩
theorem A3j{i:Nat}{o:Oper}(ho:ops[i]?=some o)(hw:Ct o ops e=some false)
  (h:Adn C hh cf Pw ops l (Am e o.dst (.tup [])) st R):Adn C hh cf Pw ops (i::l) e st R:=⟨fun W hW=>by
 obtain⟨e',st',V,h1,h2⟩:=h.ex W hW;refine⟨e',st',V,?_,h2⟩;unfold Ay;rw[ho];dsimp only;rw[hw];exact h1⟩
theorem Bct{i:Nat}{o:Oper}{v:D}{V:Cb}(ho:ops[i]?=some o)(hw:Ct o ops e=some true)(hl:loud o=true)(hs:Bj C hh cf o (ev e) st=some (v,st',V))(hV:∀id∈V,Pw id)
  (h:Adn C hh cf Pw ops l (Am e o.dst v) st' R):Adn C hh cf Pw ops (i::l) e st R:=⟨fun W hW=>by
 obtain⟨e',st2,V2,h1,h2⟩:=h.ex (Dj V W) (fun id hid=>(Cm.1 hid).elim (hV id) (hW id));refine⟨e',st2,V2,?_,h2⟩;unfold Ay;rw[ho];dsimp only;rw[hw];dsimp only;rw[hl,hs];simp only[Bool.false_and,BF,if_true];exact h1⟩
structure Ph(C:Eo)(hh:Bool)(cf:Ah)(Pw:Nat→Prop)(ops:Array Oper)(i:Nat)(e:Env)(st:St)(R:Env→St→Prop):Prop where
 ex:Adn C hh cf Pw ops (List.range' i (ops.size - i)) e st R
theorem Bi{id:Nat}(h:Ph C hh cf Pw ops 0 e st (fun e' st'=>Q .norm e' st')):Mk C hh cf N Pw (.region id ops false) e st Q:=by refine Ans ?_;rw[List.range_eq_range'];exact h.ex
theorem Bq{i:Nat}(hi:ops.size≤i)(h:R e st):Ph C hh cf Pw ops i e st R:=by
 refine⟨?_⟩;rw[show ops.size - i=0 from by omega]
 exact Axw h
theorem Wy{i:Nat}{o:Oper}(ho:ops[i]?=some o):List.range' i (ops.size - i)=i::List.range' (i+1) (ops.size - (i+1)):=by
 have:i<ops.size:=by obtain⟨h,_⟩:=Array.getElem?_eq_some_iff.1 ho;exact h
 rw[show ops.size - i=(ops.size - (i+1))+1 from by omega]
 rfl
theorem Ow{i:Nat}{o:Oper}{v:D}{ids:Cb}(ho':ops.toList[i]?=some o)(hw:Ct o ops e=some true)(hl:loud o=false)(hq:Af C.P hh o (ev e) st=some (v,.rd ids))
  (h:Ph C hh cf Pw ops (i+1) (Am e o.dst v) st R):Ph C hh cf Pw ops i e st R:=by
 have ho:ops[i]?=some o:=by rw[← Array.getElem?_toList];exact ho'
 refine⟨?_⟩;rw[Wy ho];exact Baz ho hw hl hq h.ex
theorem Ah0{i:Nat}{o:Oper}{v:D}{ob:Obj}(ho':ops.toList[i]?=some o)(hw:Ct o ops e=some true)(hl:loud o=false)(hq:Af C.P hh o (ev e) st=some (v,.al ob))
  (h:Ph C hh cf Pw ops (i+1) (Am e o.dst v) (st++ [ob]) R):Ph C hh cf Pw ops i e st R:=by
 have ho:ops[i]?=some o:=by rw[← Array.getElem?_toList];exact ho'
 refine⟨?_⟩;rw[Wy ho];exact A8d ho hw hl hq h.ex
theorem Aiy{i:Nat}{o:Oper}(ho':ops.toList[i]?=some o)(hw:Ct o ops e=some false)
  (h:Ph C hh cf Pw ops (i+1) (Am e o.dst (.tup [])) st R):Ph C hh cf Pw ops i e st R:=by
 have ho:ops[i]?=some o:=by rw[← Array.getElem?_toList];exact ho'
 refine⟨?_⟩;rw[Wy ho];exact A3j ho hw h.ex
theorem Ahx{i:Nat}{o:Oper}{v:D}{V:Cb}(ho':ops.toList[i]?=some o)(hw:Ct o ops e=some true)(hl:loud o=true)(hs:Bj C hh cf o (ev e) st=some (v,st',V))(hV:∀id∈V,Pw id)
  (h:Ph C hh cf Pw ops (i+1) (Am e o.dst v) st' R):Ph C hh cf Pw ops i e st R:=by
 have ho:ops[i]?=some o:=by rw[← Array.getElem?_toList];exact ho'
 refine⟨?_⟩;rw[Wy ho];exact Bct ho hw hl hs hV h.ex
theorem H7{o:Oper}(hg:o.guard=none):Ct o ops e=some true:=by unfold Ct;rw[hg]
theorem Aoc{o:Oper}{j:Nat}{w b:Bool}{p:Oper}{t:Tmp}(hg:o.guard=some (j,w))(hp':ops.toList[j]?=some p)(ht:p.dst=some t)(he:e.getD t .undef= .bool b):Ct o ops e=some (b == w):=by
 have hp:ops[j]?=some p:=by rw[← Array.getElem?_toList];exact hp'
 unfold Ct;rw[hg];dsimp only;rw[hp];simp only[Option.bind_some,ht];rw[List.getD_eq_getElem?_getD]at he;cases hx:e[t]? with
 |none=>rw[hx]at he;cases he
 |some v=>rw[hx]at he;cases he;rfl
theorem Avv{o:Oper}{j:Nat}{w:Bool}{p:Oper}{t:Tmp}(hg:o.guard=some (j,w))(hp':ops.toList[j]?=some p)(ht:p.dst=some t)(he:e.getD t .undef= .bool w):Ct o ops e=some true:=by rw[Aoc hg hp' ht he,beq_self_eq_true]
theorem Avc{o:Oper}{j:Nat}{w:Bool}{p:Oper}{t:Tmp}(hg:o.guard=some (j,w))(hp':ops.toList[j]?=some p)(ht:p.dst=some t)(he:e.getD t .undef= .bool (!w)):Ct o ops e=some false:=by rw[Aoc hg hp' ht he];cases w<;>rfl
theorem A9s{o:Oper}{j:Nat}{w:Bool}{p:Oper}{t:Tmp}(hg:o.guard=some (j,w))(hp':ops.toList[j]?=some p)(ht:p.dst=some t)(he:e.getD t .undef= .tup []):Ct o ops e=some false:=by
 have hp:ops[j]?=some p:=by rw[← Array.getElem?_toList];exact hp'
 unfold Ct;rw[hg];dsimp only;rw[hp];simp only[Option.bind_some,ht];rw[List.getD_eq_getElem?_getD]at he;cases hx:e[t]? with
 |none=>rw[hx]at he;cases he
 |some v=>rw[hx]at he;cases he;rfl
def VOk(Pw:Nat→Prop)(V:Cb)(P:Prop):Prop:=(∀id∈V,Pw id)∧P
theorem Zc{V:Cb}{P:Prop}(h:∀id∈V,Pw id)(h2:P):VOk Pw V P:=⟨h,h2⟩
structure Asq(C:Eo)(hh:Bool)(cf:Ah)(Pw:Nat→Prop)(ops:Array Oper)(i:Nat)(e:Env)(st:St)(R:Env→St→Prop):Prop where
 ex:(∀o,ops.toList[i]?=some o→Ct o ops e=some true)→Ph C hh cf Pw ops i e st R
theorem Eg{i:Nat}{o:Oper}(ho':ops.toList[i]?=some o)(hg:o.guard=none)(h:Asq C hh cf Pw ops i e st R):Ph C hh cf Pw ops i e st R:=
 h.ex (fun o' ho=>by obtain rfl:=Option.some.inj (ho'.symm.trans ho);exact H7 hg)
theorem Ee{i:Nat}{o:Oper}(ho':ops.toList[i]?=some o)(hl:loud o=false)
  (h:∃r,Af C.P hh o (ev e) st=some r∧match r with
   |(v,.rd _)=>Ph C hh cf Pw ops (i+1) (Am e o.dst v) st R
   |(v,.al ob)=>Ph C hh cf Pw ops (i+1) (Am e o.dst v) (st++ [ob]) R):Asq C hh cf Pw ops i e st R:=
 ⟨fun hw=>by
  obtain⟨⟨v,y⟩,hq,h⟩:=h;cases y with
  |rd ids=>exact Ow ho' (hw o ho') hl hq h
  |al ob=>exact Ah0 ho' (hw o ho') hl hq h⟩
theorem Ed{i:Nat}{o:Oper}(ho':ops.toList[i]?=some o)(hl:loud o=true)
  (h:∃r,Bj C hh cf o (ev e) st=some r∧match r with
   |(v,st',V)=>VOk Pw V (Ph C hh cf Pw ops (i+1) (Am e o.dst v) st' R)):Asq C hh cf Pw ops i e st R:=
 ⟨fun hw=>by obtain⟨⟨v,st',V⟩,hs,h⟩:=h;exact Ahx ho' (hw o ho') hl hs h.1 h.2⟩
theorem Ei{i:Nat}{o:Oper}{j:Nat}{w:Bool}{p:Oper}{t:Tmp}(ho':ops.toList[i]?=some o)(hg:o.guard=some (j,w))(hp':ops.toList[j]?=some p)(ht:p.dst=some t)
  (h:∃d,e.getD t .undef=d∧match d,w with
   | .bool true,true=>Asq C hh cf Pw ops i e st R
   | .bool false,false=>Asq C hh cf Pw ops i e st R
   | .bool true,false=>Ph C hh cf Pw ops (i+1) (Am e o.dst (.tup [])) st R
   | .bool false,true=>Ph C hh cf Pw ops (i+1) (Am e o.dst (.tup [])) st R
   | .tup [],_=>Ph C hh cf Pw ops (i+1) (Am e o.dst (.tup [])) st R
   |_,_=>False):Ph C hh cf Pw ops i e st R:=by
 obtain⟨d,he,h⟩:=h;have hT:∀hw:Ct o ops e=some true,Asq C hh cf Pw ops i e st R→Ph C hh cf Pw ops i e st R:=fun hw hT=>hT.ex (fun o' ho=>by obtain rfl:=Option.some.inj (ho'.symm.trans ho);exact hw)
 cases d with
 |bool b=>cases b<;>cases w<;>first|exact hT (Avv hg hp' ht he) h|exact Aiy ho' (Avc hg hp' ht he) h
 |tup l=>
  cases l with
  |nil=>exact Aiy ho' (A9s hg hp' ht he) h
  |cons=>cases w<;>exact h.elim
 |_=>cases w<;>exact h.elim
theorem Ec{c:Operand}{a b:Code}(h:∃d,ev e c=d∧match d with
  | .bool true=>Mk C hh cf N Pw a e st Q
  | .bool false=>Mk C hh cf N Pw b e st Q
  |_=>False):Mk C hh cf N Pw (.cond c a b) e st Q:=by
 obtain⟨d,hc,h⟩:=h;cases d with
 |bool b=>cases b<;>first|exact Alb hc h|exact Ze hc h
 |_=>exact h.elim
end
theorem BB:(∀(e:Env) (i j:Nat) (v:D),(e.set i v).getD j .undef=if i=j then(if i<e.length then v else .undef)else e.getD j .undef)∧(∀(α:Type) (e:List α) (i:Nat) (v:α),(e.set i v).length=e.length)∧(∀h:Decidable True,@decide True h=true)∧(∀h:Decidable False,@decide False h=false)∧(∀b:Bool,(true && b)=b)∧(∀b:Bool,(b && true)=b)∧((!true)=false)∧((!false)=true)∧(∀(α β:Type) (f:α→β) (a:α),(some a).map f=some (f a))∧(∀(α:Type) (a:α) (l:List α),(a::l)[0]?=some a)∧(∀(α:Type) (a:α) (l:List α) (i:Nat),(a::l)[i+1]?=l[i]?)∧(∀(α β:Type) (f:α→β) (a:α) (l:List α),(a::l).map f=f a::l.map f)∧(∀(α β:Type) (f:α→β),([]:List α).map f= []):=
 ⟨Cy,fun _ _ _ _=>List.length_set,fun _=>decide_true _,fun _=>decide_false _,Bool.true_and,Bool.and_true,rfl,rfl,fun _ _ _ _=>rfl,fun _ _ _=>rfl,fun _ _ _ _=>rfl,fun _ _ _ _ _=>rfl,fun _ _ _=>rfl⟩
end Go.Vam
set_option maxRecDepth 100000
namespace Go.Vam
open Go.Proofs Go.Proofs.Tryz Go.RowKit
def Cv:Code→List Code
 | .seq a b=>Cv a++Cv b
 | .cond _ a b=>Cv a++Cv b
 | .block _ a=>Cv a
 | .loop a=>a::Cv a
 |_=> []
noncomputable def Fz(i:Nat):Code:=(Cv (f127.body.getD .skip)).getD i .skip
theorem Apw:prog.underlying 35=some (.slice 9):=underlying35
theorem Zt:Bw prog 9=some 1:=by kernel_rfl
theorem Bgn:Jg prog 9=false:=by kernel_rfl
theorem An5:Bw prog 250=some 1:=by kernel_rfl
theorem A66:Jg prog 250=false:=by kernel_rfl
theorem Abc(d:Nat)(h:d<2 ^ 62):IntKind.wrap .i64 ((d:Int)+1)=((d+1:Nat):Int):=by show(if(true && decide ((((d:Int)+1) % 18446744073709551616)≥9223372036854775808))=true then _ else _)=_;simp[IntKind.bits];omega
structure Yw(st:St)(f:Nat)(o:Obj)(st':St):Prop where
 len:st'.length=st.length
 ne:∀id,id≠f→st'[id]?=st[id]?
 at_:st'[f]?=some o
theorem Yw.trans{st st1 st2:St}{f:Nat}{o o':Obj}(h:Yw st f o st1)(h':Yw st1 f o' st2):Yw st f o' st2:=
 ⟨h'.len.trans h.len,fun id hn=>(h'.ne id hn).trans (h.ne id hn),h'.at_⟩
theorem Yw.same{st:St}{f:Nat}{o:Obj}(h:st[f]?=some o):Yw st f o st:=⟨rfl,fun _ _=>rfl,h⟩
theorem Yw.set{st:St}{f:Nat}{o o':Obj}(h:st[f]?=some o'):Yw st f o (st.set f o):=
 ⟨by simp,fun id hn=>by rw[List.getElem?_set,if_neg (fun e=>hn e.symm)],by obtain⟨h1,_⟩:=List.getElem?_eq_some_iff.1 h;simp[h1]⟩
theorem Ash(i:Nat):E5 (.int .i64 (i:Int))=some i:=by unfold E5;simp
theorem A2q{rows:List (List D)}{gr:Gr}{i:Nat}{x:D}(h:rows[i]?=some [x]):Cf prog 35 (.sl rows gr) (.int .i64 (i:Int))=some (.eptr [x],.pure):=by unfold Cf;rw[Ash,Apw];dsimp only;rw[h];simp[Zt]
theorem ld9(x:D)(st:St):Fp prog 9 (.eptr [x]) st=some (x,.pure):=by unfold Fp Dk;simp[Zt,Bgn]
theorem Avf{st:St}{c:Nat}{x:D}(h:st[c]?=some (.cells [x])):Fp prog 250 (.ptr c 0) st=some (x,.rd [c]):=by unfold Fp Dk;simp[An5,A66,h]
set_option maxHeartbeats 4000000 in
theorem Atp(C:Eo)(hP:C.P=prog)(cf:Ah)(hh:Bool)(N:Nat)(e:Env)(st:St)(f c i:Nat)(rows:List (List D))(n x:List UInt8)(far:Lp)(t:Bool)(hl:e.length=119)
  (e5:e.getD 5 .undef= .ptr c 0)(e6:e.getD 6 .undef= .bool t)(e7:e.getD 7 .undef= .str n)(e34:e.getD 34 .undef= .sl rows .none)(e35:e.getD 35 .undef= .int .i64 (rows.length:Nat))(e36:e.getD 36 .undef= .int .i64 (i:Nat))
  (hi:rows[i]?=some [.str x])(hc:st[c]?=some (.cells [.map f]))(hf:st[f]?=some (.map (Gz far)))(hsm:rows.length<2 ^ 62)(hd:∀d,Cu x far=some d→d<2 ^ 62):
  Mk C hh cf N (fun id=>id=f) (Fz 2) e st (fun y e' st'=>y= .norm∧e'.length=119∧e'.getD 0 .undef=e.getD 0 .undef∧e'.getD 1 .undef=e.getD 1 .undef∧e'.getD 4 .undef=e.getD 4 .undef∧e'.getD 5 .undef= .ptr c 0∧e'.getD 6 .undef= .bool (F7 n x (far,t)).2∧e'.getD 7 .undef= .str n∧e'.getD 28 .undef=e.getD 28 .undef∧e'.getD 34 .undef= .sl rows .none∧e'.getD 35 .undef= .int .i64 (rows.length:Nat)∧e'.getD 36 .undef= .int .i64 ((i+1:Nat):Int)∧Yw st f (.map (Gz (F7 n x (far,t)).1)) st'):=by
 have hin:i<rows.length:=(List.getElem?_eq_some_iff.1 hi).1;have hw:=Abc i (by omega)
 have hil:(i:Int)<(rows.length:Int):=by omega
 refine Cs ?_;obtain⟨code,hcode⟩:∃code,code=strip (Fz 2):=⟨_,rfl⟩;rw[← hcode];simp only[Fz,f127,Cv,Option.getD,List.append,List.getD,GC,HAppend.hAppend,Append.append,strip,Dl,List.map_toArray,MC]at hcode;subst hcode;have h1:=A2q (gr:= .none) hi;have h2:=Avf hc;have hx:=Qo (x:=x) hf;have hn:=Qo (x:=n) hf;cases hgx:Cu x far with
 |none=>
  rw[hgx]at hx;dsimp only[getD']at hx;cases hgn:Cu n far with
  |none=>
   rw[hgn]at hn;dsimp only[getD']at hn;have hrel:F7 n x (far,t)=(far,t):=by unfold F7;simp[hgx]
   rw[hrel]
   repeat (first
    |refine Bp ?_|refine Bh ?_|refine Bi ?_|refine Ch ?_|refine Ce ?_|refine Bq (by decide) ?_|refine Eg rfl rfl ?_|refine Zc (by simp) ?_
    |((first|refine Ei rfl rfl rfl rfl ?_|refine Ee rfl rfl ?_|refine Ed rfl rfl ?_|refine Ec ?_);refine⟨_,by simp only[Af,ev,Am,Ak,Ag,Bo,hP,e5,e7,e34,e35,e36,hl,h1,h2,ld9,Ai,Op.intCmp,Op.intArith,hw,hil,hx,hn,Cy,List.length_set,↓reduceIte,Nat.reduceEqDiff,Nat.reduceLT,decide_true,Option.map_some,GC];first|done|rfl|exact hup,?_⟩)
    |dsimp only)
   refine⟨rfl,?_,?_,?_,?_,?_,?_,?_,?_,?_,?_,?_,?_⟩
   all_goals first|(simp only[Am,e5,e6,e7,e34,e35,hl,Cy,List.length_set,↓reduceIte,Nat.reduceEqDiff,Nat.reduceLT];done)|skip
   exact Yw.same hf
  |some w=>
   rw[hgn]at hn;dsimp only[getD']at hn;have hrel:F7 n x (far,t)=(far,t):=by unfold F7;simp[hgx]
   rw[hrel]
   repeat (first
    |refine Bp ?_|refine Bh ?_|refine Bi ?_|refine Ch ?_|refine Ce ?_|refine Bq (by decide) ?_|refine Eg rfl rfl ?_|refine Zc (by simp) ?_
    |((first|refine Ei rfl rfl rfl rfl ?_|refine Ee rfl rfl ?_|refine Ed rfl rfl ?_|refine Ec ?_);refine⟨_,by simp only[Af,ev,Am,Ak,Ag,Bo,hP,e5,e7,e34,e35,e36,hl,h1,h2,ld9,Ai,Op.intCmp,Op.intArith,hw,hil,hx,hn,Cy,List.length_set,↓reduceIte,Nat.reduceEqDiff,Nat.reduceLT,decide_true,Option.map_some,GC];first|done|rfl|exact hup,?_⟩)
    |dsimp only)
   refine⟨rfl,?_,?_,?_,?_,?_,?_,?_,?_,?_,?_,?_,?_⟩
   all_goals first|(simp only[Am,e5,e6,e7,e34,e35,hl,Cy,List.length_set,↓reduceIte,Nat.reduceEqDiff,Nat.reduceLT];done)|skip
   exact Yw.same hf
 |some d=>
  rw[hgx]at hx;dsimp only[getD']at hx;have hd1:=Abc d (hd d hgx);cases hgn:Cu n far with
  |none=>
   rw[hgn]at hn;dsimp only[getD']at hn;have hup:=Vi (x:=n) (d:=d+1) hf;have hrel:F7 n x (far,t)=(Lh n (d+1) far,true):=by unfold F7;simp[hgx,hgn]
   rw[hrel]
   repeat (first
    |refine Bp ?_|refine Bh ?_|refine Bi ?_|refine Ch ?_|refine Ce ?_|refine Bq (by decide) ?_|refine Eg rfl rfl ?_|refine Zc (by simp) ?_
    |((first|refine Ei rfl rfl rfl rfl ?_|refine Ee rfl rfl ?_|refine Ed rfl rfl ?_|refine Ec ?_);refine⟨_,by simp only[Bj,Af,ev,Am,Ak,Ag,Bo,Gc,hP,e5,e7,e34,e35,e36,hl,h1,h2,ld9,Ai,Op.intCmp,Op.intArith,hw,hil,hd1,hx,hn,Cy,List.length_set,↓reduceIte,Nat.reduceEqDiff,Nat.reduceLT,decide_true,Bool.not_false,Option.map_some,GC];first|done|rfl|exact hup,?_⟩)
    |dsimp only)
   refine⟨rfl,?_,?_,?_,?_,?_,?_,?_,?_,?_,?_,?_,?_⟩
   all_goals first|(simp only[Am,e5,e7,e34,e35,hl,Cy,List.length_set,↓reduceIte,Nat.reduceEqDiff,Nat.reduceLT];done)|skip
   exact Yw.set hf
  |some w=>
   rw[hgn]at hn;dsimp only[getD']at hn;by_cases hlt:d+1<w
   ·have hlt':((d+1:Nat):Int)<(w:Int):=by omega
    have hlt2:decide (((d+1:Nat):Int)<(w:Int))=true:=by simpa using hlt'
    have hup:=Vi (x:=n) (d:=d+1) hf;have hrel:F7 n x (far,t)=(Lh n (d+1) far,true):=by unfold F7;simp[hgx,hgn,hlt]
    rw[hrel]
    repeat (first
     |refine Bp ?_|refine Bh ?_|refine Bi ?_|refine Ch ?_|refine Ce ?_|refine Bq (by decide) ?_|refine Eg rfl rfl ?_|refine Zc (by simp) ?_
     |((first|refine Ei rfl rfl rfl rfl ?_|refine Ee rfl rfl ?_|refine Ed rfl rfl ?_|refine Ec ?_);refine⟨_,by simp only[Bj,Af,ev,Am,Ak,Ag,Bo,Gc,hP,e5,e7,e34,e35,e36,hl,h1,h2,ld9,Ai,Op.intCmp,Op.intArith,hw,hil,hd1,hlt2,hx,hn,Cy,List.length_set,↓reduceIte,Nat.reduceEqDiff,Nat.reduceLT,decide_true,Bool.not_true,Option.map_some,GC];first|done|rfl|exact hup,?_⟩)
     |dsimp only)
    refine⟨rfl,?_,?_,?_,?_,?_,?_,?_,?_,?_,?_,?_,?_⟩
    all_goals first|(simp only[Am,e5,e7,e34,e35,hl,Cy,List.length_set,↓reduceIte,Nat.reduceEqDiff,Nat.reduceLT];done)|skip
    exact Yw.set hf
   ·have hlt2:decide (((d+1:Nat):Int)<(w:Int))=false:=by simp;omega
    have hrel:F7 n x (far,t)=(far,t):=by unfold F7;simp[hgx,hgn,hlt]
    rw[hrel]
    repeat (first
     |refine Bp ?_|refine Bh ?_|refine Bi ?_|refine Ch ?_|refine Ce ?_|refine Bq (by decide) ?_|refine Eg rfl rfl ?_|refine Zc (by simp) ?_
     |((first|refine Ei rfl rfl rfl rfl ?_|refine Ee rfl rfl ?_|refine Ed rfl rfl ?_|refine Ec ?_);refine⟨_,by simp only[Af,ev,Am,Ak,Ag,Bo,Gc,hP,e5,e7,e34,e35,e36,hl,h1,h2,ld9,Ai,Op.intCmp,Op.intArith,hw,hil,hd1,hlt2,hx,hn,Cy,List.length_set,↓reduceIte,Nat.reduceEqDiff,Nat.reduceLT,decide_true,Bool.not_true,Option.map_some,GC];first|done|rfl|exact hup,?_⟩)
     |dsimp only)
    refine⟨rfl,?_,?_,?_,?_,?_,?_,?_,?_,?_,?_,?_,?_⟩
    all_goals first|(simp only[Am,e5,e6,e7,e34,e35,hl,Cy,List.length_set,↓reduceIte,Nat.reduceEqDiff,Nat.reduceLT];done)|skip
    exact Yw.same hf
structure Ie(e:Env)(m:Nat)(src:List UInt8)(c:Nat)(t:Bool)(idR:D):Prop where
 len:e.length=119
 e0:e.getD 0 .undef= .map m
 e1:e.getD 1 .undef= .str src
 e5:e.getD 5 .undef= .ptr c 0
 e6:e.getD 6 .undef= .bool t
 e28:e.getD 28 .undef=idR
theorem A8l(C:Eo)(hP:C.P=prog)(cf:Ah)(hh:Bool)(N:Nat)(Pw:Nat→Prop)(e:Env)(st:St)(k:Nat)(hl:e.length=119)(e35:e.getD 35 .undef= .int .i64 (k:Nat))(e36:e.getD 36 .undef= .int .i64 (k:Nat)):
  Mk C hh cf N Pw (Fz 2) e st (fun y e' st'=>y= .exit 4∧e'=e.set 37 (.bool false)∧st'=st):=by
 have hil:¬ (k:Int)<(k:Int):=by omega
 refine Cs ?_;obtain⟨code,hcode⟩:∃code,code=strip (Fz 2):=⟨_,rfl⟩;rw[← hcode];simp only[Fz,f127,Cv,Option.getD,List.append,List.getD,GC,HAppend.hAppend,Append.append,strip,Dl,List.map_toArray,MC]at hcode;subst hcode;refine Bp ?_;refine Bi ?_;refine Ow rfl (H7 rfl) rfl (by simp only[Af,ev,Bo,e35,e36,Ai,Op.intCmp,hil,↓reduceIte,decide_false];rfl) ?_
 refine Bq (by decide) ?_
 dsimp only;refine Bp ?_;refine Ze (by simp only[ev,Am,Cy,↓reduceIte,hl];rfl) ?_
 refine Ce ?_;exact⟨rfl,rfl,rfl⟩
theorem As7(C:Eo)(hP:C.P=prog)(cf:Ah)(hh:Bool)(N:Nat){all:X9}{src:List UInt8}(hsz:all.length<2 ^ 62)(e:Env)(st:St)(m f c:Nat)(idR:D)(n:List UInt8)(ns:List (List UInt8))(far:Lp)(t:Bool)(hN:ns.length<N)
  (hE:Ie e m src c t idR)(e7:e.getD 7 .undef= .str n)(e34:e.getD 34 .undef= .sl (ns.map fun x=> [.str x]) .none)(e35:e.getD 35 .undef= .int .i64 (ns.length:Nat))(e36:e.getD 36 .undef= .int .i64 0)
  (hc:st[c]?=some (.cells [.map f]))(hf:st[f]?=some (.map (Gz far)))(hcf:c≠f)(hsm:ns.length<2 ^ 62)(hn:(n,ns)∈all)(hg:Good all src far):
  Mk C hh cf N (fun id=>id=f) (.block 4 (.loop (Fz 2))) e st (fun y e' st'=>y= .norm∧Ie e' m src c (H8 n ns (far,t)).2 idR∧Yw st f (.map (Gz (H8 n ns (far,t)).1)) st'):=by
 refine Bh ?_;refine Wq (fun k e' st'=>∃i s,k=ns.length - i∧i≤ns.length∧H8 n (ns.drop i) s=H8 n ns (far,t)∧Good all src s.1∧Ie e' m src c s.2 idR∧e'.getD 7 .undef= .str n∧e'.getD 34 .undef= .sl (ns.map fun x=> [.str x]) .none∧e'.getD 35 .undef= .int .i64 (ns.length:Nat)∧e'.getD 36 .undef= .int .i64 (i:Nat)∧Yw st f (.map (Gz s.1)) st') ns.length hN ⟨0,(far,t),rfl,Nat.zero_le _,rfl,hg,hE,e7,e34,e35,e36,Yw.same hf⟩ ?_;rintro k e' st' ⟨i,s,rfl,hi,hrel,hgs,hE',h7,h34,h35,h36,hst⟩;obtain⟨far1,t1⟩:=s;dsimp only at hgs hE' hst;rcases Nat.lt_or_ge i ns.length with hlt|hge
 ·obtain⟨x,hx⟩:∃x,ns[i]?=some x:=⟨_,List.getElem?_eq_getElem hlt⟩;have hxns:x∈ns:=List.mem_of_getElem? hx;have hdrop:ns.drop i=x::ns.drop (i+1):=by
   rw[List.drop_eq_getElem_cons hlt];congr 1;exact(List.getElem?_eq_some_iff.1 hx).2
  refine(Atp C hP cf hh N e' st' f c i (ns.map fun x=> [.str x]) n x far1 t1 hE'.len hE'.e5 hE'.e6 h7 h34 (by rw[List.length_map];exact h35) h36 (by rw[List.getElem?_map,hx];rfl)
   (by rw[hst.ne c hcf];exact hc) hst.at_ (by rw[List.length_map];exact hsm) (fun d hd=>by have:=hgs.small x d hd;omega)).mono ?_
  rintro y e2 st2 ⟨rfl,g1,g2,g3,g4,g5,g6,g7,g8,g9,g10,g11,g12⟩;refine⟨ns.length - (i+1),by omega,i+1,F7 n x (far1,t1),rfl,by omega,?_,(Z6 t1 hgs hn hxns).1,⟨g1,g2.trans hE'.e0,g3.trans hE'.e1,g5,g6,g8.trans hE'.e28⟩,g7,g9,by rw[List.length_map]at g10;exact g10,g11,hst.trans g12⟩
  rw[← hrel,hdrop];rfl
 ·have hin:i=ns.length:=by omega
  subst hin;refine(A8l C hP cf hh N _ e' st' ns.length hE'.len h35 h36).mono ?_;rintro y e2 st2 ⟨rfl,rfl,rfl⟩;have hr:(far1,t1)=H8 n ns (far,t):=by rw[← hrel,List.drop_length];rfl
  rw[← hr];refine⟨rfl,⟨?_,?_,?_,?_,?_,?_⟩,hst⟩
  ·rw[List.length_set];exact hE'.len
  all_goals rw[Cy,if_neg (by decide)]
  ·exact hE'.e0
  ·exact hE'.e1
  ·exact hE'.e5
  ·exact hE'.e6
  ·exact hE'.e28
noncomputable def Pb:Array Oper:=match Fz 1 with
 | .seq _ (.seq _ (.block _ (.seq (.region _ o _) _)))=>o
 |_=> #[]
noncomputable def Mv:Code:=match Fz 1 with
 | .seq _ (.seq _ (.block _ (.seq _ c)))=>c
 |_=> .skip
noncomputable def Acv:Array Oper:=match Mv with
 | .seq (.region _ o _) _=>o
 |_=> #[]
theorem Atj:Mv= .seq (.region 8 Acv false) (.block 4 (.loop (Fz 2))):=by kernel_rfl
theorem Aui{rows:List (List D)}{gr:Gr}{st:St}:Ny prog 35 (.sl rows gr) st=some (.int .i64 (rows.length:Nat),.pure):=by unfold Ny;rw[Apw]
theorem Atl(C:Eo)(hP:C.P=prog)(cf:Ah)(hh:Bool)(N:Nat){all:X9}{src:List UInt8}(hsz:all.length<2 ^ 62)(e:Env)(st:St)(m f c:Nat)(idR:D)(n:List UInt8)(ns:List (List UInt8))(far:Lp)(t:Bool)(hN:ns.length<N)
  (hE:Ie e m src c t idR)(hc:st[c]?=some (.cells [.map f]))(hf:st[f]?=some (.map (Gz far)))(hcf:c≠f)(hsm:ns.length<2 ^ 62)(hn:(n,ns)∈all)(hg:Good all src far):
  ∃e2,Ay C hh cf false Pb #[] [1,2,3,4] [] (Am (Am (Am e (some 29) (.tup [.bool true,.str n,.sl (ns.map fun x=> [.str x]) .none])) (some 30) (.bool true)) (some 31) (.tup [.str n,.sl (ns.map fun x=> [.str x]) .none])) st []=some (e2,st,[])∧Mk C hh cf N (fun id=>id=f) Mv e2 st (fun y e' st'=>y= .norm∧Ie e' m src c (H8 n ns (far,t)).2 idR∧Yw st f (.map (Gz (H8 n ns (far,t)).1)) st'):=by
 have hl:=hE.len;have e0:=hE.e0;have e1:=hE.e1;have e5:=hE.e5;have e6:=hE.e6;have e28:=hE.e28;refine⟨((((Am (Am (Am e (some 29) (.tup [.bool true,.str n,.sl (ns.map fun x=> [.str x]) .none])) (some 30) (.bool true)) (some 31) (.tup [.str n,.sl (ns.map fun x=> [.str x]) .none])).set 32 (.str n)).set 33 (.sl (ns.map fun x=> [.str x]) .none)).set 7 (.str n)).set 8 (.sl (ns.map fun x=> [.str x]) .none),?_,?_⟩
 ·rw[← Pf];obtain⟨code,hcode⟩:∃code,code=Pb.map Dl:=⟨_,rfl⟩;rw[← hcode];simp only[Pb,Fz,f127,Cv,Option.getD,List.append,List.getD,GC,HAppend.hAppend,Append.append,Dl,List.map_toArray,MC]at hcode;subst hcode;simp[Ay,Ct,loud,Af,ev,Am,Dy,hl]
 ·rw[Atj];refine Bp ?_;refine Cs ?_;obtain⟨code,hcode⟩:∃code,code=strip (.region 8 Acv false):=⟨_,rfl⟩;rw[← hcode];simp only[Acv,Mv,Fz,f127,Cv,Option.getD,List.append,List.getD,GC,HAppend.hAppend,Append.append,strip,Dl,List.map_toArray,MC]at hcode;subst hcode;refine Bi ?_;refine Ow rfl (H7 rfl) rfl (by simp only[Af,ev,Am,Cy,↓reduceIte,Nat.reduceLT,List.length_set,hl];rfl) ?_
  refine Ow rfl (H7 rfl) rfl (by simp only[Af,ev,Am,Cy,↓reduceIte,Nat.reduceLT,List.length_set,hl,Aj,MC,hP,Aui];rfl) ?_
  refine Ow rfl (H7 rfl) rfl (by simp only[Af,ev,Ak,Ag];rfl) ?_
  refine Bq (by decide) ?_
  dsimp only;refine As7 C hP cf hh N hsz _ st m f c idR n ns far t hN ⟨?_,?_,?_,?_,?_,?_⟩ ?_ ?_ ?_ ?_ hc hf hcf hsm hn hg
  all_goals simp only[Am,Cy,↓reduceIte,Nat.reduceEqDiff,Nat.reduceLT,List.length_set,hl,e0,e1,e5,e6,e28,List.length_map]
section
variable{C:Eo}{cf:Ah}{β:Nat→Nat→Option Value}{g0 g:G}{st0 st:St}{w0 w:World}{ds:List Deferred}{e:Env}{W:Cb}{a:Act}{hh:Bool}{N:Nat}{Pw:Nat→Prop}
theorem J6{c:Code}{R:Ex→Env→St→Prop}{Q:Exit→Act→World→Prop}(hX:Ctx C cf β)(hbase:g0.base=β)(hod:H6 (fun _=>none) c)(hA:At g0 st0 w0 ds e st W a w g)(h:Mk C hh cf N Pw c e st R)
  (hQ:∀x e' st' W' a' w' g',At g0 st0 w0 ds e' st' W' a' w' g'→(∀id∈W',id∈W∨Pw id)→R x e' st'→Q (Aha x) a' w'):c.wp C.P Q a w:=by
 obtain⟨x,e',st',V,h1,h2,h3⟩:=h.ex;refine Vp hX N c hod e st x e' st' V h1 Q a w g hA.sim hA.env (by rw[hA.step.mono.base];exact hbase) fun a' w' g' hA'=>?_
 rw[hA.defers]at hA';exact hQ x e' st' _ a' w' g' (hA.then hA') (fun id hid=>(Cm.1 hid).elim (fun h=> .inr (h2 id h)) .inl) h3
end
def Qi:Code→Bool
 | .region _ _ d=>!d
 | .seq a b=>Qi a && Qi b
 | .cond _ a b=>Qi a && Qi b
 | .block _ b=>Qi b
 | .loop b=>Qi b
 |_=>true
theorem Td:∀{c:Code},Qi c=true→H6 (fun _=>none) c:=by
 intro c;induction c with
 |region id ops d=>intro h hd;subst hd;cases h
 |seq a b iha ihb=>intro h;unfold Qi at h;rw[Bool.and_eq_true]at h;exact⟨iha h.1,ihb h.2⟩
 |cond c a b iha ihb=>intro h;unfold Qi at h;rw[Bool.and_eq_true]at h;exact⟨iha h.1,ihb h.2⟩
 |block id b ih=>exact fun h=>ih h
 |loop b ih=>exact fun h=>ih h
 |_=>exact fun _=>trivial
noncomputable def opB(l:Array Oper)(i:Nat):Oper:=l.getD i {dst:=none,op:= .move (.tmp 0),type:=0,pos:= "",after:= #[],guard:=none}
noncomputable def Ag5:Code:=match Fz 0 with
 | .seq a _=>a
 |_=> .skip
noncomputable def Aio:Code:=match Fz 0 with
 | .seq _ (.block _ (.seq a _))=>a
 |_=> .skip
noncomputable def Xw:Array Oper:=match Fz 0 with
 | .seq _ (.block _ (.seq _ (.seq (.region _ o _) _)))=>o
 |_=> #[]
noncomputable def Aj7:Array Oper:=match Fz 1 with
 | .seq (.region _ o _) _=>o
 |_=> #[]
theorem A7g:Fz 0= .seq Ag5 (.block 1 (.seq Aio (.seq (.region 5 #[opB Xw 0,opB Xw 1] false) (.block 2 (.loop (Fz 1)))))):=by kernel_rfl
theorem A86:Fz 1= .seq (.region 6 #[opB Aj7 0,opB Aj7 1] false) (.seq (.cond (.tmp 30) .skip (.exit 2)) (.block 3 (.seq (.region 7 Pb false) Mv))):=by kernel_rfl
structure Sto(st0 st:St)(f c:Nat)(far:Lp):Prop where
 old:∀id,id<st0.length→st[id]?=st0[id]?
 len:st0.length≤st.length
 c_:st[c]?=some (.cells [.map f])
 f_:st[f]?=some (.map (Gz far))
theorem Sto.at1{st0 st st':St}{f c:Nat}{far far':Lp}(h:Sto st0 st f c far)(h':Yw st f (.map (Gz far')) st')(hf:st0.length≤f)(hcf:c≠f):Sto st0 st' f c far':=
 ⟨fun id hid=>(h'.ne id (by omega)).trans (h.old id hid),by rw[h'.len];exact h.len,(h'.ne c hcf).trans h.c_,h'.at_⟩
theorem Sto.app{st0 st:St}{f c:Nat}{far:Lp}{o:Obj}(h:Sto st0 st f c far):Sto st0 (st++ [o]) f c far:=by
 have h1:∀{id:Nat} {x:Obj},st[id]?=some x→(st++ [o])[id]?=some x:=fun hx=>by rw[List.getElem?_append_left (List.getElem?_eq_some_iff.1 hx).1];exact hx
 exact⟨fun id hid=>by rw[List.getElem?_append_left (by have:=h.len;omega)];exact h.old id hid,by have:=h.len;simp;omega,h1 h.c_,h1 h.f_⟩
def Uw(all:X9):List (D × D):=all.map fun p=>(.str p.1,.sl (p.2.map fun x=> [.str x]) .none)
section
variable{C:Eo}{cf:Ah}{β:Nat→Nat→Option Value}{g0 g:G}{st0 st:St}{w0 w:World}{ds:List Deferred}{e:Env}{W:Cb}{a:Act}
theorem A4b(hP:C.P=prog)(hX:Ctx C cf β)(hbase:g0.base=β){all:X9}{src:List UInt8}(hsz:all.length<2 ^ 62)(hns:∀p∈all,p.2.length<2 ^ 62){m f c:Nat}(hm0:st0[m]?=some (.map (Uw all)))(hf0:st0.length≤f)(hc0:st0.length≤c)(hcf:c≠f)
  {cm:Nat}(hlm:g0.loc m=some cm){far:Lp}(hg:Good all src far)(hA:At g0 st0 w0 ds e st W a w g){idR:D}(hE:Ie e m src c false idR)(hS:Sto st0 st f c far)
  {Q:Exit→Act→World→Prop}(hQ:∀pre s e' st' W' a' w' g' idR,pre.Perm (List.range all.length)→Yq all src far pre s→Ie e' m src c s.2 idR→Sto st0 st' f c s.1→(∀id∈W',id∈W∨id=f)→At g0 st0 w0 ds e' st' W' a' w' g'→Q .normal a' w'):
  (Code.seq (.region 5 #[opB Xw 0,opB Xw 1] false) (.block 2 (.loop (Fz 1)))).wp C.P Q a w:=by
 have hml:m<st0.length:=(List.getElem?_eq_some_iff.1 hm0).1;have hevm:a.eval (.tmp 0)= .map (some cm):=by
  have h0:e[0]?=some (.map m):=by
   have h1:=hE.e0;rw[List.getD_eq_getElem?_getD]at h1;have h2:0<e.length:=by rw[hE.len];decide
   rw[List.getElem?_eq_getElem h2]at h1 ⊢;simpa using h1
  have hl:0<a.tmps.size:=by rw[hA.env.size,hE.len];decide
  have hv:=hA.env.at_ 0 _ _ h0 (Array.getElem?_eq_getElem hl);show a.tmps.getD 0 undef=_;rw[Array.getD_eq_getD_getElem?,Array.getElem?_eq_getElem hl];generalize a.tmps[0]=x at hv;cases hv with
  |map h=>rw[(hA.step.mono.loc m cm hlm).1]at h;cases h;rfl
 have hstm:st[m]?=some (.map (Uw all)):=(hS.old m hml).trans hm0;have hlg:g.loc m=some cm:=(hA.step.mono.loc m cm hlm).1;obtain⟨o,ho,hobj⟩:=hA.sim.obj _ _ hlg;rw[hstm]at ho;cases ho;obtain⟨M,k0,hM⟩:=hobj;refine wp_seq (wp_region ?_);show wpOps _ _ _ [0,1] _ _;have hsz0:a.tmps.size=119:=by rw[hA.env.size,hE.len]
 refine Gp (some 27) rfl (by kernel_rfl) (by kernel_rfl) (J7 (x:= .tmp 0) (.inl (by kernel_rfl))) ?_
 rw[hevm];have hA1:At g st w ds (Am e (some 27) (.map m)) st [] (a.put (some 27) (.map (some cm))) w g:=
  ⟨hA.sim,Step.refl _ _ _,Dx.refl _ _,G5 hA.env (.map hlg),by rw[Act.put_defers'];exact hA.defers,K.refl _ _⟩
 have hu:C.P.underlying 94=some (.map 9 35):=by rw[hP];exact underlying94
 refine Gp (some 28) rfl (by kernel_rfl) (by kernel_rfl) (r:= .pointer (some ⟨w.heap.size,0,none⟩)) (Aay (t:=94) (x:= .tmp 27) (by kernel_rfl) (by
  rw[eval_put,if_pos ⟨rfl,by rw[hsz0];omega⟩]
  exact Me hu hM.heap)) ?_
 obtain⟨g1,hA2',hloc,hno,hmono⟩:=hA1.range (dst:=some 28) (ob:= .mapIter (some cm) k0 #[] k0) rfl;have hmg:=hA2'.step.mono;have hA2:At g0 st0 w0 ds _ (st++ [.dead]) W _ _ g1:=hA.then hA2';clear hA2';generalize ha2:(a.put (some 27) (.map (some cm))).put (some 28) (.pointer (some ⟨w.heap.size,0,none⟩))=a2 at hA2 ⊢;clear ha2;have hcl:cm<w.heap.size:=(Array.getElem?_eq_some_iff.1 hM.heap).1;have hN:∃N,∀p∈all,p.2.length<N:=by refine⟨2 ^ 62,hns⟩
 obtain⟨N,hN⟩:=hN;show Code.wp _ _ _ _ _;rw[A86];have hesl:(Uw all).length=all.length:=by simp[Uw]
 refine Aoj (C:=C) (cf:=cf) hX hbase (hh:=true) (N:=N) (od:=fun _=>none) (tn:=29) (tc:=30) (te:=31) (ti:=28) (oe:=opB Pb 0) (ops2:=Pb) (body:=Mv) (l2:= [1,2,3,4]) (by kernel_rfl) (by kernel_rfl) (by kernel_rfl) (by kernel_rfl) (by kernel_rfl) (by kernel_rfl)
  (by kernel_rfl) (by kernel_rfl) (by kernel_rfl) (by kernel_rfl) (by kernel_rfl) (Td (by kernel_rfl)) (es:=Uw all) (m:=m) (idR:=st.length) (r:=w.heap.size) (c:=cm) (k0:=k0) (M:=M) (Pw:=fun id=>id=f)
  (I:=fun pre e' stx=>∃s,Yq all src far pre s∧Ie e' m src c s.2 (.ptr st.length 0)∧Sto st0 stx f c s.1) hA.step.size (fun h=>by omega) (by decide) (by decide) ?_ ?_ hA2 ?_ ?_ ?_
 ·rintro pre e' stx ⟨s,hps,hE',hS'⟩;refine⟨?_,by rw[hE'.len];decide,by rw[hE'.len];decide,by rw[hE'.len];decide⟩
  have h1:=hE'.e28;rw[List.getD_eq_getElem?_getD]at h1;have h2:28<e'.length:=by rw[hE'.len];decide
  rw[List.getElem?_eq_getElem h2]at h1 ⊢;simpa using h1
 ·rintro pre i k v e' stx ⟨s,hps,hE',hS'⟩ hmm hesi hip;obtain⟨p,hp,hpk⟩:∃p,all[i]?=some p∧(D.str p.1,D.sl (p.2.map fun x=> [.str x]) .none)=(k,v):=by
   unfold Uw at hesi;rw[List.getElem?_map]at hesi;cases hai:all[i]? with
   |none=>rw[hai]at hesi;cases hesi
   |some p=>rw[hai]at hesi;exact⟨p,rfl,by simpa using hesi⟩
  cases hpk;obtain⟨n,ns⟩:=p;obtain⟨far1,t1⟩:=s;have hmem:=List.mem_of_getElem? hp;obtain⟨e2,h1,h2⟩:=Atl C hP cf true N hsz e' stx m f c (.ptr st.length 0) n ns far1 t1 (hN _ hmem) hE' hS'.c_ hS'.f_ hcf (hns _ hmem) hmem hps.good;obtain⟨y,e3,Vy,V,h3,h4,rfl,h5,h6⟩:=h2.ex;refine⟨e2,stx,[],e3,Vy,V,h1,h3,⟨H8 n ns (far1,t1),hps.step hp,h5,hS'.at1 h6 hf0 hcf⟩,by simp,h4,?_⟩
  rw[(hS'.at1 h6 hf0 hcf).old m hml];exact hm0
 ·refine⟨(far,false),Yq.start hg,⟨?_,?_,?_,?_,?_,?_⟩,hS.app⟩
  ·simp only[Am,List.length_set];exact hE.len
  all_goals simp only[Am,Cy,↓reduceIte,Nat.reduceEqDiff,Nat.reduceLT,List.length_set,hE.len,hE.e0,hE.e1,hE.e5,hE.e6]
 ·refine⟨hloc,hno,World.alloc_heap_new w _,hmono m cm hlg,hS.app.old m hml |>.trans hm0,?_,hM.size,fun j e x h1 h2=>?_,hM.born,hM.lt⟩
  ·show(w.heap.push _)[cm]?=_;rw[Array.getElem?_push,if_neg (by omega)]
   exact hM.heap
  ·obtain⟨h3,h4⟩:=hM.at_ j e x h1 h2;exact⟨h3.mono hmg,h4.mono hmg⟩
 ·rintro pre e' stx W' a' w' g' hperm ⟨s,hps,hE',hS'⟩ hW hA';rw[hesl]at hperm;refine hQ pre s _ stx W' a' w' g' (.ptr st.length 0) hperm hps ⟨?_,?_,?_,?_,?_,?_⟩ hS' hW hA'
  ·simp only[Am,List.length_set];exact hE'.len
  all_goals simp only[Am,Cy,↓reduceIte,Nat.reduceEqDiff,hE'.e0,hE'.e1,hE'.e5,hE'.e6,hE'.e28]
theorem A1s{N:Nat}{hh:Bool}{Pw:Nat→Prop}(hP:C.P=prog){m c:Nat}{src:List UInt8}{idR:D}{t:Bool}(hE:Ie e m src c t idR):
  Mk C hh cf N Pw Ag5 e st (fun y e' st'=>y=(if t then .norm else .exit 0)∧Ie e' m src c t idR∧st'=st):=by
 have hl:=hE.len;have e6:=hE.e6;refine Cs ?_;obtain⟨code,hcode⟩:∃code,code=strip Ag5:=⟨_,rfl⟩;rw[← hcode];simp only[Ag5,Fz,f127,Cv,Option.getD,List.append,List.getD,List.getElem?_cons_zero,HAppend.hAppend,Append.append,strip,Dl,List.map_toArray,MC]at hcode;subst hcode;refine Bp ?_;refine Bi ?_;refine Ow rfl (H7 rfl) rfl (by simp only[Af,ev,e6];rfl) ?_
 refine Bq (by decide) ?_
 dsimp only;cases t with
 |true=>
  refine Alb (by simp only[ev,Am,Cy,↓reduceIte,hl];rfl) ?_
  refine Ch ?_;refine⟨rfl,⟨?_,?_,?_,?_,?_,?_⟩,rfl⟩
  ·simp only[Am,List.length_set];exact hE.len
  all_goals simp only[Am,Cy,↓reduceIte,Nat.reduceEqDiff,hE.e0,hE.e1,hE.e5,hE.e6,hE.e28]
 |false=>
  refine Ze (by simp only[ev,Am,Cy,↓reduceIte,hl];rfl) ?_
  refine Ce ?_;refine⟨rfl,⟨?_,?_,?_,?_,?_,?_⟩,rfl⟩
  ·simp only[Am,List.length_set];exact hE.len
  all_goals simp only[Am,Cy,↓reduceIte,Nat.reduceEqDiff,hE.e0,hE.e1,hE.e5,hE.e6,hE.e28]
theorem Baf{N:Nat}{hh:Bool}{Pw:Nat→Prop}(hP:C.P=prog){m c:Nat}{src:List UInt8}{idR:D}{t:Bool}(hE:Ie e m src c t idR):
  Mk C hh cf N Pw Aio e st (fun y e' st'=>y= .norm∧Ie e' m src c false idR∧st'=st):=by
 refine Cs ?_;obtain⟨code,hcode⟩:∃code,code=strip Aio:=⟨_,rfl⟩;rw[← hcode];simp only[Aio,Fz,f127,Cv,Option.getD,List.append,List.getD,List.getElem?_cons_zero,HAppend.hAppend,Append.append,strip,Dl,List.map_toArray,MC]at hcode;subst hcode;refine Bi ?_;refine Ow rfl (H7 rfl) rfl (by simp only[Af,ev,Ak,Ag];rfl) ?_
 refine Bq (by decide) ?_
 refine⟨rfl,⟨?_,?_,?_,?_,?_,?_⟩,rfl⟩
 ·simp only[Am,List.length_set];exact hE.len
 all_goals simp only[Am,Cy,↓reduceIte,Nat.reduceEqDiff,Nat.reduceLT,hE.len,hE.e0,hE.e1,hE.e5,hE.e28]
theorem Auy(hP:C.P=prog)(hX:Ctx C cf β)(hbase:g0.base=β){all:X9}{src:List UInt8}(hsz:all.length<2 ^ 62)(hns:∀p∈all,p.2.length<2 ^ 62){m f c:Nat}(hm0:st0[m]?=some (.map (Uw all)))(hf0:st0.length≤f)(hc0:st0.length≤c)(hcf:c≠f)
  {cm:Nat}(hlm:g0.loc m=some cm){Q:Exit→Act→World→Prop}
  (hQ:∀far e' st' W' a' w' g' idR,Good all src far→Closed all far→Ie e' m src c false idR→Sto st0 st' f c far→(∀id∈W',st0.length≤id)→At g0 st0 w0 ds e' st' W' a' w' g'→Q (.exit 0) a' w'):
  ∀(k:Nat) (far:Lp) (t:Bool) (e:Env) (st:St) (W:Cb) (a:Act) (w:World) (g:G) (idR:D),(if t then cost all far+1 else 0)=k→Good all src far→(t=false→Closed all far)→Ie e m src c t idR→Sto st0 st f c far→(∀id∈W,st0.length≤id)→At g0 st0 w0 ds e st W a w g→Yh C.P (Fz 0) Q a w:=by
 intro k;induction k using Nat.strongRecOn with
 |_ k ih=>
  intro far t e st W a w g idR hk hg hcl hE hS hW hA;refine Afm ?_;rw[A7g];refine wp_seq ?_;refine J6 hX hbase (Td (by kernel_rfl)) hA (A1s (N:=0) (hh:=true) (Pw:=fun _=>False) hP hE) ?_
  rintro x e1 st1 W1 a1 w1 g1 hA1 hW1 ⟨rfl,hE1,rfl⟩;have hW1':∀id∈W1,st0.length≤id:=fun id hid=>(hW1 id hid).elim (hW id) False.elim;cases t with
  |false=>exact hQ far e1 st1 W1 a1 w1 g1 idR hg (hcl rfl) hE1 hS hW1' hA1
  |true=>
   show Code.wp _ _ _ _ _;refine wp_block (wp_seq ?_);refine J6 hX hbase (Td (by kernel_rfl)) hA1 (Baf (N:=0) (hh:=true) (Pw:=fun _=>False) hP hE1) ?_
   rintro x e2 st2 W2 a2 w2 g2 hA2 hW2 ⟨rfl,hE2,rfl⟩;have hW2':∀id∈W2,st0.length≤id:=fun id hid=>(hW2 id hid).elim (hW1' id) False.elim;show Code.wp _ _ _ _ _;refine A4b hP hX hbase hsz hns hm0 hf0 hc0 hcf hlm hg hA2 hE2 hS ?_;rintro pre ⟨far3,t3⟩ e3 Vy W3 a3 w3 g3 idR3 hperm hps hE3 hS3 hW3 hA3;have hW3':∀id∈W3,st0.length≤id:=fun id hid=>(hW3 id hid).elim (hW2' id) (fun h=>by rw[h];exact hf0)
   show Yh _ _ _ _ _;refine ih (if t3 then cost all far3+1 else 0) ?_ far3 t3 e3 Vy W3 a3 w3 g3 idR3 rfl hps.good ?_ hE3 hS3 hW3' hA3
   ·subst hk;cases t3 with
    |false=>simp
    |true=>
     rcases hps.what with⟨h1,_⟩|⟨_,h1⟩
     ·cases h1
     ·simpa using h1
   ·rintro rfl;exact(hps.closed hperm).2
end
noncomputable def Ahq:Code:=match f127.body with
 |some (.seq a _)=>a
 |_=> .skip
noncomputable def Ah7:Code:=match f127.body with
 |some (.seq _ (.seq a _))=>a
 |_=> .skip
noncomputable def Ahl:Code:=match f127.body with
 |some (.seq _ (.seq _ (.seq (.seq a _) _)))=>a
 |_=> .skip
noncomputable def V9:Code:=match f127.body with
 |some (.seq _ (.seq _ (.seq _ (.seq a _))))=>a
 |_=> .skip
noncomputable def X4:Code:=match f127.body with
 |some (.seq _ (.seq _ (.seq _ (.seq _ (.seq (.seq a _) _)))))=>a
 |_=> .skip
noncomputable def P9:Code:=match f127.body with
 |some (.seq _ (.seq _ (.seq _ (.seq _ (.seq _ (.seq a _))))))=>a
 |_=> .skip
noncomputable def W9:Code:=match f127.body with
 |some (.seq _ (.seq _ (.seq _ (.seq _ (.seq _ (.seq _ (.seq a _)))))))=>a
 |_=> .skip
noncomputable def Xe:Code:=match f127.body with
 |some (.seq _ (.seq _ (.seq _ (.seq _ (.seq _ (.seq _ (.seq _ (.seq (.seq a _) _))))))))=>a
 |_=> .skip
noncomputable def Wu:Code:=match f127.body with
 |some (.seq _ (.seq _ (.seq _ (.seq _ (.seq _ (.seq _ (.seq _ (.seq _ a))))))))=>a
 |_=> .skip
theorem Ayc:f127.body=some (.seq Ahq (.seq Ah7 (.seq (.seq Ahl (.block 0 (.loop (Fz 0)))) (.seq V9 (.seq (.seq X4 (.block 6 (.loop (Fz 3)))) (.seq P9 (.seq W9 (.seq (.seq Xe (.block 8 (.loop (Fz 4)))) Wu)))))))):=by kernel_rfl
theorem Ar2:zeroOf prog 250=some [.nilmap]:=by kernel_rfl
theorem A2m:zeroOf prog 3=some [.int .i64 0]:=by kernel_rfl
theorem A6a:Bw prog 3=some 1:=by kernel_rfl
theorem Bhh:Jg prog 3=false:=by kernel_rfl
theorem Bed{st:St}{c:Nat}{x y:D}(h:st[c]?=some (.cells [x]))(hy:Al y=true):I4 prog 250 (.ptr c 0) y st=some (.undef,st.set c (.cells [y]),[c]):=by
 have hcs:y.cells= [y]:=by cases y<;>first|rfl|cases hy
 unfold I4;simp[h,An5,hcs,hy]
theorem Vy{st:St}{c:Nat}{x y:D}(h:st[c]?=some (.cells [x]))(hy:Al y=true):I4 prog 3 (.ptr c 0) y st=some (.undef,st.set c (.cells [y]),[c]):=by
 have hcs:y.cells= [y]:=by cases y<;>first|rfl|cases hy
 unfold I4;simp[h,A6a,hcs,hy]
theorem ld3{st:St}{c:Nat}{x:D}(h:st[c]?=some (.cells [x])):Fp prog 3 (.ptr c 0) st=some (x,.rd [c]):=by unfold Fp Dk;simp[A6a,Bhh,h]
section
variable{C:Eo}{cf:Ah}{st:St}{e:Env}{hh:Bool}{N:Nat}
theorem Avu{Pw:Nat→Prop}(hP:C.P=prog){m:Nat}{src:List UInt8}(he:e= [.map m,.str src]++List.replicate 117 .undef):
  Mk C hh cf N Pw Ahq e st (fun y e' st'=>y= .norm∧e'.length=119∧e'.getD 0 .undef= .map m∧e'.getD 1 .undef= .str src∧e'.getD 28 .undef= .undef∧st'=st):=by
 have hl:e.length=119:=by rw[he];rfl
 have e0:e.getD 0 .undef= .map m:=by rw[he];rfl
 have e1:e.getD 1 .undef= .str src:=by rw[he];rfl
 have e28:e.getD 28 .undef= .undef:=by rw[he];rfl
 clear he;refine Cs ?_;obtain⟨code,hcode⟩:∃code,code=strip Ahq:=⟨_,rfl⟩;rw[← hcode];simp only[Ahq,f127,List.append,strip,Dl,List.map_toArray,MC]at hcode;subst hcode
 repeat (first
  |refine Bp ?_|refine Bh ?_|refine Bi ?_|refine Ch ?_|refine Ce ?_|refine D9 ?_|refine Bq (by decide) ?_|refine Eg rfl rfl ?_|refine Zc (by first|exact hupV|simp) ?_
  |((first|refine Ei rfl rfl rfl rfl ?_|refine Ee rfl rfl ?_|refine Ed rfl rfl ?_|refine Ec ?_);refine⟨_,by simp only[BB,Af,ev,Ak,Ag,↓reduceIte];first|done|rfl|exact hup,?_⟩)
  |dsimp only)
 refine⟨rfl,?_,?_,?_,?_,rfl⟩
 ·simp only[Am,List.length_set];exact hl
 all_goals simp only[BB,Am,↓reduceIte,Nat.reduceEqDiff,e0,e1,e28]
theorem Axs(hP:C.P=prog){m:Nat}{src:List UInt8}(hl:e.length=119)(e0:e.getD 0 .undef= .map m)(e1:e.getD 1 .undef= .str src)(e28:e.getD 28 .undef= .undef):
  Mk C hh cf N (fun id=>st.length≤id) Ah7 e st (fun y e' st'=>y= .norm∧e'.length=119∧e'.getD 0 .undef= .map m∧e'.getD 1 .undef= .str src∧e'.getD 28 .undef= .undef∧e'.getD 5 .undef= .ptr (st.length+1) 0∧Sto st st' st.length (st.length+1) [(src,0)]):=by
 refine Cs ?_;obtain⟨code,hcode⟩:∃code,code=strip Ah7:=⟨_,rfl⟩;rw[← hcode];simp only[Ah7,f127,List.append,strip,Dl,List.map_toArray,MC]at hcode;subst hcode;refine Bi ?_;refine Ah0 rfl (H7 rfl) rfl (by simp only[Af];rfl) ?_
 refine Ow rfl (H7 rfl) rfl (by simp only[BB,Af,ev,Am,↓reduceIte,Nat.reduceEqDiff,e1];rfl) ?_
 have h1:(st++ [Obj.map []])[st.length]?=some (.map (Gz [])):=by simp[Gz]
 have hup:=Vi (x:=src) (d:=0) h1;refine Ahx rfl (H7 rfl) rfl (by simp only[Bj];simp only[BB,ev,Am,Ak,Ag,hP,↓reduceIte,Nat.reduceEqDiff,Nat.reduceLT,hl];exact hup) (by simp) ?_
 generalize hst1:(st++ [Obj.map []]).set st.length (.map (Gz (Lh src 0 [])))=st1;have hst1':st1=st++ [.map (Gz [(src,0)])]:=by rw[← hst1];simp[Lh]
 have hln:st1.length=st.length+1:=by rw[hst1'];simp
 refine Ow rfl (H7 rfl) rfl (by simp only[BB,Af,ev,Am,↓reduceIte,Nat.reduceEqDiff,Nat.reduceLT,hl];rfl) ?_
 refine Ah0 rfl (H7 rfl) rfl (by simp only[BB,Af,hP,Ar2];rfl) ?_
 have h2:(st1++ [Obj.cells [.nilmap]])[st1.length]?=some (.cells [.nilmap]):=by simp
 have hup2:=Bed h2 (y:= .map st.length) rfl;refine Ahx rfl (H7 rfl) rfl (by simp only[Bj];simp only[BB,ev,Am,hP,↓reduceIte,Nat.reduceEqDiff,Nat.reduceLT,hl];exact hup2) (by rw[hln];simp) ?_
 refine Bq (by decide) ?_
 have h3:(st1++ [Obj.cells [D.nilmap]]).set st1.length (.cells [.map st.length])=st++ [.map (Gz [(src,0)]),.cells [.map st.length]]:=by rw[hst1'];simp[]
 rw[h3];refine⟨rfl,?_,?_,?_,?_,?_,⟨fun id hid=>?_,?_,?_,?_⟩⟩
 ·simp only[Am,List.length_set];exact hl
 ·simp only[BB,Am,↓reduceIte,Nat.reduceEqDiff,e0]
 ·simp only[BB,Am,↓reduceIte,Nat.reduceEqDiff,e1]
 ·simp only[BB,Am,↓reduceIte,Nat.reduceEqDiff,e28]
 ·simp only[BB,Am,↓reduceIte,Nat.reduceLT,hl,hln]
 ·rw[List.getElem?_append_left hid]
 ·simp
 ·simp
 ·simp
theorem Avz{Pw:Nat→Prop}(hP:C.P=prog){m c:Nat}{src:List UInt8}(hl:e.length=119)(e0:e.getD 0 .undef= .map m)(e1:e.getD 1 .undef= .str src)(e28:e.getD 28 .undef= .undef)(e5:e.getD 5 .undef= .ptr c 0):
  Mk C hh cf N Pw Ahl e st (fun y e' st'=>y= .norm∧Ie e' m src c true .undef∧st'=st):=by
 refine Cs ?_;obtain⟨code,hcode⟩:∃code,code=strip Ahl:=⟨_,rfl⟩;rw[← hcode];simp only[Ahl,f127,List.append,strip,Dl,List.map_toArray,MC]at hcode;subst hcode
 repeat (first
  |refine Bp ?_|refine Bh ?_|refine Bi ?_|refine Ch ?_|refine Ce ?_|refine D9 ?_|refine Bq (by decide) ?_|refine Eg rfl rfl ?_|refine Zc (by first|exact hupV|simp) ?_
  |((first|refine Ei rfl rfl rfl rfl ?_|refine Ee rfl rfl ?_|refine Ed rfl rfl ?_|refine Ec ?_);refine⟨_,by simp only[Af,ev,Ak,Ag];first|done|rfl|exact hup,?_⟩)
  |dsimp only)
 refine⟨rfl,⟨?_,?_,?_,?_,?_,?_⟩,rfl⟩
 ·simp only[Am,List.length_set];exact hl
 all_goals simp only[BB,Am,↓reduceIte,Nat.reduceEqDiff,Nat.reduceLT,hl,e0,e1,e28,e5]
end
def Yb(x:List UInt8):X9→Option (List (List UInt8))
 | []=>none
 |p::l=>if p.1 == x then some p.2 else Yb x l
abbrev Cr(ns:List (List UInt8)):List (List D):=ns.map fun x=> [.str x]
theorem Bac:Aar prog 94=some (9,35):=by kernel_rfl
theorem Afq(x:List UInt8):∀(all:X9) (i:Nat) (ns:List (List UInt8)),Yb x all=some ns→∃j,Jc prog 9 (.str x) (Uw all) i=some (some (j,.sl (Cr ns) .none))
 | [],i,ns,h=>by cases h
 |p::l,i,ns,h=>by
  have hc:Uw (p::l)=(.str p.1,.sl (Cr p.2) .none)::Uw l:=rfl;rw[hc,Jc,Ao0];unfold Yb at h;by_cases hx:p.1=x
  ·subst hx;simp only[beq_self_eq_true,if_true]at h ⊢;cases h;exact⟨i,rfl⟩
  ·have h1:(x == p.1)=false:=by simpa using fun e=>hx e.symm
   have h2:(p.1 == x)=false:=by simpa using hx
   rw[h2]at h;rw[h1];exact Afq x l (i+1) ns (by simpa using h)
theorem Adg{st:St}{m:Nat}{all:X9}{x:List UInt8}{ns:List (List UInt8)}(h:st[m]?=some (.map (Uw all)))(hn:Yb x all=some ns):Io prog 94 (.map m) (.str x) false st=some (.sl (Cr ns) .none,.rd [m]):=by obtain⟨j,hj⟩:=Afq x all 0 ns hn;unfold Io;rw[Bac];simp only[Zf,if_true,h,hj];rfl
def K7(look:List UInt8→Option Nat)(b:Option Nat)(x:List UInt8):Option Nat:=match look x with
 |none=>b
 |some d=>match b with
  |none=>some d
  |some m=>if d<m then some d else some m
def G8:Option Nat→D
 |none=> .int .i64 (-1)
 |some d=> .int .i64 (d:Nat)
section
variable{C:Eo}{cf:Ah}{st:St}{e:Env}{hh:Bool}{N:Nat}
theorem Azu{Pw:Nat→Prop}(hP:C.P=prog)(hl:e.length=119){m c:Nat}{src:List UInt8}(e0:e.getD 0 .undef= .map m)(e1:e.getD 1 .undef= .str src)(e5:e.getD 5 .undef= .ptr c 0)(hPw:Pw st.length):
  Mk C hh cf N Pw V9 e st (fun y e' st'=>y= .norm∧e'.length=119∧e'.getD 0 .undef= .map m∧e'.getD 1 .undef= .str src∧e'.getD 5 .undef= .ptr c 0∧e'.getD 15 .undef= .ptr st.length 0∧st'=st++ [.cells [G8 none]]):=by
 refine Cs ?_;obtain⟨code,hcode⟩:∃code,code=strip V9:=⟨_,rfl⟩;rw[← hcode];simp only[V9,f127,List.append,strip,Dl,List.map_toArray,MC]at hcode;subst hcode;refine Bi ?_;refine Ah0 rfl (H7 rfl) rfl (by simp only[BB,Af,hP,A2m];rfl) ?_
 have h2:(st++ [Obj.cells [.int .i64 0]])[st.length]?=some (.cells [.int .i64 0]):=by simp
 have hup2:=Vy h2 (y:= .int .i64 (-1)) rfl;refine Ahx rfl (H7 rfl) rfl (by simp only[Bj];simp only[BB,ev,Am,Ak,Ag,hP,↓reduceIte,Nat.reduceLT,hl];exact hup2) (by simp;exact hPw) ?_
 refine Bq (by decide) ?_
 have h3:(st++ [Obj.cells [.int .i64 0]]).set st.length (.cells [.int .i64 (-1)])=st++ [.cells [G8 none]]:=by simp[G8]
 rw[h3];refine⟨rfl,?_,?_,?_,?_,?_,rfl⟩
 ·simp only[Am,List.length_set];exact hl
 all_goals simp only[BB,Am,↓reduceIte,Nat.reduceEqDiff,Nat.reduceLT,hl,e0,e1,e5]
theorem A0r{Pw:Nat→Prop}(hP:C.P=prog)(hl:e.length=119){m c b:Nat}{src:List UInt8}{all:X9}{ns:List (List UInt8)}(e0:e.getD 0 .undef= .map m)(e1:e.getD 1 .undef= .str src)(e5:e.getD 5 .undef= .ptr c 0)(e15:e.getD 15 .undef= .ptr b 0)
  (hm:st[m]?=some (.map (Uw all)))(hn:Yb src all=some ns):
  Mk C hh cf N Pw X4 e st (fun y e' st'=>y= .norm∧e'.length=119∧e'.getD 0 .undef= .map m∧e'.getD 1 .undef= .str src∧e'.getD 5 .undef= .ptr c 0∧e'.getD 15 .undef= .ptr b 0∧e'.getD 70 .undef= .sl (Cr ns) .none∧e'.getD 71 .undef= .int .i64 (ns.length:Nat)∧e'.getD 72 .undef= .int .i64 0∧st'=st):=by
 have hx:=Adg hm hn;have hlen:(Cr ns).length=ns.length:=by simp[Cr]
 refine Cs ?_;obtain⟨code,hcode⟩:∃code,code=strip X4:=⟨_,rfl⟩;rw[← hcode];simp only[X4,f127,List.append,strip,Dl,List.map_toArray,MC]at hcode;subst hcode
 repeat (first
  |refine Bp ?_|refine Bh ?_|refine Bi ?_|refine Ch ?_|refine Ce ?_|refine D9 ?_|refine Bq (by decide) ?_|refine Eg rfl rfl ?_|refine Zc (by first|exact hupV|simp) ?_
  |((first|refine Ei rfl rfl rfl rfl ?_|refine Ee rfl rfl ?_|refine Ed rfl rfl ?_|refine Ec ?_);refine⟨_,by simp only[BB,Af,ev,Am,Ak,Ag,hP,↓reduceIte,Nat.reduceEqDiff,Nat.reduceLT,Aj,hl,e0,e1,hx,Aui];first|done|rfl|exact hup,?_⟩)
  |dsimp only)
 refine⟨rfl,?_,?_,?_,?_,?_,?_,?_,?_,rfl⟩
 ·simp only[Am,List.length_set];exact hl
 all_goals simp only[BB,Am,↓reduceIte,Nat.reduceEqDiff,Nat.reduceLT,hl,e0,e1,e5,e15,hlen]
set_option maxHeartbeats 4000000 in
theorem Bba(hP:C.P=prog)(hl:e.length=119){m c b f i:Nat}{src x:List UInt8}{far:Lp}{best:Option Nat}{rows:List (List D)}{k:Nat}(e0:e.getD 0 .undef= .map m)(e1:e.getD 1 .undef= .str src)(e5:e.getD 5 .undef= .ptr c 0)(e15:e.getD 15 .undef= .ptr b 0)
  (e70:e.getD 70 .undef= .sl rows .none)(e71:e.getD 71 .undef= .int .i64 (k:Nat))(e72:e.getD 72 .undef= .int .i64 (i:Nat))(hk:k<2 ^ 62)(hik:i<k)
  (hi:rows[i]?=some [.str x])(hc:st[c]?=some (.cells [.map f]))(hf:st[f]?=some (.map (Gz far)))(hb:st[b]?=some (.cells [G8 best])):
  Mk C hh cf N (fun id=>id=b) (Fz 3) e st (fun y e' st'=>y= .norm∧e'.length=119∧e'.getD 0 .undef= .map m∧e'.getD 1 .undef= .str src∧e'.getD 5 .undef= .ptr c 0∧e'.getD 15 .undef= .ptr b 0∧e'.getD 70 .undef= .sl rows .none∧e'.getD 71 .undef= .int .i64 (k:Nat)∧e'.getD 72 .undef= .int .i64 ((i+1:Nat):Int)∧Yw st b (.cells [G8 (K7 (Cu · far) best x)]) st'):=by
 have hw:=Abc i (by omega)
 have hil:(i:Int)<(k:Int):=by omega
 have h1:=A2q (gr:= .none) hi;have h2:=Avf hc;have h3:=ld3 hb;have hx:=Qo (x:=x) hf;refine Cs ?_;obtain⟨code,hcode⟩:∃code,code=strip (Fz 3):=⟨_,rfl⟩;rw[← hcode];simp only[Fz,f127,Cv,Option.getD,List.append,List.getD,GC,HAppend.hAppend,Append.append,strip,Dl,List.map_toArray,MC]at hcode;subst hcode;cases hgx:Cu x far with
 |none=>
  rw[hgx]at hx;dsimp only[getD']at hx;have hrel:K7 (Cu · far) best x=best:=by unfold K7;simp[hgx]
  rw[hrel]
  repeat (first
   |refine Bp ?_|refine Bh ?_|refine Bi ?_|refine Ch ?_|refine Ce ?_|refine D9 ?_|refine Bq (by decide) ?_|refine Eg rfl rfl ?_|refine Zc (by first|exact hupV|simp) ?_
   |((first|refine Ei rfl rfl rfl rfl ?_|refine Ee rfl rfl ?_|refine Ed rfl rfl ?_|refine Ec ?_);refine⟨_,by simp only[BB,Af,ev,Am,Ak,Ag,Bo,hP,Ai,Op.intCmp,Op.intArith,↓reduceIte,Nat.reduceEqDiff,Nat.reduceLT,hl,e5,e70,e71,e72,h1,h2,ld9,hw,hil,hx];first|done|rfl|exact hup,?_⟩)
   |dsimp only)
  refine⟨rfl,?_,?_,?_,?_,?_,?_,?_,?_,Yw.same hb⟩
  ·simp only[Am,List.length_set];exact hl
  all_goals simp only[BB,Am,↓reduceIte,Nat.reduceEqDiff,Nat.reduceLT,hl,e0,e1,e5,e15,e70,e71]
 |some d=>
  rw[hgx]at hx;dsimp only[getD']at hx;cases best with
  |none=>
   have hrel:K7 (Cu · far) none x=some d:=by unfold K7;simp[hgx]
   rw[hrel];dsimp only[G8]at h3 hb;have hup:=Vy hb (y:=G8 (some d)) rfl;dsimp only[G8]at hup;have hneg:(-1:Int)<0:=by decide
   repeat (first
    |refine Bp ?_|refine Bh ?_|refine Bi ?_|refine Ch ?_|refine Ce ?_|refine D9 ?_|refine Bq (by decide) ?_|refine Eg rfl rfl ?_|refine Zc (by first|exact hupV|simp) ?_
    |((first|refine Ei rfl rfl rfl rfl ?_|refine Ee rfl rfl ?_|refine Ed rfl rfl ?_|refine Ec ?_);refine⟨_,by simp only[Bj,BB,Af,ev,Am,Ak,Ag,Bo,hP,Ai,Op.intCmp,Op.intArith,↓reduceIte,Nat.reduceEqDiff,Nat.reduceLT,hl,e5,e15,e70,e71,e72,h1,h2,h3,ld9,hw,hil,hx,hneg];first|done|rfl|exact hup,?_⟩)
    |dsimp only)
   refine⟨rfl,?_,?_,?_,?_,?_,?_,?_,?_,Yw.set hb⟩
   ·simp only[Am,List.length_set];exact hl
   all_goals simp only[BB,Am,↓reduceIte,Nat.reduceEqDiff,Nat.reduceLT,hl,e0,e1,e5,e15,e70,e71]
  |some q=>
   dsimp only[G8]at h3 hb;have hneg:decide (((q:Nat):Int)<0)=false:=by simp
   by_cases hlt:d<q
   ·have hrel:K7 (Cu · far) (some q) x=some d:=by unfold K7;simp[hgx,hlt]
    rw[hrel];have hup:=Vy hb (y:=G8 (some d)) rfl;dsimp only[G8]at hup;have hlt2:decide ((d:Int)<(q:Int))=true:=by simpa using hlt
    repeat (first
     |refine Bp ?_|refine Bh ?_|refine Bi ?_|refine Ch ?_|refine Ce ?_|refine D9 ?_|refine Bq (by decide) ?_|refine Eg rfl rfl ?_|refine Zc (by first|exact hupV|simp) ?_
     |((first|refine Ei rfl rfl rfl rfl ?_|refine Ee rfl rfl ?_|refine Ed rfl rfl ?_|refine Ec ?_);refine⟨_,by simp only[Bj,BB,Af,ev,Am,Ak,Ag,Bo,hP,Ai,Op.intCmp,Op.intArith,↓reduceIte,Nat.reduceEqDiff,Nat.reduceLT,hl,e5,e15,e70,e71,e72,h1,h2,h3,ld9,hw,hil,hx,hneg,hlt2];first|done|rfl|exact hup,?_⟩)
     |dsimp only)
    refine⟨rfl,?_,?_,?_,?_,?_,?_,?_,?_,Yw.set hb⟩
    ·simp only[Am,List.length_set];exact hl
    all_goals simp only[BB,Am,↓reduceIte,Nat.reduceEqDiff,Nat.reduceLT,hl,e0,e1,e5,e15,e70,e71]
   ·have hrel:K7 (Cu · far) (some q) x=some q:=by unfold K7;simp[hgx,hlt]
    rw[hrel];have hlt2:decide ((d:Int)<(q:Int))=false:=by simp;omega
    repeat (first
     |refine Bp ?_|refine Bh ?_|refine Bi ?_|refine Ch ?_|refine Ce ?_|refine D9 ?_|refine Bq (by decide) ?_|refine Eg rfl rfl ?_|refine Zc (by first|exact hupV|simp) ?_
     |((first|refine Ei rfl rfl rfl rfl ?_|refine Ee rfl rfl ?_|refine Ed rfl rfl ?_|refine Ec ?_);refine⟨_,by simp only[BB,Af,ev,Am,Ak,Ag,Bo,hP,Ai,Op.intCmp,Op.intArith,↓reduceIte,Nat.reduceEqDiff,Nat.reduceLT,hl,e5,e15,e70,e71,e72,h1,h2,h3,ld9,hw,hil,hx,hneg,hlt2];first|done|rfl|exact hup,?_⟩)
     |dsimp only)
    refine⟨rfl,?_,?_,?_,?_,?_,?_,?_,?_,Yw.same hb⟩
    ·simp only[Am,List.length_set];exact hl
    all_goals simp only[BB,Am,↓reduceIte,Nat.reduceEqDiff,Nat.reduceLT,hl,e0,e1,e5,e15,e70,e71]
theorem Bie{Pw:Nat→Prop}(hP:C.P=prog)(hl:e.length=119){k:Nat}(e71:e.getD 71 .undef= .int .i64 (k:Nat))(e72:e.getD 72 .undef= .int .i64 (k:Nat)):
  Mk C hh cf N Pw (Fz 3) e st (fun y e' st'=>y= .exit 6∧e'=e.set 73 (.bool false)∧st'=st):=by
 have hil:¬ (k:Int)<(k:Int):=by omega
 refine Cs ?_;obtain⟨code,hcode⟩:∃code,code=strip (Fz 3):=⟨_,rfl⟩;rw[← hcode];simp only[Fz,f127,Cv,Option.getD,List.append,List.getD,GC,HAppend.hAppend,Append.append,strip,Dl,List.map_toArray,MC]at hcode;subst hcode
 repeat (first
  |refine Bp ?_|refine Bh ?_|refine Bi ?_|refine Ch ?_|refine Ce ?_|refine D9 ?_|refine Bq (by decide) ?_|refine Eg rfl rfl ?_|refine Zc (by first|exact hupV|simp) ?_
  |((first|refine Ei rfl rfl rfl rfl ?_|refine Ee rfl rfl ?_|refine Ed rfl rfl ?_|refine Ec ?_);refine⟨_,by simp only[BB,Af,ev,Am,Bo,Ai,Op.intCmp,↓reduceIte,Nat.reduceLT,hl,e71,e72,hil];first|done|rfl|exact hup,?_⟩)
  |dsimp only)
 exact⟨rfl,rfl,rfl⟩
end
noncomputable def C0:Eo:= {P:=prog}
theorem Aoy{V:Cb}(h:∀id∈V,False):V= []:=List.eq_nil_iff_forall_not_mem.2 h
theorem Ac7{cf:Ah}{N:Nat}{f:FuncId}{fn:Func}{c:Code}{args:List D}{st:St}{v:D}(hfn:prog.funcs[f]?=some fn)(hb:fn.body=some c)(hv:R3 v=true)
  (h:Mk C0 false cf N (fun _=>False) c (args++List.replicate (fn.ntmps - args.length) .undef) st (fun y e' st'=>y= .ret∧Gm C0.P e' st fn.results.toList=some [v]∧st'=st)):run C0 cf N f args st=some (v,st,[]):=by
 obtain⟨y,e',st',V,h1,h2,rfl,h3,hst⟩:=h.ex;rw[hst]at h1;have hV:=Aoy h2;subst hV;have hf:Cw st [v]=some ([v],st):=by cases v<;>first|rfl|cases hv
 have hfin:finish st.length v st []=some (v,st,[]):=by rw[Rm (by cases v<;>first|rfl|cases hv) rfl,List.take_length]
 unfold run;have hP:C0.P=prog:=rfl;rw[hP,hfn];dsimp only;rw[hb];dsimp only;have hh:C0.hnd.contains f=false:=rfl;have ho:C0.ords f=fun _=>none:=rfl;rw[hh,ho,h1];dsimp only;rw[hP]at h3;rw[h3];dsimp only;have hz:Ls C0 f [v] st=some ([v],st):=by unfold Ls;exact hf
 rw[hz];dsimp only;rw[Du];exact hfin
noncomputable def A89:Code:=match f186.body with
 |some c=>c
 |none=> .skip
noncomputable def Bbo:Code:=match f87.body with
 |some c=>c
 |none=> .skip
theorem A2w:f186.body=some A89:=by kernel_rfl
theorem A5f:f87.body=some Bbo:=by kernel_rfl
set_option maxHeartbeats 4000000 in
theorem A79{cf:Ah}{N:Nat}{st:St}{c b f:Nat}{far:Lp}{q:Nat}(x:List UInt8)(hc:st[c]?=some (.cells [.map f]))(hf:st[f]?=some (.map (Gz far)))(hb:st[b]?=some (.cells [G8 (some q)])):
  run C0 cf N 186 [.str x,.ptr c 0,.ptr b 0] st=some (.bool (Cu x far == some q),st,[]):=by
 refine Ac7 func186 A2w rfl ?_;generalize he:([D.str x,.ptr c 0,.ptr b 0]++List.replicate (f186.ntmps - [D.str x,.ptr c 0,.ptr b 0].length) .undef)=e;have hl:e.length=19:=by rw[← he];rfl
 have e0:e.getD 0 .undef= .str x:=by rw[← he];rfl
 have e1:e.getD 1 .undef= .ptr c 0:=by rw[← he];rfl
 have e2:e.getD 2 .undef= .ptr b 0:=by rw[← he];rfl
 clear he;have hP:C0.P=prog:=rfl;have h2:=Avf hc;have h3:=ld3 hb;dsimp only[G8]at h3;have hx:=Qo (x:=x) hf;have hres:f186.results.toList= [.tmp 4]:=by kernel_rfl
 rw[hres];refine Cs ?_;obtain⟨code,hcode⟩:∃code,code=strip A89:=⟨_,rfl⟩;rw[← hcode];simp only[A89,f186,strip,Dl,List.map_toArray,MC]at hcode;subst hcode;cases hgx:Cu x far with
 |none=>
  rw[hgx]at hx;dsimp only[getD']at hx
  repeat (first
   |refine Bp ?_|refine Bh ?_|refine Bi ?_|refine Ch ?_|refine Ce ?_|refine D9 ?_|refine Bq (by decide) ?_|refine Eg rfl rfl ?_|refine Zc (by first|exact hupV|simp) ?_
   |((first|refine Ei rfl rfl rfl rfl ?_|refine Ee rfl rfl ?_|refine Ed rfl rfl ?_|refine Ec ?_);refine⟨_,by simp only[BB,Af,ev,Am,Ak,Ag,hP,↓reduceIte,Nat.reduceEqDiff,Nat.reduceLT,hl,e0,e1,h2,hx];first|done|rfl|exact hup,?_⟩)
   |dsimp only)
  refine⟨rfl,?_,rfl⟩;simp only[BB,Am,↓reduceIte,Nat.reduceLT,Gm,hl];rfl
 |some d=>
  rw[hgx]at hx;dsimp only[getD']at hx;have hcmp:(some d == some q)=decide (d=q):=by by_cases h:d=q<;>simp[h]
  have hcmp3:((d:Int) == (q:Int))=decide (d=q):=by
   by_cases h:d=q
   ·simp[h]
   ·rw[decide_eq_false h,beq_eq_false_iff_ne];exact fun he=>h (by exact_mod_cast he)
  repeat (first
   |refine Bp ?_|refine Bh ?_|refine Bi ?_|refine Ch ?_|refine Ce ?_|refine D9 ?_|refine Bq (by decide) ?_|refine Eg rfl rfl ?_|refine Zc (by first|exact hupV|simp) ?_
   |((first|refine Ei rfl rfl rfl rfl ?_|refine Ee rfl rfl ?_|refine Ed rfl rfl ?_|refine Ec ?_);refine⟨_,by simp only[BB,Af,ev,Am,Ak,Ag,Bo,hP,Ai,Op.intCmp,↓reduceIte,Nat.reduceEqDiff,Nat.reduceLT,hl,e0,e1,e2,h2,h3,hx];first|done|rfl|exact hup,?_⟩)
   |dsimp only)
  refine⟨rfl,?_,rfl⟩;simp only[BB,Am,↓reduceIte,Nat.reduceLT,Gm,hl,hcmp,hcmp3]
set_option maxHeartbeats 4000000 in
theorem Ax8{cf:Ah}{N:Nat}{st:St}{clo:D}{p:List UInt8→Bool}(ns:List (List UInt8))(hN:ns.length<N)(hns:ns.length<2 ^ 62){g:FuncId}{caps:List D}(hclo:clo= .func g [] caps)(hb:Dm prog g=true)
  (hcf:∀x∈ns,cf g (.str x::caps) st=some (.bool (p x),st,[])){i:Nat}(hi:ns.findIdx? p=some i):
  run C0 cf N 87 [.sl (Cr ns) .none,clo] st=some (.int .i64 (i:Nat),st,[]):=by
 obtain⟨hin,hpi,hbefore⟩:=List.findIdx?_eq_some_iff_getElem.1 hi;refine Ac7 func87 A5f rfl ?_;generalize he:([D.sl (Cr ns) .none,clo]++List.replicate (f87.ntmps - [D.sl (Cr ns) .none,clo].length) .undef)=e;have hl:e.length=19:=by rw[← he];rfl
 have e0:e.getD 0 .undef= .sl (Cr ns) .none:=by rw[← he];rfl
 have e1:e.getD 1 .undef=clo:=by rw[← he];rfl
 clear he;have hP:C0.P=prog:=rfl;have hlen:(Cr ns).length=ns.length:=by simp[Cr]
 have hres:f87.results.toList= [.tmp 4]:=by kernel_rfl
 rw[hres];refine Cs ?_;obtain⟨code,hcode⟩:∃code,code=strip Bbo:=⟨_,rfl⟩;rw[← hcode];simp only[Bbo,f87,strip,Dl,List.map_toArray,MC]at hcode;subst hcode;refine Bp (Bi ?_);refine Ow rfl (H7 rfl) rfl (by simp only[Af,ev,Ak,Ag];rfl) ?_
 refine Bq (by decide) ?_
 dsimp only;refine Bp (Bp (Bi ?_))
 repeat (first
  |refine Bp ?_|refine Bh ?_|refine Bi ?_|refine Ch ?_|refine Ce ?_|refine D9 ?_|refine Bq (by decide) ?_|refine Eg rfl rfl ?_|refine Zc (by first|exact hupV|simp) ?_
  |((first|refine Ei rfl rfl rfl rfl ?_|refine Ee rfl rfl ?_|refine Ed rfl rfl ?_|refine Ec ?_);refine⟨_,by simp only[BB,Af,ev,Am,Ak,Ag,hP,↓reduceIte,Nat.reduceEqDiff,Nat.reduceLT,Aj,hl,e0,Aui,hlen];first|done|rfl|exact hup,?_⟩)
  |dsimp only)
 refine Wq (fun k e' st'=>∃j,k=i - j∧j≤i∧e'.length=19∧e'.getD 0 .undef= .sl (Cr ns) .none∧e'.getD 1 .undef=clo∧e'.getD 7 .undef= .int .i64 (ns.length:Nat)∧e'.getD 8 .undef= .int .i64 (j:Nat)∧st'=st) i (by omega) ⟨0,rfl,Nat.zero_le _,?_,?_,?_,?_,?_,rfl⟩ ?_
 ·simp only[Am,List.length_set];exact hl
 ·simp only[BB,Am,↓reduceIte,Nat.reduceEqDiff,e0]
 ·simp only[BB,Am,↓reduceIte,Nat.reduceEqDiff,e1]
 ·simp only[BB,Am,↓reduceIte,Nat.reduceEqDiff,Nat.reduceLT,hl]
 ·simp only[BB,Am,↓reduceIte,Nat.reduceLT,hl];rfl
 clear hl e0 e1;rintro k e' st' ⟨j,rfl,hji,hl,e0,e1,e7,e8,hst⟩;subst hst;have hjn:j<ns.length:=by omega
 have hw:=Abc j (by omega)
 have hil:(j:Int)<(ns.length:Int):=by omega
 have hx:ns[j]?=some ns[j]:=List.getElem?_eq_getElem hjn;have h1:Cf prog 35 (.sl (Cr ns) .none) (.int .i64 (j:Int))=some (.eptr [.str ns[j]],.pure):=A2q (by rw[Cr,List.getElem?_map,hx];rfl)
 have hc:=hcf ns[j] (List.getElem_mem hjn);have hcall:G6 C0 cf g [] caps [.str ns[j]] st'=some (.bool (p ns[j]),st',[]):=by unfold G6;have h2:C0.byRef.contains g=false:=rfl;rw[hP,hb,h2];have h3:Cw st' [.str ns[j]]=some ([.str ns[j]],st'):=rfl;simp only[Bool.not_true,BF,h3,List.nil_append,List.cons_append,hc];rfl
 have hup:=hcall;by_cases hpj:p ns[j]=true
 ·have hij:j=i:=by
   rcases Nat.lt_or_ge j i with h|h
   ·exact absurd hpj (hbefore j h)
   ·omega
  subst hij;rw[hpj]at hup
  repeat (first
   |refine Bp ?_|refine Bh ?_|refine Bi ?_|refine Ch ?_|refine Ce ?_|refine D9 ?_|refine Bq (by decide) ?_|refine Eg rfl rfl ?_|refine Zc (by first|exact hupV|simp) ?_
   |((first|refine Ei rfl rfl rfl rfl ?_|refine Ee rfl rfl ?_|refine Ed rfl rfl ?_|refine Ec ?_);refine⟨_,by simp only[Bj,BB,Af,ev,Am,Bo,hP,Ai,Op.intCmp,↓reduceIte,Nat.reduceEqDiff,Nat.reduceLT,hl,e0,e1,e7,e8,hil,h1,ld9,hclo];first|done|rfl|exact hup,?_⟩)
   |dsimp only)
  refine⟨rfl,?_,rfl⟩;simp only[BB,Am,↓reduceIte,Nat.reduceLT,Gm,hl]
 ·have hji2:j<i:=by
   rcases Nat.lt_or_ge j i with h|h
   ·exact h
   ·have:j=i:=by omega
    subst this;exact absurd hpi hpj
  rw[show p ns[j]=false from by simpa using hpj]at hup
  repeat (first
   |refine Bp ?_|refine Bh ?_|refine Bi ?_|refine Ch ?_|refine Ce ?_|refine D9 ?_|refine Bq (by decide) ?_|refine Eg rfl rfl ?_|refine Zc (by first|exact hupV|simp) ?_
   |((first|refine Ei rfl rfl rfl rfl ?_|refine Ee rfl rfl ?_|refine Ed rfl rfl ?_|refine Ec ?_);refine⟨_,by simp only[Bj,BB,Af,ev,Am,Ak,Ag,Bo,hP,Ai,Op.intCmp,Op.intArith,↓reduceIte,Nat.reduceEqDiff,Nat.reduceLT,hl,e0,e1,e7,e8,hil,hw,h1,ld9,hclo];first|done|rfl|exact hup,?_⟩)
   |dsimp only)
  refine⟨i - (j+1),by omega,j+1,rfl,by omega,?_,?_,?_,?_,?_,rfl⟩
  ·simp only[Am,List.length_set];exact hl
  all_goals simp only[BB,Am,↓reduceIte,Nat.reduceEqDiff,Nat.reduceLT,hl,e0,e1,e7,hclo]
def Al6(all:X9)(look:List UInt8→Option Nat):Nat→List UInt8→Option (List (List UInt8))
 |0,_=>some []
 |q+1,a=>match Yb a all with
  |none=>none
  |some ns=>match ns.findIdx? (fun x=>look x == some (q+1))with
   |none=>none
   |some i=>match ns[i]? with
    |none=>none
    |some x=>(Al6 all look q x).map (x:: ·)
def GrT(n0:Nat)(gr:Gr)(st:St):Prop:=gr= .exact∨∃id gen,gr= .tok id gen∧n0≤id∧st[id]?=some (.tok gen)
theorem Uk:Cx prog 35=some 9:=by kernel_rfl
theorem Amm:Jm prog 9=some 16:=by kernel_rfl
theorem Ab8:Kt prog 9 1=true:=by kernel_rfl
theorem Aiv:zeroOf prog 9=some [.str []]:=by kernel_rfl
theorem Aq6{n0:Nat}{gr:Gr}{st:St}(hgr:GrT n0 gr st)(hn0:n0≤st.length){out:List (List UInt8)}(x:List UInt8)(hne:out≠ [])(hlen:out.length<2 ^ 30):
  ∃gr' st1 V,C8 prog false 35 (.sl (Cr out) gr) (.sl [[.str x]] .exact) st=some (.sl (Cr (out++ [x])) gr',st1,V)∧GrT n0 gr' st1∧(∀id∈V,n0≤id)∧(∀(id:Nat) (o:Obj),st[id]?=some o→(∀k,o≠ .tok k)→st1[id]?=some o)∧(∀id,id<n0→st1[id]?=st[id]?)∧st.length≤st1.length:=by
 have hb:∀r∈Cr out,(r.length == 1)=true:=fun r hr=>by obtain⟨y,_,rfl⟩:=List.mem_map.1 hr;rfl
 have hall:(Cr out).all (fun r=>r.length == 1)=true:=List.all_eq_true.2 hb;have hlr:(Cr out).length=out.length:=by simp[Cr]
 have h1:(out.length+1)*16≤Dh:=by unfold Dh;omega
 have h2:out.length+1≤Dh:=by unfold Dh;omega
 have hro:Cr (out++ [x])=Cr out++ [[.str x]]:=by simp[Cr]
 rcases hgr with rfl|⟨id,gen,rfl,hid,hst⟩
 ·refine⟨.tok st.length 0,st++ [.tok 0],[],?_,.inr ⟨st.length,0,rfl,hn0,by simp⟩,by simp,fun id o h _=>?_,fun id h=>?_,by simp⟩
  ·unfold C8;rw[Uk,hro];dsimp only;rw[Zt,Amm];simp[rowsOf,Al,Ab8,hlr,h1,h2,hall]
  ·rw[List.getElem?_append_left (List.getElem?_eq_some_iff.1 h).1];exact h
  ·rw[List.getElem?_append_left (by omega)]
 ·have hil:id<st.length:=(List.getElem?_eq_some_iff.1 hst).1;refine⟨.tok id (gen+1),st.set id (.tok (gen+1)),[id],?_,.inr ⟨id,gen+1,rfl,hid,by simp[hil]⟩,by simpa using hid,fun i o h hk=>?_,fun i h=>?_,by simp⟩
  ·unfold C8;rw[Uk,hro];dsimp only;rw[Zt,Amm];simp[rowsOf,Al,Ab8,hlr,h1,h2,hall,hst,hne]
  ·rw[List.getElem?_set];split
   ·rename_i he;subst he;rw[hst]at h;cases h;exact absurd rfl (hk gen)
   ·exact h
  ·rw[List.getElem?_set,if_neg (by omega)]
theorem A0y(j:Nat)(hj:j<2 ^ 62):IntKind.wrap .i64 (((j+1:Nat):Int) - 1)=(j:Int):=by show(if(true && decide (((((j+1:Nat):Int) - 1) % 18446744073709551616)≥9223372036854775808))=true then _ else _)=_;simp[IntKind.bits];omega
theorem Awz{st:St}{g:FuncId}{caps:List D}{l:List D}:Cw st (.func g [] caps::l)=(Cw st l).map fun p=>(.func g [] caps::p.1,p.2):=Adq rfl
section
variable{cf:Ah}{N:Nat}{st0 st:St}{e:Env}
set_option maxHeartbeats 4000000 in
theorem A93(hcf189:∀(st:St) (c b f:Nat) (far:Lp) (q:Nat) (x:List UInt8),st[c]?=some (.cells [.map f])→st[f]?=some (.map (Gz far))→st[b]?=some (.cells [G8 (some q)])→∀ns:List (List UInt8),ns.length<2 ^ 30→∀i,ns.findIdx? (fun x=>Cu x far == some q)=some i→cf 87 [.sl (Cr ns) .none,.func 186 [] [.ptr c 0,.ptr b 0]] st=some (.int .i64 (i:Nat),st,[]))
  {all:X9}(hns:∀p∈all,p.2.length<2 ^ 30){m f c b q i:Nat}{far:Lp}{gr:Gr}{out ns:List (List UInt8)}{a x:List UInt8}(hl:e.length=119)(e0:e.getD 0 .undef= .map m)(e5:e.getD 5 .undef= .ptr c 0)(e15:e.getD 15 .undef= .ptr b 0)(e20:e.getD 20 .undef= .sl (Cr out) gr)(e21:e.getD 21 .undef= .str a)
  (hm:st[m]?=some (.map (Uw all)))(hml:m<st0.length)(hS:Sto st0 st f c far)(hb0:st0.length≤b)(hb:st[b]?=some (.cells [G8 (some (q+1))]))(hq:q<2 ^ 62)(hgr:GrT st0.length gr st)(hne:out≠ [])(hout:out.length<2 ^ 30)(hcb:c≠b)
  (hga:Yb a all=some ns)(hfi:ns.findIdx? (fun x=>Cu x far == some (q+1))=some i)(hx:ns[i]?=some x)(hnl:ns.length<2 ^ 30):
  Mk C0 false cf N (fun id=>st0.length≤id) (Fz 4) e st (fun y e' st'=>y= .norm∧e'.length=119∧e'.getD 0 .undef= .map m∧e'.getD 5 .undef= .ptr c 0∧e'.getD 15 .undef= .ptr b 0∧e'.getD 21 .undef= .str x∧Sto st0 st' f c far∧st'[b]?=some (.cells [G8 (some q)])∧∃gr',e'.getD 20 .undef= .sl (Cr (out++ [x])) gr'∧GrT st0.length gr' st'):=by
 have hP:C0.P=prog:=rfl;have h2:=ld3 hb;dsimp only[G8]at h2;have hgt:decide (((q+1:Nat):Int)>0)=true:=by rw[decide_eq_true_eq];omega
 have hlk:=Adg hm hga;have hw:=A0y q hq;have hidx:Cf prog 35 (.sl (Cr ns) .none) (.int .i64 (i:Int))=some (.eptr [.str x],.pure):=A2q (by rw[Cr,List.getElem?_map,hx];rfl)
 have hbody:Dm prog 87=true:=by kernel_rfl
 have hup:G6 C0 cf 87 [] [] [.sl (Cr ns) .none,.func 186 [] [.ptr c 0,.ptr b 0]] st=some (.int .i64 (i:Nat),st,[]):=by
  unfold G6;have h3:C0.byRef.contains 87=false:=rfl;rw[hP,hbody,h3];have h4:Cw st [.sl (Cr ns) .none,.func 186 [] [.ptr c 0,.ptr b 0]]=some ([.sl (Cr ns) .none,.func 186 [] [.ptr c 0,.ptr b 0]],st):=by rw[Am5,Awz,Ale];rfl
  have h5:=hcf189 st c b f far (q+1) x hS.c_ hS.f_ hb ns hnl i hfi;simp only[Bool.not_true,BF,h4,List.nil_append,List.append_nil,h5];rfl
 obtain⟨gr',st1,V,happ,hg1,hV,hkeep,hpre,hlen1⟩:=Aq6 hgr hS.len x hne hout;have hb1:=hkeep b _ hb (fun k h=>by cases h)
 have h6:=ld3 hb1;dsimp only[G8]at h6;have hup3:=Vy hb1 (y:=G8 (some q)) rfl;dsimp only[G8]at hup3;have hslim:Fs st [(0,D.str x)]=some [(0,.str x)]:=rfl;have hu9:∀h:St,Gn prog false .append #[35,35] [.sl (Cr out) gr,.sl [[.str x]] .exact] st=C8 prog false 35 (.sl (Cr out) gr) (.sl [[.str x]] .exact) st:=fun _=>by unfold Gn;dsimp only;rw[Apw]
 have hup2:Gn prog false .append #[35,35] [.sl (Cr out) gr,.sl [[.str x]] .exact] st=some (.sl (Cr (out++ [x])) gr',st1,V):=(hu9 st).trans happ;have hS1:Sto st0 st1 f c far:=⟨fun id hid=>(hpre id hid).trans (hS.old id hid),by have:=hS.len;omega,hkeep c _ hS.c_ (fun k h=>by cases h),hkeep f _ hS.f_ (fun k h=>by cases h)⟩
 refine Cs ?_;obtain⟨code,hcode⟩:∃code,code=strip (Fz 4):=⟨_,rfl⟩;rw[← hcode];simp only[Fz,f127,Cv,Option.getD,List.append,List.getD,GC,HAppend.hAppend,Append.append,strip,Dl,List.map_toArray,MC]at hcode;subst hcode
 repeat (first
  |refine Bp ?_|refine Bh ?_|refine Bi ?_|refine Ch ?_|refine Ce ?_|refine D9 ?_|refine Bq (by decide) ?_|refine Eg rfl rfl ?_|refine Zc (by first|exact hupV|exact hV2|exact hV|(simp;done)) ?_
  |((first|refine Ei rfl rfl rfl rfl ?_|refine Ee rfl rfl ?_|refine Ed rfl rfl ?_|refine Ec ?_);refine⟨_,by simp only[Bj,BB,Af,ev,Am,Ak,Ag,Bo,hP,Ai,Op.intCmp,↓reduceIte,Nat.reduceEqDiff,Nat.reduceLT,hl,e0,e5,e15,e20,e21,h2,hgt,hlk,hidx,ld9,Uk,Zt,Aiv,hslim];first|done|rfl|exact hup|exact hup2|exact hup3,?_⟩)
  |dsimp only)
 have hV2:∀id∈ [b],st0.length≤id:=by simpa using hb0
 repeat (first
  |refine Bp ?_|refine Bh ?_|refine Bi ?_|refine Ch ?_|refine Ce ?_|refine D9 ?_|refine Bq (by decide) ?_|refine Eg rfl rfl ?_|refine Zc (by first|exact hupV|exact hV2|exact hV|(simp;done)) ?_
  |((first|refine Ei rfl rfl rfl rfl ?_|refine Ee rfl rfl ?_|refine Ed rfl rfl ?_|refine Ec ?_);refine⟨_,by simp only[Bj,BB,Af,ev,Am,Ak,Ag,Bo,hP,Ai,Op.intArith,↓reduceIte,Nat.reduceEqDiff,Nat.reduceLT,hl,e15,h6,hw];first|done|rfl|exact hup|exact hup2|exact hup3,?_⟩)
  |dsimp only)
 refine⟨rfl,?_,?_,?_,?_,?_,⟨fun id hid=>?_,?_,?_,?_⟩,?_,gr',?_,?_⟩
 ·simp only[Am,List.length_set];exact hl
 ·simp only[BB,Am,↓reduceIte,Nat.reduceEqDiff,e0]
 ·simp only[BB,Am,↓reduceIte,Nat.reduceEqDiff,e5]
 ·simp only[BB,Am,↓reduceIte,Nat.reduceEqDiff,e15]
 ·simp only[BB,Am,↓reduceIte,Nat.reduceEqDiff,Nat.reduceLT,hl]
 ·rw[List.getElem?_set,if_neg (by omega)];exact hS1.old id hid
 ·rw[List.length_set];exact hS1.len
 ·rw[List.getElem?_set,if_neg (fun h=>hcb h.symm)];exact hS1.c_
 ·rw[List.getElem?_set];split
  ·rename_i he;subst he;have:=hS1.f_;rw[hb1]at this;cases this
  ·exact hS1.f_
 ·rw[List.getElem?_set,if_pos rfl,if_pos (List.getElem?_eq_some_iff.1 hb1).1];rfl
 ·simp only[BB,Am,↓reduceIte,Nat.reduceEqDiff,Nat.reduceLT,hl]
 ·rcases hg1 with h|⟨id,gen,h1,h2,h3⟩
  ·exact .inl h
  ·refine .inr ⟨id,gen,h1,h2,?_⟩;rw[List.getElem?_set];split
   ·rename_i he;subst he;rw[hb1]at h3;cases h3
   ·exact h3
theorem Bhs{hh:Bool}{Pw:Nat→Prop}{b:Nat}(hl:e.length=119)(e15:e.getD 15 .undef= .ptr b 0)(hb:st[b]?=some (.cells [G8 (some 0)])):
  Mk C0 hh cf N Pw (Fz 4) e st (fun y e' st'=>y= .exit 8∧e'.getD 20 .undef=e.getD 20 .undef∧e'.length=119∧st'=st):=by
 have hP:C0.P=prog:=rfl;have h2:=ld3 hb;dsimp only[G8]at h2;have hgt:decide (((0:Nat):Int)>0)=false:=by decide
 refine Cs ?_;obtain⟨code,hcode⟩:∃code,code=strip (Fz 4):=⟨_,rfl⟩;rw[← hcode];simp only[Fz,f127,Cv,Option.getD,List.append,List.getD,GC,HAppend.hAppend,Append.append,strip,Dl,List.map_toArray,MC]at hcode;subst hcode
 repeat (first
  |refine Bp ?_|refine Bh ?_|refine Bi ?_|refine Ch ?_|refine Ce ?_|refine D9 ?_|refine Bq (by decide) ?_|refine Eg rfl rfl ?_|refine Zc (by first|exact hupV|exact hV2|exact hV|(simp;done)) ?_
  |((first|refine Ei rfl rfl rfl rfl ?_|refine Ee rfl rfl ?_|refine Ed rfl rfl ?_|refine Ec ?_);refine⟨_,by simp only[BB,Af,ev,Am,Ak,Ag,Bo,hP,Ai,Op.intCmp,↓reduceIte,Nat.reduceLT,hl,e15,h2,hgt];first|done|rfl|exact hup|exact hup2|exact hup3,?_⟩)
  |dsimp only)
 refine⟨rfl,?_,?_,rfl⟩
 ·simp only[BB,Am,↓reduceIte,Nat.reduceEqDiff]
 ·simp only[Am,List.length_set];exact hl
theorem Az9{C:Eo}{hh:Bool}{Pw:Nat→Prop}(hP:C.P=prog){b:Nat}{best:Option Nat}(hl:e.length=119){m c:Nat}{src:List UInt8}(e0:e.getD 0 .undef= .map m)(e1:e.getD 1 .undef= .str src)(e5:e.getD 5 .undef= .ptr c 0)(e15:e.getD 15 .undef= .ptr b 0)(hb:st[b]?=some (.cells [G8 best])):
  Mk C hh cf N Pw P9 e st (fun y e' st'=>st'=st∧e'.length=119∧((best=none∧y= .ret∧e'.getD 4 .undef= .nilsl)∨(∃q,best=some q∧y= .norm∧e'.getD 0 .undef= .map m∧e'.getD 1 .undef= .str src∧e'.getD 5 .undef= .ptr c 0∧e'.getD 15 .undef= .ptr b 0))):=by
 have h2:=ld3 hb;cases best with
 |none=>
  dsimp only[G8]at h2;have hneg:decide ((-1:Int)<0)=true:=by decide
  refine Cs ?_;obtain⟨code,hcode⟩:∃code,code=strip P9:=⟨_,rfl⟩;rw[← hcode];simp only[P9,f127,List.append,strip,Dl,List.map_toArray,MC]at hcode;subst hcode
  repeat (first
   |refine Bp ?_|refine Bh ?_|refine Bi ?_|refine Ch ?_|refine Ce ?_|refine D9 ?_|refine Bq (by decide) ?_|refine Eg rfl rfl ?_|refine Zc (by first|exact hupV|exact hV2|exact hV|(simp;done)) ?_
   |((first|refine Ei rfl rfl rfl rfl ?_|refine Ee rfl rfl ?_|refine Ed rfl rfl ?_|refine Ec ?_);refine⟨_,by simp only[BB,Af,ev,Am,Ak,Ag,Bo,hP,Ai,Op.intCmp,↓reduceIte,Nat.reduceLT,hl,e15,h2,hneg];first|done|rfl|exact hup|exact hup2|exact hup3,?_⟩)
   |dsimp only)
  refine⟨rfl,?_,.inl ⟨rfl,rfl,?_⟩⟩
  ·simp only[Am,List.length_set];exact hl
  ·simp only[BB,Am,↓reduceIte,Nat.reduceLT,hl]
 |some q=>
  dsimp only[G8]at h2;have hneg:decide (((q:Nat):Int)<0)=false:=by simp
  refine Cs ?_;obtain⟨code,hcode⟩:∃code,code=strip P9:=⟨_,rfl⟩;rw[← hcode];simp only[P9,f127,List.append,strip,Dl,List.map_toArray,MC]at hcode;subst hcode
  repeat (first
   |refine Bp ?_|refine Bh ?_|refine Bi ?_|refine Ch ?_|refine Ce ?_|refine D9 ?_|refine Bq (by decide) ?_|refine Eg rfl rfl ?_|refine Zc (by first|exact hupV|exact hV2|exact hV|(simp;done)) ?_
   |((first|refine Ei rfl rfl rfl rfl ?_|refine Ee rfl rfl ?_|refine Ed rfl rfl ?_|refine Ec ?_);refine⟨_,by simp only[BB,Af,ev,Am,Ak,Ag,Bo,hP,Ai,Op.intCmp,↓reduceIte,Nat.reduceLT,hl,e15,h2,hneg];first|done|rfl|exact hup|exact hup2|exact hup3,?_⟩)
   |dsimp only)
  refine⟨rfl,?_,.inr ⟨q,rfl,rfl,?_,?_,?_,?_⟩⟩
  ·simp only[Am,List.length_set];exact hl
  all_goals simp only[BB,Am,↓reduceIte,Nat.reduceEqDiff,e0,e1,e5,e15]
theorem A0w{C:Eo}{Pw:Nat→Prop}(hP:C.P=prog){b:Nat}(hl:e.length=119){m c:Nat}{src:List UInt8}(e0:e.getD 0 .undef= .map m)(e1:e.getD 1 .undef= .str src)(e5:e.getD 5 .undef= .ptr c 0)(e15:e.getD 15 .undef= .ptr b 0):
  Mk C false cf N Pw W9 e st (fun y e' st'=>y= .norm∧st'=st∧e'.length=119∧e'.getD 0 .undef= .map m∧e'.getD 1 .undef= .str src∧e'.getD 5 .undef= .ptr c 0∧e'.getD 15 .undef= .ptr b 0∧e'.getD 20 .undef= .sl (Cr [src]) .exact):=by
 have hslim:Fs st [(0,D.str src)]=some [(0,.str src)]:=rfl;refine Cs ?_;obtain⟨code,hcode⟩:∃code,code=strip W9:=⟨_,rfl⟩;rw[← hcode];simp only[W9,f127,List.append,strip,Dl,List.map_toArray,MC]at hcode;subst hcode
 repeat (first
  |refine Bp ?_|refine Bh ?_|refine Bi ?_|refine Ch ?_|refine Ce ?_|refine D9 ?_|refine Bq (by decide) ?_|refine Eg rfl rfl ?_|refine Zc (by first|exact hupV|exact hV2|exact hV|(simp;done)) ?_
  |((first|refine Ei rfl rfl rfl rfl ?_|refine Ee rfl rfl ?_|refine Ed rfl rfl ?_|refine Ec ?_);refine⟨_,by simp only[BB,Af,ev,Am,Ak,Ag,hP,↓reduceIte,Nat.reduceLT,hl,e1,Uk,Zt,Aiv,hslim];first|done|rfl|exact hup|exact hup2|exact hup3,?_⟩)
  |dsimp only)
 refine⟨rfl,rfl,?_,?_,?_,?_,?_,?_⟩
 ·simp only[Am,List.length_set];exact hl
 all_goals simp only[BB,Am,↓reduceIte,Nat.reduceEqDiff,Nat.reduceLT,hl,e0,e1,e5,e15]
 rfl
theorem A1d{C:Eo}{hh:Bool}{Pw:Nat→Prop}(hP:C.P=prog){b:Nat}(hl:e.length=119){m c:Nat}{src:List UInt8}{d:D}(e0:e.getD 0 .undef= .map m)(e1:e.getD 1 .undef= .str src)(e5:e.getD 5 .undef= .ptr c 0)(e15:e.getD 15 .undef= .ptr b 0)(e20:e.getD 20 .undef=d):
  Mk C hh cf N Pw Xe e st (fun y e' st'=>y= .norm∧st'=st∧e'.length=119∧e'.getD 0 .undef= .map m∧e'.getD 5 .undef= .ptr c 0∧e'.getD 15 .undef= .ptr b 0∧e'.getD 20 .undef=d∧e'.getD 21 .undef= .str src):=by
 refine Cs ?_;obtain⟨code,hcode⟩:∃code,code=strip Xe:=⟨_,rfl⟩;rw[← hcode];simp only[Xe,f127,List.append,strip,Dl,List.map_toArray,MC]at hcode;subst hcode
 repeat (first
  |refine Bp ?_|refine Bh ?_|refine Bi ?_|refine Ch ?_|refine Ce ?_|refine D9 ?_|refine Bq (by decide) ?_|refine Eg rfl rfl ?_|refine Zc (by first|exact hupV|exact hV2|exact hV|(simp;done)) ?_
  |((first|refine Ei rfl rfl rfl rfl ?_|refine Ee rfl rfl ?_|refine Ed rfl rfl ?_|refine Ec ?_);refine⟨_,by simp only[BB,Af,ev,Am,↓reduceIte,Nat.reduceLT,hl,e1];first|done|rfl|exact hup|exact hup2|exact hup3,?_⟩)
  |dsimp only)
 refine⟨rfl,rfl,?_,?_,?_,?_,?_,?_⟩
 ·simp only[Am,List.length_set];exact hl
 all_goals simp only[BB,Am,↓reduceIte,Nat.reduceEqDiff,Nat.reduceLT,hl,e0,e5,e15,e20]
theorem Azw{C:Eo}{hh:Bool}{Pw:Nat→Prop}(hP:C.P=prog)(hl:e.length=119):
  Mk C hh cf N Pw Wu e st (fun y e' st'=>y= .ret∧st'=st∧e'.length=119∧e'.getD 4 .undef=e.getD 20 .undef):=by
 refine Cs ?_;obtain⟨code,hcode⟩:∃code,code=strip Wu:=⟨_,rfl⟩;rw[← hcode];simp only[Wu,f127,List.append,strip,Dl,List.map_toArray,MC]at hcode;subst hcode
 repeat (first
  |refine Bp ?_|refine Bh ?_|refine Bi ?_|refine Ch ?_|refine Ce ?_|refine D9 ?_|refine Bq (by decide) ?_|refine Eg rfl rfl ?_|refine Zc (by first|exact hupV|exact hV2|exact hV|(simp;done)) ?_
  |((first|refine Ei rfl rfl rfl rfl ?_|refine Ee rfl rfl ?_|refine Ed rfl rfl ?_|refine Ec ?_);refine⟨_,by simp only[BB,Af,ev,Am,↓reduceIte,Nat.reduceLT,hl];first|done|rfl|exact hup|exact hup2|exact hup3,?_⟩)
  |dsimp only)
 refine⟨rfl,rfl,?_,?_⟩
 ·simp only[Am,List.length_set];exact hl
 ·simp only[BB,Am,↓reduceIte,Nat.reduceLT,hl]
end
section
variable{cf:Ah}{N:Nat}{st0 st:St}{e:Env}
theorem Bef{C:Eo}{hh:Bool}(hP:C.P=prog){all:X9}{m f c b:Nat}{src:List UInt8}{far:Lp}{ns:List (List UInt8)}(hN:ns.length<N)(hl:e.length=119)(e0:e.getD 0 .undef= .map m)(e1:e.getD 1 .undef= .str src)(e5:e.getD 5 .undef= .ptr c 0)(e15:e.getD 15 .undef= .ptr b 0)
  (e70:e.getD 70 .undef= .sl (Cr ns) .none)(e71:e.getD 71 .undef= .int .i64 (ns.length:Nat))(e72:e.getD 72 .undef= .int .i64 0)(hk:ns.length<2 ^ 62)
  (hc:st[c]?=some (.cells [.map f]))(hf:st[f]?=some (.map (Gz far)))(hb:st[b]?=some (.cells [G8 none]))(hcb:c≠b)(hfb:f≠b):
  Mk C hh cf N (fun id=>id=b) (.block 6 (.loop (Fz 3))) e st (fun y e' st'=>y= .norm∧e'.length=119∧e'.getD 0 .undef= .map m∧e'.getD 1 .undef= .str src∧e'.getD 5 .undef= .ptr c 0∧e'.getD 15 .undef= .ptr b 0∧Yw st b (.cells [G8 (ns.foldl (K7 (Cu · far)) none)]) st'):=by
 refine Bh ?_;refine Wq (fun k e' st'=>∃i,k=ns.length - i∧i≤ns.length∧e'.length=119∧e'.getD 0 .undef= .map m∧e'.getD 1 .undef= .str src∧e'.getD 5 .undef= .ptr c 0∧e'.getD 15 .undef= .ptr b 0∧e'.getD 70 .undef= .sl (Cr ns) .none∧e'.getD 71 .undef= .int .i64 (ns.length:Nat)∧e'.getD 72 .undef= .int .i64 (i:Nat)∧Yw st b (.cells [G8 ((ns.take i).foldl (K7 (Cu · far)) none)]) st') ns.length hN ⟨0,rfl,Nat.zero_le _,hl,e0,e1,e5,e15,e70,e71,e72,Yw.same hb⟩ ?_;rintro k e' st' ⟨i,rfl,hi,hl,e0,e1,e5,e15,e70,e71,e72,hst⟩;rcases Nat.lt_or_ge i ns.length with hlt|hge
 ·obtain⟨x,hx⟩:∃x,ns[i]?=some x:=⟨_,List.getElem?_eq_getElem hlt⟩;refine(Bba hP hl (x:=x) e0 e1 e5 e15 e70 e71 e72 hk hlt (by rw[Cr,List.getElem?_map,hx];rfl) (by rw[hst.ne c hcb];exact hc) (by rw[hst.ne f hfb];exact hf) hst.at_).mono ?_
  rintro y e2 st2 ⟨rfl,g1,g2,g3,g4,g5,g6,g7,g8,g9⟩;refine⟨ns.length - (i+1),by omega,i+1,rfl,by omega,g1,g2,g3,g4,g5,g6,g7,g8,hst.trans ?_⟩
  have ht:ns.take (i+1)=ns.take i++ [x]:=by rw[List.take_add_one,hx];rfl
  rw[ht,List.foldl_append];exact g9
 ·have hin:i=ns.length:=by omega
  subst hin;refine(Bie hP hl e71 e72).mono ?_;rintro y e2 st2 ⟨rfl,rfl,rfl⟩;rw[List.take_length]at hst;refine⟨rfl,?_,?_,?_,?_,?_,hst⟩
  ·rw[List.length_set];exact hl
  all_goals rw[Cy,if_neg (by decide)]
  ·exact e0
  ·exact e1
  ·exact e5
  ·exact e15
theorem Bet(hcf189:∀(st:St) (c b f:Nat) (far:Lp) (q:Nat) (x:List UInt8),st[c]?=some (.cells [.map f])→st[f]?=some (.map (Gz far))→st[b]?=some (.cells [G8 (some q)])→∀ns:List (List UInt8),ns.length<2 ^ 30→∀i,ns.findIdx? (fun x=>Cu x far == some q)=some i→cf 87 [.sl (Cr ns) .none,.func 186 [] [.ptr c 0,.ptr b 0]] st=some (.int .i64 (i:Nat),st,[]))
  {all:X9}(hns:∀p∈all,p.2.length<2 ^ 30){m f c b q:Nat}{far:Lp}{src:List UInt8}{total:List (List UInt8)}(hN:q<N)(hq:q<2 ^ 62)(hl:e.length=119)(e0:e.getD 0 .undef= .map m)(e5:e.getD 5 .undef= .ptr c 0)(e15:e.getD 15 .undef= .ptr b 0)(e20:e.getD 20 .undef= .sl (Cr [src]) .exact)(e21:e.getD 21 .undef= .str src)
  (hm:st0[m]?=some (.map (Uw all)))(hS:Sto st0 st f c far)(hb0:st0.length≤b)(hb:st[b]?=some (.cells [G8 (some q)]))(hcb:c≠b)(hway:Al6 all (Cu · far) q src=some total)(htot:total.length<2 ^ 29):
  Mk C0 false cf N (fun id=>st0.length≤id) (.block 8 (.loop (Fz 4))) e st (fun y e' st'=>y= .norm∧e'.length=119∧(∀id,id<st0.length→st'[id]?=st0[id]?)∧st0.length≤st'.length∧∃gr,e'.getD 20 .undef= .sl (Cr (src::total)) gr):=by
 have hml:m<st0.length:=(List.getElem?_eq_some_iff.1 hm).1;refine Bh ?_;refine Wq (fun k e' st'=>∃a out rest gr,k<2 ^ 62∧Al6 all (Cu · far) k a=some rest∧out++rest=src::total∧out≠ []∧e'.length=119∧e'.getD 0 .undef= .map m∧e'.getD 5 .undef= .ptr c 0∧e'.getD 15 .undef= .ptr b 0∧e'.getD 20 .undef= .sl (Cr out) gr∧e'.getD 21 .undef= .str a∧Sto st0 st' f c far∧st'[b]?=some (.cells [G8 (some k)])∧GrT st0.length gr st') q hN ⟨src,[src],total,.exact,hq,hway,rfl,by simp,hl,e0,e5,e15,e20,e21,hS,hb,.inl rfl⟩ ?_
 rintro k e' st' ⟨a,out,rest,gr,hk,hw,hout,hne,hl,e0,e5,e15,e20,e21,hS,hb,hgr⟩;cases k with
 |zero=>refine(Bhs hl e15 hb).mono ?_;rintro y e2 st2 ⟨rfl,g1,g2,rfl⟩;cases hw;rw[List.append_nil]at hout;refine⟨rfl,g2,hS.old,hS.len,gr,?_⟩;rw[g1,e20,hout]
 |succ k=>
  unfold Al6 at hw;cases hga:Yb a all with
  |none=>rw[hga]at hw;cases hw
  |some ns=>
   rw[hga]at hw;dsimp only at hw;cases hfi:ns.findIdx? (fun x=>Cu x far == some (k+1))with
   |none=>rw[hfi]at hw;cases hw
   |some i=>
    rw[hfi]at hw;dsimp only at hw;cases hx:ns[i]? with
    |none=>rw[hx]at hw;cases hw
    |some x=>
     rw[hx]at hw;dsimp only at hw;cases hw2:Al6 all (Cu · far) k x with
     |none=>rw[hw2]at hw;cases hw
     |some rest2=>
      rw[hw2]at hw;cases hw;have hnl:ns.length<2 ^ 30:=by
       have:∃p∈all,p.2=ns:=by
        clear hns hm hw2 hway hx hfi;induction all with
        |nil=>cases hga
        |cons p l ih=>
         unfold Yb at hga;split at hga
         ·cases hga;exact⟨p,by simp,rfl⟩
         ·obtain⟨p',h1,h2⟩:=ih hga;exact⟨p',by simp[h1],h2⟩
       obtain⟨p,h1,rfl⟩:=this;exact hns p h1
      have hol:out.length<2 ^ 30:=by have:=congrArg List.length hout;simp at this;omega
      refine(A93 hcf189 hns hl e0 e5 e15 e20 e21 ((hS.old m hml).trans hm) hml hS hb0 hb (by omega) hgr hne hol hcb hga hfi hx hnl).mono ?_
      rintro y e2 st2 ⟨rfl,g1,g2,g3,g4,g5,g6,g7,gr',g8,g9⟩;refine⟨k,by omega,x,out++ [x],rest2,gr',by omega,hw2,by rw[List.append_assoc];exact hout,by simp,g1,g2,g3,g4,g8,g5,g6,g7,g9⟩
theorem Afp(look:List UInt8→Option Nat):∀(ns:List (List UInt8)) (b:Option Nat) (q:Nat),ns.foldl (K7 look) b=some q→b=some q∨∃x,look x=some q
 | [],b,q,h=> .inl h
 |x::ns,b,q,h=>by
  rcases Afp look ns _ q h with h1|h1
  ·unfold K7 at h1;split at h1
   ·exact .inl h1
   ·rename_i d hd;split at h1
    ·cases h1;exact .inr ⟨x,hd⟩
    ·split at h1
     ·cases h1;exact .inr ⟨x,hd⟩
     ·exact .inl h1
  ·exact .inr h1
theorem Atq{x:List UInt8}{all:X9}{ns:List (List UInt8)}(h:Yb x all=some ns):∃p∈all,p.2=ns:=by
 induction all with
 |nil=>cases h
 |cons p l ih=>
  unfold Yb at h;split at h
  ·cases h;exact⟨p,by simp,rfl⟩
  ·obtain⟨p',h1,h2⟩:=ih h;exact⟨p',by simp[h1],h2⟩
noncomputable def An8:Code:= .seq V9 (.seq (.seq X4 (.block 6 (.loop (Fz 3)))) (.seq P9 (.seq W9 (.seq (.seq Xe (.block 8 (.loop (Fz 4)))) Wu))))
theorem Auq(hcf189:∀(st:St) (c b f:Nat) (far:Lp) (q:Nat) (x:List UInt8),st[c]?=some (.cells [.map f])→st[f]?=some (.map (Gz far))→st[b]?=some (.cells [G8 (some q)])→∀ns:List (List UInt8),ns.length<2 ^ 30→∀i,ns.findIdx? (fun x=>Cu x far == some q)=some i→cf 87 [.sl (Cr ns) .none,.func 186 [] [.ptr c 0,.ptr b 0]] st=some (.int .i64 (i:Nat),st,[]))
  {all:X9}(hsz:all.length<2 ^ 30)(hns:∀p∈all,p.2.length<2 ^ 30)(hN:2 ^ 30≤N){m f c:Nat}{far:Lp}{src:List UInt8}{ns:List (List UInt8)}{idR:D}{t:Bool}(hE:Ie e m src c t idR)(hm:st0[m]?=some (.map (Uw all)))(hS:Sto st0 st f c far)(hg:Good all src far)
  (hn:Yb src all=some ns){v:D}(hv:(ns.foldl (K7 (Cu · far)) none=none∧v= .nilsl)∨∃q rest,ns.foldl (K7 (Cu · far)) none=some q∧Al6 all (Cu · far) q src=some rest∧rest.length<2 ^ 29∧v= .sl (Cr (src::rest)) .none):
  Mk C0 false cf N (fun id=>st0.length≤id) An8 e st (fun y e' st'=>y= .ret∧e'.length=119∧(∀id,id<st0.length→st'[id]?=st0[id]?)∧st0.length≤st'.length∧(e'.getD 4 .undef=v∨∃rows gr,e'.getD 4 .undef= .sl rows gr∧v= .sl rows .none)):=by
 have hP:C0.P=prog:=rfl;have hml:m<st0.length:=(List.getElem?_eq_some_iff.1 hm).1;have hcl:c<st.length:=(List.getElem?_eq_some_iff.1 hS.c_).1;have hfl:f<st.length:=(List.getElem?_eq_some_iff.1 hS.f_).1;have hnl:ns.length<2 ^ 30:=by obtain⟨p,h1,rfl⟩:=Atq hn;exact hns p h1
 unfold An8;refine Bp ((Azu hP hE.len hE.e0 hE.e1 hE.e5 hS.len).mono ?_);rintro y e1 st1 ⟨rfl,l1,a0,a1,a5,a15,rfl⟩;have hS1:Sto st0 (st++ [.cells [G8 none]]) f c far:=hS.app;dsimp only;refine Bp (Bp ((A0r hP l1 a0 a1 a5 a15 ((hS1.old m hml).trans hm) hn).mono ?_));rintro y e2 st2 ⟨rfl,l2,b0,b1,b5,b15,b70,b71,b72,rfl⟩;dsimp only;have hb:(st++ [Obj.cells [G8 none]])[st.length]?=some (.cells [G8 none]):=by simp
 obtain⟨y6,e6,st6,V6,x1,x2,x3⟩:=(Bef (N:=N) (cf:=cf) (hh:=false) (all:=all) hP (by omega) l2 b0 b1 b5 b15 b70 b71 b72 (by omega) hS1.c_ hS1.f_ hb (by omega) (by omega)).ex
 refine⟨⟨y6,e6,st6,V6,x1,fun id hid=>by rw[x2 id hid];exact hS.len,?_⟩⟩
 obtain⟨rfl,l6,d0,d1,d5,d15,hat⟩:=x3;have hS6:Sto st0 st6 f c far:=⟨fun id hid=>(hat.ne id (by have:=hS.len;omega)).trans (hS1.old id hid),by rw[hat.len];exact hS1.len,(hat.ne c (by omega)).trans hS1.c_,(hat.ne f (by omega)).trans hS1.f_⟩
 generalize hbest:ns.foldl (K7 (Cu · far)) none=best at hat hv;dsimp only;refine Bp ((Az9 hP l6 d0 d1 d5 d15 hat.at_).mono ?_);rintro y e7 st7 ⟨rfl,l7,h7⟩;rcases h7 with⟨rfl,rfl,h4⟩|⟨q,rfl,rfl,f0,f1,f5,f15⟩
 ·rcases hv with⟨_,rfl⟩|⟨q,rest,h,_⟩
  ·exact⟨rfl,l7,hS6.old,hS6.len,.inl h4⟩
  ·cases h
 ·rcases hv with⟨h,_⟩|⟨q',rest,h,hway,hrest,rfl⟩
  ·cases h
  cases h;have hq:q≤all.length:=by
   rcases Afp _ _ _ _ hbest with h|⟨x,h⟩
   ·cases h
   ·have:=hg.small x q h;omega
  dsimp only;refine Bp ((A0w hP l7 f0 f1 f5 f15).mono ?_);rintro y e8 st8 ⟨rfl,rfl,l8,k0,k1,k5,k15,k20⟩;dsimp only;refine Bp (Bp ((A1d hP l8 k0 k1 k5 k15 k20).mono ?_));rintro y e9 st9 ⟨rfl,rfl,l9,n0,n5,n15,n20,n21⟩;dsimp only;have hS9:Sto st0 st9 f c far:=hS6;refine(Bet hcf189 hns (by omega) (by omega) l9 n0 n5 n15 n20 n21 hm hS6 hS.len hat.at_ (by omega) hway hrest).mono ?_
  rintro y e10 st10 ⟨rfl,l10,hold,hlen,gr,g20⟩;dsimp only;refine(Azw hP l10).mono ?_;rintro y e11 st11 ⟨rfl,rfl,l11,g4⟩;exact⟨rfl,l11,hold,hlen,.inr ⟨_,gr,g4.trans g20,rfl⟩⟩
end
def Anq:List D→Option (List UInt8)
 | [.str s]=>some s
 |_=>none
def Q0:List (List D)→Option (List (List UInt8))
 | []=>some []
 |r::l=>match Anq r,Q0 l with
  |some x,some xs=>some (x::xs)
  |_,_=>none
def Ac0:List (D × D)→Option X9
 | []=>some []
 |(.str n,.sl rows .none)::l=>match Q0 rows,Ac0 l with
  |some ns,some all=>some ((n,ns)::all)
  |_,_=>none
 |_=>none
theorem Arf{r:List D}{x:List UInt8}(h:Anq r=some x):r= [.str x]:=by
 unfold Anq at h;split at h
 ·cases h;rfl
 ·cases h
theorem Vu:∀{rows:List (List D)} {ns:List (List UInt8)},Q0 rows=some ns→rows=Cr ns
 | [],ns,h=>by cases h;rfl
 |r::l,ns,h=>by
  unfold Q0 at h;split at h
  ·rename_i x xs h1 h2;cases h;rw[Arf h1,Vu h2];rfl
  ·cases h
theorem Agw:∀{es:List (D × D)} {all:X9},Ac0 es=some all→es=Uw all
 | [],all,h=>by cases h;rfl
 |p::l,all,h=>by
  unfold Ac0 at h;split at h
  ·rename_i heq;cases heq
  ·rename_i n rows l' heq;cases heq;split at h
   ·rename_i ns all' h1 h2;cases h;rw[Agw h2,Vu h1];rfl
   ·cases h
  ·cases h
theorem Axj{α:Type}{A:Array α}(h:A.size=2):∃x y,A= #[x,y]:=by
 refine⟨A[0],A[1],?_⟩;apply Array.ext_getElem?;intro j
 match j with
 |0=>simp
 |1=>simp
 |j+2=>rw[Array.getElem?_eq_none (by omega)];rfl
theorem Agm(n:Nat)(l:List (List UInt8)):Gt n (Cr l)=false:=by
 rw[Pj];intro i r j d hi hj;rw[Cr,List.getElem?_map]at hi;cases hl:l[i]? with
 |none=>rw[hl]at hi;cases hi
 |some x=>
  rw[hl]at hi;cases hi
  match j with
  |0=>cases hj;rfl
  |j+1=>simp at hj
theorem A4p{g:G}{rows:List (List D)}{gr:Gr}{x:Value}(h:VR g (.sl rows gr) x):VR g (.sl rows .none) x:=by
 cases h with
 |slNil h=>exact .slNil (fun _ _ h=>by cases h)
 |slEmp h hc=>exact .slEmp (fun _ _ h=>by cases h) (fun h=>by cases h)
 |sl hsz hI hv hcap hgr=>exact .sl hsz hI hv hcap trivial
def Aw3(all:X9)(src:List UInt8):Option D:=match A48 all (all.length+2) [(src,0)],Yb src all with
 |some far,some ns=>
  if decide (all.length<2 ^ 30) && all.all (fun p=>decide (p.2.length<2 ^ 30))then
   match ns.foldl (K7 (Cu · far)) none with
   |none=>some .nilsl
   |some q=>match Al6 all (Cu · far) q src with
    |some rest=>if rest.length<2 ^ 29 then some (.sl (Cr (src::rest)) .none)else none
    |none=>none
  else none
 |_,_=>none
def Qv:Bz:=fun _ args st=>match args with
 | [.map m,.str src]=>match st[m]? with
  |some (.map es)=>match Ac0 es with
   |some all=>match Aw3 all src with
    |some v=>some (v,st,[])
    |none=>none
   |none=>none
  |_=>none
 |_=>none
theorem Ae0(cf:Ah):Ba (Qv cf):=by
 intro args st v st' W h;unfold Qv at h;split at h
 ·split at h
  ·split at h
   ·split at h
    ·cases h;exact⟨Nat.le_refl _,fun _ _ _=>rfl⟩
    ·cases h
   ·cases h
  ·cases h
 ·cases h
theorem G9:∀(c:Code),H6 (fun _=>none) c:=by
 intro c;induction c with
 |region id ops d=>exact fun _=>⟨fun l h=>(by cases h),fun l h=>(by cases h)⟩
 |seq a b iha ihb=>exact⟨iha,ihb⟩
 |cond c a b iha ihb=>exact⟨iha,ihb⟩
 |block id b ih=>exact ih
 |loop b ih=>exact ih
 |_=>exact trivial
noncomputable def cfB(n:Nat):Ah:=Ii C0 (fun _=>none) (2 ^ 30) n
theorem Bdu{β:Nat→Nat→Option Value}{C:Eo}{cf:Ah}(hP:C.P=prog)(hX:Ctx C cf β)(n:Nat):Ctx C0 (cfB n) β:=
 Bka (C:=C0) (by have:=hX.count;rw[hP]at this;exact this) (fun f x h=>by cases h) (fun f fn c _ _=>G9 c) (by have:=hX.mixed;rw[hP]at this;exact this) ⟨fun f nt h=>(by cases h),fun f nt h=>(by cases h)⟩ (2 ^ 30) n
theorem Aq0(st:St)(c b f:Nat)(far:Lp)(q:Nat)(x:List UInt8)(hc:st[c]?=some (.cells [.map f]))(hf:st[f]?=some (.map (Gz far)))(hb:st[b]?=some (.cells [G8 (some q)]))(ns:List (List UInt8))(hns:ns.length<2 ^ 30)(i:Nat)(hi:ns.findIdx? (fun x=>Cu x far == some q)=some i):
  cfB 2 87 [.sl (Cr ns) .none,.func 186 [] [.ptr c 0,.ptr b 0]] st=some (.int .i64 (i:Nat),st,[]):=by
 unfold cfB;rw[Qd rfl];refine Ax8 ns hns (by omega) rfl (by kernel_rfl) (p:=fun x=>Cu x far == some q) (fun y hy=>?_) hi
 rw[Qd rfl];exact A79 y hc hf hb
theorem Ahw{C:Eo}(hP:C.P=prog){β:Nat→Nat→Option Value}(cf:Ah)(hX:Ctx C cf β):Ji prog β 127 (Qv cf):=by
 intro args st v st' W h g w A hb hs hA;unfold Qv at h;split at h
 case h_2=>cases h
 rename_i m src;split at h
 case h_2=>cases h
 rename_i es hst;split at h
 case h_2=>cases h
 rename_i all hnet;split at h
 case h_2=>cases h
 rename_i v0 hback;cases h;cases Agw hnet;unfold Aw3 at hback;split at hback
 case h_2=>cases hback
 rename_i far0 ns hfar hns;split at hback
 case isFalse=>cases hback
 rename_i hlim;rw[Bool.and_eq_true]at hlim;obtain⟨hsz,hnl⟩:=hlim;have hsz:all.length<2 ^ 30:=by simpa using hsz
 have hnl:∀p∈all,p.2.length<2 ^ 30:=by simpa using hnl
 obtain⟨hg0,hc0⟩:=Afy _ _ _ (good_start rfl) hfar;obtain⟨va,vb,rfl⟩:=Axj (A:=A) (by simpa using hA.size)
 have hva:VR g (.map m) va:=hA.at_ 0 _ _ rfl rfl;cases hva with
 |map hls=>
 rename_i cm;refine calls_of_wp func127 Ayc ?_;have hntm:f127.ntmps=119:=by kernel_rfl
 rw[hntm];generalize ha0:({tmps:= #[.map (some cm),vb]++Array.replicate (119 - (#[Value.map (some cm),vb]:Array Value).size) undef,defers:= []}:Act)=a0;have hE:F8 g ([D.map m,.str src]++List.replicate 117 .undef) a0.tmps:=by
  rw[← ha0];refine hA.append ⟨by simp,fun j d x hj hx=>?_⟩
  rw[List.getElem?_replicate]at hj;split at hj
  ·cases hj;exact .undef x
  ·cases hj
 have hd0:a0.defers= []:=by rw[← ha0]
 clear ha0;have hS:=At.start hs hE;rw[hd0]at hS;have hX0:=Bdu hP hX 2;have hP0:C0.P=prog:=rfl;rw[← hP0];refine wp_seq (J6 hX0 hb (G9 _) hS (Avu (N:=0) (hh:=false) (Pw:=fun id=>st.length≤id) hP0 rfl) ?_);rintro x e1 st1 W1 a1 w1 g1 hA1 hW1 ⟨rfl,l1,p0,p1,p28,rfl⟩;show Code.wp _ _ _ _ _;refine wp_seq (J6 hX0 hb (G9 _) hA1 (Axs (N:=0) (hh:=false) hP0 l1 p0 p1 p28) ?_);rintro x e2 st2 W2 a2 w2 g2 hA2 hW2 ⟨rfl,l2,q0,q1,q28,q5,hS2⟩;show Code.wp _ _ _ _ _;refine wp_seq (wp_seq (J6 hX0 hb (G9 _) hA2 (Avz (N:=0) (hh:=false) (Pw:=fun id=>st1.length≤id) hP0 l2 q0 q1 q28 q5) ?_));rintro x e3 Vy W3 a3 w3 g3 hA3 hW3 ⟨rfl,hE3,rfl⟩;have hWold:∀id∈W3,st1.length≤id:=fun i hid=>(hW3 i hid).elim (fun h=>(hW2 i h).elim (fun h=>(hW1 i h).elim (fun h=>by cases h) id) id) id
 show Code.wp _ _ _ _ _;refine wp_block (Bwg ?_);refine Auy hP0 hX0 hb (all:=all) (src:=src) (by omega) (fun p hp=>by have:=hnl p hp;omega) hst (f:=st1.length) (c:=st1.length+1) (Nat.le_refl _) (by omega) (by omega) hls ?_ _ [(src,0)] true e3 Vy W3 a3 w3 g3 .undef rfl (good_start rfl) (fun h=>by cases h) hE3 hS2 hWold hA3
 rintro far e4 st4 W4 a4 w4 g4 idR hg hc hE4 hS4 hW4 hA4;show Code.wp _ _ _ _ _;have hlook:(Cu · far)=(Cu · far0):=funext fun n=>look_eq hg hc hg0 hc0 n;refine J6 hX0 hb (G9 _) hA4 (Auq (N:=2 ^ 30) Aq0 hsz hnl (Nat.le_refl _) hE4 hst hS4 hg hns (v:=v) ?_) ?_
 ·rw[hlook];split at hback
  ·rename_i hbest;cases hback;exact .inl ⟨hbest,rfl⟩
  ·rename_i q hbest;split at hback
   ·rename_i rest hway;split at hback
    ·rename_i hlt;cases hback;exact .inr ⟨q,rest,hbest,hway,hlt,rfl⟩
    ·cases hback
   ·cases hback
 rintro x e5 st5 W5 a5 w5 g5 hA5 hW5 ⟨rfl,l5,hold,hlen,hres⟩;have hWn:∀id∈W5,st1.length≤id:=fun i hid=>(hW5 i hid).elim (hW4 i) id;have hst5:st5.take st1.length=st1:=by
  apply List.ext_getElem?;intro i;rw[List.getElem?_take];split
  ·rename_i hi;exact hold i hi
  ·rename_i hi;rw[List.getElem?_eq_none (by omega)]
 have hfil:W5.filter (· <st1.length)= []:=by rw[List.filter_eq_nil_iff];intro id hid;have:=hWn id hid;simp;omega
 have hrv:D8 st1.length v=false:=by
  rcases hres with h|⟨rows,gr,h,rfl⟩
  ·split at hback
   ·cases hback;rfl
   ·split at hback
    ·split at hback
     ·cases hback;exact Agm _ _
     ·cases hback
    ·cases hback
  ·split at hback
   ·cases hback
   ·split at hback
    ·split at hback
     ·cases hback;exact Agm _ _
     ·cases hback
    ·cases hback
 have hfin:finish st1.length v st5 W5=some (v,st1,[]):=by rw[Rm hrv hfil,hst5]
 have hr4:Gm prog e5 st5 f127.results.toList=some [e5.getD 4 .undef]:=by
  have:f127.results.toList= [.tmp 4]:=by kernel_rfl
  rw[this];rfl
 obtain⟨B,h1,h2⟩:=Oi (P:=prog) hA5.sim hA5.env hr4;have h3:=Ac9 h2;have hv5:VR g5 v (if h:B.toArray.size=1 then B.toArray[0]else .tuple B.toArray):=by
  rcases hres with h|⟨rows,gr,h,rfl⟩
  ·rw[h]at h3;exact h3
  ·rw[h]at h3;exact A4p h3
 obtain⟨g3,h4,h5,h6,h7⟩:=Qs hfin hs hA5.sim hA5.step hA5.free hA5.k hv5;exact⟨hA5.defers,_,h1,_,g3,rfl,h4,h5,h6,h7⟩
end Go.Vam
