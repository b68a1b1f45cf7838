/-
  Fast natives; rows of calls that were told once.
-/
import Derived.Test.YtanifnfklgldpaaGreatDoorVak
set_option linter.unusedSimpArgs false
set_option linter.unusedVariables false
set_option maxRecDepth 100000
namespace Go.Vam
open Go.Proofs
def Apm(get:Nat→Option Obj):D→Option (List (List D))
 | .nilsl=>some []
 | .sl rows _=>some rows
 | .arr sz id off len _=>
  match get id with
  |some (.cells cs)=>Kr sz off len cs
  |some (.fcells cs)=>Kr sz off len cs
  |_=>none
 |_=>none
theorem Aeg{st:St}{d:D}{rows:List (List D)}(h:Apm (fun i=>st[i]?) d=some rows):rowsOf st d=some rows:=by
 cases d with
 |arr sz id off len cap=>
  unfold Apm at h;unfold rowsOf;dsimp only at h ⊢;cases hx:st[id]? with
  |none=>rw[hx]at h;cases h
  |some o=>rw[hx]at h;cases o<;>first|exact h|cases h
 |_=>first|exact h|cases h
def Y3(get:Nat→Option Obj)(d:D):Option (List (List UInt8)):=match Apm get d with
 |some rows=>Pt rows
 |none=>none
theorem Nz{st:St}{d:D}{ss:List (List UInt8)}(h:Y3 (fun i=>st[i]?) d=some ss):Ob st d=some ss:=by
 unfold Y3 at h;split at h
 ·rename_i rows hr;have h1:=Aeg hr;unfold Ob;cases d<;>first|(cases hr;done)|(dsimp only;rw[h1];exact h)
 ·cases h
def Awp(get:Nat→Option Obj)(d:D):Option (List (Bool × List UInt8)):=match Apm get d with
 |some rows=>Uq rows
 |none=>none
theorem Al1{st:St}{d:D}{ss:List (Bool × List UInt8)}(h:Awp (fun i=>st[i]?) d=some ss):Adi st d=some ss:=by
 unfold Awp at h;split at h
 ·rename_i rows hr;have h1:=Aeg hr;unfold Adi;cases d<;>first|(cases hr;done)|(dsimp only;rw[h1];exact h)
 ·cases h
def Xq(get:Nat→Option Obj):List (List D)→Option (List (List (Bool × List UInt8)))
 | []=>some []
 | [x]::rows=>match Awp get x,Xq get rows with
  |some l,some ls=>some (l::ls)
  |_,_=>none
 |_=>none
theorem U5{st:St}:∀{rows:List (List D)} {ls:List (List (Bool × List UInt8))},Xq (fun i=>st[i]?) rows=some ls→Un st rows=some ls
 | [],ls,h=>h
 |r::rows,ls,h=>by
  unfold Xq at h;unfold Un;split at h
  ·rename_i heq;cases heq
  ·rename_i x rows' heq;cases heq;split at h
   ·rename_i l ls' h1 h2;cases h;dsimp only;rw[Al1 h1,U5 h2]
   ·cases h
  ·cases h
def Ah9:RN:=fun get n args=>match args with
 | [.func f [] [.ptr b 0]]=>match get b with
  |some (.cells (x::_))=>match x with
   | .map m=>if Ab9.contains f then(match get m with
    |some (.map es)=>match Ajx es with
     |some ks=>if ks.length<2 ^ 19 then some (Acy 1 n ((Cq J5 ks).map fun s=> [.str s]),Jq ((Cq J5 ks).map fun s=> [.str s]))else none
     |none=>none
    |_=>none)else none
   | .sl rows _=>if f=135 then(match Q0 rows with
    |some ks=>if ks.length<2 ^ 19 then some (Acy 1 n ((Cq J5 ks).map fun s=> [.str s]),Jq ((Cq J5 ks).map fun s=> [.str s]))else none
    |none=>none)else none
   | .nilsl=>if f=135 then some (Acy 1 n ((Cq J5 []).map fun s=> [.str s]),Jq ((Cq J5 []).map fun s=> [.str s]))else none
   |_=>none
  |_=>none
 |_=>none
theorem Am4(cf:Ah)(args:List D)(st:St)(v:D)(new:St)(h:Ah9 (fun i=>st[i]?) st.length args=some (v,new)):Ho cf args st=some (v,st++new,[]):=by
 unfold Ah9 at h;split at h
 case h_2=>cases h
 rename_i f b;split at h
 case h_2=>cases h
 rename_i x cs hb;split at h
 ·rename_i m;split at h
  case isFalse=>cases h
  rename_i hf;split at h
  case h_2=>cases h
  rename_i es hes;split at h
  case h_2=>cases h
  rename_i ks hks;split at h
  case isFalse=>cases h
  rename_i hlt;cases h;have:Fb cf [.func f [] [.ptr b 0]] st=some (Acy 1 st.length ((Cq J5 ks).map fun s=> [.str s]),st++Jq ((Cq J5 ks).map fun s=> [.str s]),[]):=by
   have hf':f∈Ab9:=by simpa using hf
   unfold Fb;simp[hf',hb,hes,hks,hlt]
  unfold Ho;rw[this]
 ·rename_i rows gr;split at h
  case isFalse=>cases h
  rename_i hf;subst hf;split at h
  case h_2=>cases h
  rename_i ks hks;split at h
  case isFalse=>cases h
  rename_i hlt;cases h;have h1:Fb cf [.func 135 [] [.ptr b 0]] st=none:=by unfold Fb;simp[Ab9]
  unfold Ho;rw[h1];unfold I5;simp[hb,hks,hlt,Pe]
 ·split at h
  case isFalse=>cases h
  rename_i hf;subst hf;cases h;have h1:Fb cf [.func 135 [] [.ptr b 0]] st=none:=by unfold Fb;simp[Ab9]
  unfold Ho;rw[h1];unfold I5;simp[hb,Pe]
 ·cases h
def Adx:RN:=fun get n args=>match args with
 | [.func f [] [.ptr b 0],.func o [] []]=>if f == 350 && o == 285 then(match get b with
   |some (.cells (.map m::_))=>match get m with
    |some (.map es)=>match Ajq es with
     |some ks=>if ks.length<2 ^ 19 then some (Acy 2 n ((Cq Rk ks).map DL),Jq ((Cq Rk ks).map DL))else none
     |none=>none
    |_=>none
   |_=>none)
  else none
 |_=>none
theorem Alv(cf:Ah)(args:List D)(st:St)(v:D)(new:St)(h:Adx (fun i=>st[i]?) st.length args=some (v,new)):Iy cf args st=some (v,st++new,[]):=by
 unfold Adx at h;split at h
 case h_2=>cases h
 split at h
 case isFalse=>cases h
 rename_i hf;split at h
 case h_2=>cases h
 rename_i m cs hb;split at h
 case h_2=>cases h
 rename_i es hes;split at h
 case h_2=>cases h
 rename_i ks hks;split at h
 case isFalse=>cases h
 rename_i hlt;cases h;unfold Iy;simp only[hf,if_true,hb,hes,hks,hlt]
def Aue:RN:=fun get n args=>match args with
 | [d,.str sep]=>match Y3 get d with
  |some ss=>if ss.length≤2 ^ 40∧(Rc sep ss).length≤2 ^ 40 then some (.str (Rc sep ss),[])else none
  |none=>none
 |_=>none
theorem Au8(cf:Ah)(args:List D)(st:St)(v:D)(new:St)(h:Aue (fun i=>st[i]?) st.length args=some (v,new)):Qz cf args st=some (v,st++new,[]):=by
 unfold Aue at h;split at h
 case h_2=>cases h
 split at h
 case h_2=>cases h
 rename_i ss hss;split at h
 case isFalse=>cases h
 rename_i hlt;cases h;unfold Qz;simp only[Nz hss,hlt,and_self,if_true,List.append_nil]
def Amy:RN:=fun get n args=>match args with
 | [d]=>match Y3 get d with
  |some ss=>if ss.length<2 ^ 40∧(Jp Js ss).length<2 ^ 40 then some (.str (Jp Js ss),[])else none
  |none=>none
 |_=>none
theorem Arw(cf:Ah)(args:List D)(st:St)(v:D)(new:St)(h:Amy (fun i=>st[i]?) st.length args=some (v,new)):Nh cf args st=some (v,st++new,[]):=by
 unfold Amy at h;split at h
 case h_2=>cases h
 split at h
 case h_2=>cases h
 rename_i ss hss;split at h
 case isFalse=>cases h
 rename_i hlt;cases h;unfold Nh;simp only[Nz hss,hlt,and_self,if_true,List.append_nil]
def Anx:RN:=fun get n args=>match args with
 | [.nilsl]=>some (.nilsl,[])
 | [.sl [] _]=>some (.sl [] .exact,[])
 | [d]=>match Y3 get d with
  |some ss=>if ss.length<2 ^ 40∧ss≠ []then some (.arr 1 n 0 ss.length ss.length,[.cells (ss.map D.str)])else none
  |none=>none
 |_=>none
theorem Asd(cf:Ah)(args:List D)(st:St)(v:D)(new:St)(h:Anx (fun i=>st[i]?) st.length args=some (v,new)):Kg cf args st=some (v,st++new,[]):=by
 unfold Anx at h;split at h
 ·cases h;rw[List.append_nil];rfl
 ·cases h;rw[List.append_nil];rfl
 ·rename_i d hd1 hd2;split at h
  case h_2=>cases h
  rename_i ss hss;split at h
  case isFalse=>cases h
  rename_i hlt;cases h;have h1:Mx cf [d] st=none:=by
   unfold Mx;split
   ·rename_i gr heq;cases heq;exact absurd rfl (hd2 gr)
   ·rfl
  unfold Kg;rw[h1];dsimp only;unfold Pv;split
  ·rename_i heq;cases heq;exact absurd rfl hd1
  ·rename_i gr heq;cases heq;exact absurd rfl (hd2 gr)
  ·rename_i d' _ _ heq;cases heq;simp only[Nz hss];rw[if_pos hlt]
  ·rename_i _ _ hne;exact absurd rfl (hne d)
 ·cases h
def Aia:RN:=fun get n args=>match args with
 | [.sl rows gr]=>match Xq get rows with
  |some xss=>if xss.length<2 ^ 36∧xss.flatten.length<2 ^ 36 then
    (match xss.flatten with
     | []=>none
     |xs=>some (.arr 2 n 0 xs.length xs.length,[.cells (xs.map DL).flatten]))else none
  |none=>none
 |_=>none
theorem Am7(cf:Ah)(args:List D)(st:St)(v:D)(new:St)(h:Aia (fun i=>st[i]?) st.length args=some (v,new)):Kj cf args st=some (v,st++new,[]):=by
 unfold Aia at h;split at h
 case h_2=>cases h
 split at h
 case h_2=>cases h
 rename_i xss hx;split at h
 case isFalse=>cases h
 rename_i hlt;unfold Kj;simp only[U5 hx,hlt,and_self,if_true];split at h
 ·cases h
 ·rename_i xs hne;cases h;split
  ·rename_i he;exact absurd he hne
  ·rfl
def Z7(g:Bz):RN:=fun _ _ args=>match g cf0 args []with
 |some (v,[],[])=>some (v,[])
 |_=>none
def Af0(g:Bz):Prop:=∀cf args st v,g cf0 args []=some (v,[],[])→g cf args st=some (v,st,[])
theorem Pp{g:Bz}(hg:Af0 g)(cf:Ah)(args:List D)(st:St)(v:D)(new:St)(h:Z7 g (fun i=>st[i]?) st.length args=some (v,new)):g cf args st=some (v,st++new,[]):=by
 unfold Z7 at h;split at h
 ·rename_i v' hv;cases h;rw[List.append_nil];exact hg cf args st v hv
 ·cases h
theorem Ad7:Af0 Ew:=fun cf args st v h=>by
 unfold Ew at h ⊢
 repeat' split at h
 all_goals first|(cases h;done)|(cases h;simp_all)
theorem Al9:Af0 K8:=fun cf args st v h=>by
 unfold K8 at h ⊢
 repeat' split at h
 all_goals first|(cases h;done)|(cases h;simp_all)
theorem Amr:Af0 Ld:=fun cf args st v h=>by
 unfold Ld at h ⊢
 repeat' split at h
 all_goals first|(cases h;done)|(cases h;simp_all)
theorem Aih:Af0 E8:=fun cf args st v h=>by
 unfold E8 at h ⊢
 repeat' split at h
 all_goals first|(cases h;done)|(cases h;simp_all)
theorem Afj(rows:List (List D × D)):Af0 (Im rows):=fun cf args st v h=>by
 unfold Im at h ⊢;split at h
 ·cases h;rfl
 ·cases h
def Axt:RN:=fun get n args=>match args with
 | [.map m,.str src]=>match get m with
  |some (.map es)=>match Ac0 es with
   |some all=>match Aw3 all src with
    |some v=>some (v,[])
    |none=>none
   |none=>none
  |_=>none
 |_=>none
theorem Aw2(cf:Ah)(args:List D)(st:St)(v:D)(new:St)(h:Axt (fun i=>st[i]?) st.length args=some (v,new)):Qv cf args st=some (v,st++new,[]):=by
 unfold Axt at h;split at h
 case h_2=>cases h
 split at h
 case h_2=>cases h
 rename_i es hes;split at h
 case h_2=>cases h
 rename_i all hall;split at h
 case h_2=>cases h
 rename_i v0 hv;cases h;unfold Qv;simp only[hes,hall,hv,List.append_nil]
noncomputable def Sr:List (Nat × Aaq):= [(91,rnF Ah9),(283,rnF Adx),(156,rnF Aue),(288,rnF Amy),(45,rnF Anx),(351,rnF (Z7 Ew)),(374,rnF (Z7 K8)),(344,rnF (Z7 Ld)),(183,rnF (Z7 E8)),(232,rnF Aia),(127,rnF Axt),(359,A4g Qm),(180,A4g B3d)]
noncomputable def Avw:FuncId→Option Aaq:=F9 Sr
theorem Ags{α β:Type}{R:Nat→α→β→Prop}:∀{l:List (Nat × α)} {l':List (Nat × β)},l.map (·.1)=l'.map (·.1)→(∀(j:Nat) (p:Nat × α) (q:Nat × β),l[j]?=some p→l'[j]?=some q→R p.1 p.2 q.2)→∀n,match F9 l n,F9 l' n with|some a,some b=>R n a b|none,none=>True|_,_=>False
 | [],[],_,_,n=>trivial
 | [],_::_,h,_,n=>by cases h
 |_::_,[],h,_,n=>by cases h
 |(k,a)::l,(k',b)::l',h,hR,n=>by
  simp only[List.map_cons,List.cons.injEq]at h;obtain⟨rfl,h⟩:=h;have ih:=Ags (R:=R) h (fun j p q hp hq=>hR (j+1) p q (by simpa using hp) (by simpa using hq)) n
  unfold F9;by_cases he:Nat.beq k n=true
  ·have:=Nat.eq_of_beq_eq_true he;subst this;simp only[he,if_true];exact hR 0 _ _ rfl rfl
  ·simp only[he];exact ih
theorem Aoz:Av0 Aw5 Avw:=by
 intro f;have:=Ags (l:=Q9) (l':=Sr) (R:=fun f g fg=>∀cf cfF args st s,O1 st s→Ra (g cf args st) (fg cfF args s)) rfl (fun j p q hp hq=>?_) f
 ·unfold Aw5 Avw;cases h1:F9 Q9 f with
  |none=>
   cases h2:F9 Sr f with
   |none=>rfl
   |some b=>rw[h1,h2]at this;exact this.elim
  |some a=>
   cases h2:F9 Sr f with
   |none=>rw[h1,h2]at this;exact this.elim
   |some b=>rw[h1,h2]at this;exact⟨a,rfl,this⟩
 ·match j with
  |0=>cases hp;cases hq;exact Fu Am4
  |1=>cases hp;cases hq;exact Fu Alv
  |2=>cases hp;cases hq;exact Fu Au8
  |3=>cases hp;cases hq;exact Fu Arw
  |4=>cases hp;cases hq;exact Fu Asd
  |5=>cases hp;cases hq;exact Fu (Pp Ad7)
  |6=>cases hp;cases hq;exact Fu (Pp Al9)
  |7=>cases hp;cases hq;exact Fu (Pp Amr)
  |8=>cases hp;cases hq;exact Fu (Pp Aih)
  |9=>cases hp;cases hq;exact Fu Am7
  |10=>cases hp;cases hq;exact Fu Aw2
  |11=>cases hp;cases hq;exact Afu (Ba1 359 Qm rfl)
  |12=>cases hp;cases hq;exact Afu (Ba1 180 B3d rfl)
  |j+13=>cases hp
def Ax1:D→D→Bool
 | .tup a,.tup b=>Aci a b
 | .undef,.undef=>true
 |a,b=>Apk a b
theorem Alo{a b:D}(h:Ax1 a b=true):a=b:=by
 unfold Ax1 at h;split at h
 ·rw[Rs h]
 ·rfl
 ·exact Akp h
noncomputable def okV(r:Fh)(v:D):Bool:=match r with
 | .ok v' _ _=>Ax1 v' v
 |_=>false
noncomputable def Ad3:List (List D × D):=(List.range 64).map fun(n:Nat)=>([.int .i64 (n:Int)],.str (P7 n))
noncomputable def Bdc(r:List D × D):Bool:=okV (Zv C1 Avw 2000 30 100 r.1 (Yn [])) r.2 && !F6 0 r.1 && Sn r.2
end Go.Vam
set_option maxRecDepth 1000000
namespace Go.Vam
open Go.Proofs Go.Proofs.Tryz Go.RowKit
theorem k37:Ad3.all Bdc=true:=by kernel_rfl
theorem Agy{β:Nat→Nat→Option Value}(hM:I6 β):∀r∈Ad3,Akr prog β 100 r.1 r.2:=by
 intro r hr';have h1:=List.all_eq_true.1 k37 r hr';unfold Bdc at h1;simp only[Bool.and_eq_true,Bool.not_eq_true']at h1;obtain⟨⟨h1,h2⟩,h3⟩:=h1;unfold okV at h1;split at h1
 ·rename_i v' s W hc;rw[Alo h1]at hc;have h4:=S9 Aoz (st:= []) hc;exact row_of ((Aq5 (Ame hM) 2000 30).just 100) h4 h2 h3
 ·cases h1
def Oj:Bz:=fun _ args st=>match args with
 | [d]=>match Ob st d with
  |some ss=>if(ss.length<2 ^ 40∧(Jp (Qf P7) ss).length<2 ^ 40)∧ss.all (fun s=>decide (s.length<64))=true then some (.str (Jp (Qf P7) ss),st,[])else none
  |none=>none
 |_=>none
theorem Ae8(cf:Ah):Ba (Oj cf):=Gl (fun cf args st v st' W h=>by
 unfold Oj at h;split at h
 case h_2=>cases h
 split at h
 case h_2=>cases h
 split at h
 case isFalse=>cases h
 cases h;rfl) cf
theorem Aht{β:Nat→Nat→Option Value}(hM:I6 β)(cf:Ah):Ji prog β 71 (Oj cf):=by
 intro args st v st' W h g w A hb hs hA;unfold Oj at h;split at h
 case h_2=>cases h
 rename_i d;split at h
 case h_2=>cases h
 rename_i ss hss;split at h
 case isFalse=>cases h
 rename_i hlen;cases h;obtain⟨v0,rfl⟩:=K9 (A:=A) (by simpa using hA.size)
 have hv0:VR g d v0:=hA.at_ 0 _ _ rfl rfl;obtain⟨p,cap,rfl,h2,h3⟩:=Wo hs hv0 hss;refine(Tryz.put338 P7 p ss cap w hlen.1.1 hlen.1.2 h3 ?_).mono ?_
 ·intro s wr hsm hfr;obtain⟨hsr,_⟩:=Xi hs hfr;have hsl:s.length<64:=by simpa using List.all_eq_true.1 hlen.2 s hsm
  have hrow:=Agy hM ([.int .i64 (s.length:Int)],.str (P7 s.length)) (List.mem_map.2 ⟨s.length,List.mem_range.2 hsl,rfl⟩);refine(hrow st g wr #[.int .i64 (s.length:Int)] hb hsr ⟨rfl,fun j d x hj hx=>?_⟩).mono ?_
  ·match j with
   |0=>cases hj;cases hx;exact .int _ _
   |j+1=>simp at hj
  ·rintro e w' ⟨r,g',rfl,hv,hs',hst,hf⟩;refine⟨by rw[C9 hv],hst.os,hst.out,hst.size,fun k hk=>hst.fr k hk fun id hid=>by cases hid⟩
 ·rintro e w' ⟨rfl,hb'⟩;obtain⟨h4,h5⟩:=Xi hs hb';exact⟨_,g,rfl,VR.str ⟨(Jp (Qf P7) ss).toArray⟩,h4,h5,Dx.refl _ _⟩
noncomputable def Aso:FuncId→Option Bz:=F9 ((100,Im Ad3)::(71,Oj)::Q9)
theorem Ad8{f:FuncId}{nt:Bz}(h:Aso f=some nt):(f=100∧nt=Im Ad3)∨(f=71∧nt=Oj)∨Aw5 f=some nt:=by
 unfold Aso at h;unfold F9 at h;split at h
 ·rename_i he;cases h;exact .inl ⟨(Nat.eq_of_beq_eq_true he).symm,rfl⟩
 ·unfold F9 at h;split at h
  ·rename_i he;cases h;exact .inr (.inl ⟨(Nat.eq_of_beq_eq_true he).symm,rfl⟩)
  ·exact .inr (.inr h)
theorem Aty{β:Nat→Nat→Option Value}(hM:I6 β):Ww C1 β Aso:=by
 refine⟨fun f nt h cf hX=>?_,fun f nt h cf hk=>?_⟩
 ·rcases Ad8 h with⟨rfl,rfl⟩|⟨rfl,rfl⟩|h
  ·exact Qg (Agy hM) cf
  ·exact Aht hM cf
  ·exact(Ame hM).just f nt h cf hX
 ·rcases Ad8 h with⟨rfl,rfl⟩|⟨rfl,rfl⟩|h
  ·exact Ou cf
  ·exact Ae8 cf
  ·exact(Ame hM).keeps f nt h cf hk
def Ava:RN:=fun get n args=>match args with
 | [d]=>match Y3 get d with
  |some ss=>if(ss.length<2 ^ 40∧(Jp (Qf P7) ss).length<2 ^ 40)∧ss.all (fun s=>decide (s.length<64))=true then some (.str (Jp (Qf P7) ss),[])else none
  |none=>none
 |_=>none
theorem Awx(cf:Ah)(args:List D)(st:St)(v:D)(new:St)(h:Ava (fun i=>st[i]?) st.length args=some (v,new)):Oj cf args st=some (v,st++new,[]):=by
 unfold Ava at h;split at h
 case h_2=>cases h
 split at h
 case h_2=>cases h
 rename_i ss hss;split at h
 case isFalse=>cases h
 rename_i hlt;cases h;unfold Oj;simp only[Nz hss,hlt,and_self,if_true,List.append_nil]
noncomputable def Avk:FuncId→Option Aaq:=F9 ((100,rnF (Z7 (Im Ad3)))::(71,rnF Ava)::Sr)
theorem A4x:Av0 Aso Avk:=by
 intro f;unfold Aso Avk;unfold F9;by_cases h1:Nat.beq 100 f=true
 ·simp only[h1,if_true];exact⟨_,rfl,Fu (Pp (Afj _))⟩
 ·simp only[h1];unfold F9;by_cases h2:Nat.beq 71 f=true
  ·simp only[h2,if_true];exact⟨_,rfl,Fu Awx⟩
  ·simp only[h2];exact Aoz f
end Go.Vam
namespace Go.Vam
open Go.Proofs Go.Proofs.Tryz
noncomputable def As8(rows:List (Nat × List (List D × D))):FuncId→Option Bz:=fun f=>match F9 rows f with
 |some rs=>some (Im rs)
 |none=>Aso f
def Ia(β:Nat→Nat→Option Value)(rows:List (Nat × List (List D × D))):Prop:=∀p∈rows,∀r∈p.2,Akr prog β p.1 r.1 r.2
theorem Aqa{β:Nat→Nat→Option Value}{rows:List (Nat × List (List D × D))}(hM:I6 β)(hr:Ia β rows):Ww C1 β (As8 rows):=by
 refine⟨fun f nt h cf hX=>?_,fun f nt h cf hk=>?_⟩
 ·unfold As8 at h;split at h
  ·rename_i rs hrs;cases h;exact Qg (hr _ (J4 hrs)) cf
  ·exact(Aty hM).just f nt h cf hX
 ·unfold As8 at h;split at h
  ·cases h;exact Ou cf
  ·exact(Aty hM).keeps f nt h cf hk
theorem An0{β:Nat→Nat→Option Value}:Ia β []:=fun p hp=>by cases hp
noncomputable def An7:List (List D × D):= [
 ([.agg [.str [114],.sl [[.str [115]]] .none,.sl [[.str [120]]] .none,.sl [] .none,.sl [[.str [120],.int .i64 (1),.sl [[.str [115]]] .none,.sl [] .none,.int .i64 (0)]] .none]],.int .i64 (0)),([.agg [.str [99],.sl [[.str [121]]] .none,.sl [[.str [122]]] .none,.sl [[.str [97]]] .none,.sl [[.str [122],.int .i64 (5),.sl [[.str [121]]] .none,.sl [] .none,.int .i64 (0)]] .none]],.int .i64 (0)),([.agg [.str [97],.sl [[.str [115]]] .none,.sl [[.str [120]]] .none,.sl [] .none,.sl [[.str [120],.int .i64 (5),.sl [[.str [115]]] .none,.sl [] .none,.int .i64 (0)]] .none]],.int .i64 (0)),([.agg [.str [98],.sl [[.str [120]]] .none,.sl [[.str [121]]] .none,.sl [] .none,.sl [[.str [121],.int .i64 (5),.sl [[.str [120]]] .none,.sl [] .none,.int .i64 (0)]] .none]],.int .i64 (0)),([.agg [.str [114],.sl [[.str [97]],[.str [98]]] .none,.sl [[.str [120]],[.str [121]]] .none,.sl [] .none,.sl [[.str [116],.int .i64 (3),.sl [[.str [97]]] .none,.sl [] .none,.int .i64 (0)],[.str [120],.int .i64 (4),.sl [[.str [116]]] .none,.sl [] .none,.int .i64 (0)],[.str [121],.int .i64 (2),.sl [[.str [98]]] .none,.sl [] .none,.int .i64 (0)]] .none]],.int .i64 (0)),([.agg [.str [115],.sl [[.str [120]]] .none,.sl [[.str [97]]] .none,.sl [] .none,.sl [[.str [97],.int .i64 (1),.sl [[.str [120]]] .none,.sl [] .none,.int .i64 (0)]] .none]],.int .i64 (0))]
noncomputable def Ati:List (List D × D):= [
 ([.sl [] .none],.tup [.int .i64 (0),.str []]),([.sl [[.str [114],.sl [[.str [115]]] .none,.sl [[.str [120]]] .none,.sl [] .none,.sl [[.str [120],.int .i64 (1),.sl [[.str [115]]] .none,.sl [] .none,.int .i64 (0)]] .none]] .none],.tup [.int .i64 (0),.str []]),([.sl [[.str [99],.sl [[.str [121]]] .none,.sl [[.str [122]]] .none,.sl [[.str [97]]] .none,.sl [[.str [122],.int .i64 (5),.sl [[.str [121]]] .none,.sl [] .none,.int .i64 (0)]] .none],[.str [97],.sl [[.str [115]]] .none,.sl [[.str [120]]] .none,.sl [] .none,.sl [[.str [120],.int .i64 (5),.sl [[.str [115]]] .none,.sl [] .none,.int .i64 (0)]] .none],[.str [98],.sl [[.str [120]]] .none,.sl [[.str [121]]] .none,.sl [] .none,.sl [[.str [121],.int .i64 (5),.sl [[.str [120]]] .none,.sl [] .none,.int .i64 (0)]] .none]] .none],.tup [.int .i64 (0),.str []]),([.sl [[.str [114],.sl [[.str [97]],[.str [98]]] .none,.sl [[.str [120]],[.str [121]]] .none,.sl [] .none,.sl [[.str [116],.int .i64 (3),.sl [[.str [97]]] .none,.sl [] .none,.int .i64 (0)],[.str [120],.int .i64 (4),.sl [[.str [116]]] .none,.sl [] .none,.int .i64 (0)],[.str [121],.int .i64 (2),.sl [[.str [98]]] .none,.sl [] .none,.int .i64 (0)]] .none]] .none],.tup [.int .i64 (0),.str []]),([.sl [[.str [115],.sl [[.str [120]]] .none,.sl [[.str [97]]] .none,.sl [] .none,.sl [[.str [97],.int .i64 (1),.sl [[.str [120]]] .none,.sl [] .none,.int .i64 (0)]] .none],[.str [114],.sl [[.str [97]],[.str [98]]] .none,.sl [[.str [120]],[.str [121]]] .none,.sl [] .none,.sl [[.str [116],.int .i64 (3),.sl [[.str [97]]] .none,.sl [] .none,.int .i64 (0)],[.str [120],.int .i64 (4),.sl [[.str [116]]] .none,.sl [] .none,.int .i64 (0)],[.str [121],.int .i64 (2),.sl [[.str [98]]] .none,.sl [] .none,.int .i64 (0)]] .none]] .none],.tup [.int .i64 (0),.str []])]
noncomputable def Awu:List (List D × D):= [
 ([.sl [] .none],.tup [.int .i64 (0),.str []]),([.sl [[.str [114],.sl [[.str [115]]] .none,.sl [[.str [120]]] .none,.sl [] .none,.sl [[.str [120],.int .i64 (1),.sl [[.str [115]]] .none,.sl [] .none,.int .i64 (0)]] .none]] .none],.tup [.int .i64 (0),.str []]),([.sl [[.str [99],.sl [[.str [121]]] .none,.sl [[.str [122]]] .none,.sl [[.str [97]]] .none,.sl [[.str [122],.int .i64 (5),.sl [[.str [121]]] .none,.sl [] .none,.int .i64 (0)]] .none],[.str [97],.sl [[.str [115]]] .none,.sl [[.str [120]]] .none,.sl [] .none,.sl [[.str [120],.int .i64 (5),.sl [[.str [115]]] .none,.sl [] .none,.int .i64 (0)]] .none],[.str [98],.sl [[.str [120]]] .none,.sl [[.str [121]]] .none,.sl [] .none,.sl [[.str [121],.int .i64 (5),.sl [[.str [120]]] .none,.sl [] .none,.int .i64 (0)]] .none]] .none],.tup [.int .i64 (0),.str []]),([.sl [[.str [114],.sl [[.str [97]],[.str [98]]] .none,.sl [[.str [120]],[.str [121]]] .none,.sl [] .none,.sl [[.str [116],.int .i64 (3),.sl [[.str [97]]] .none,.sl [] .none,.int .i64 (0)],[.str [120],.int .i64 (4),.sl [[.str [116]]] .none,.sl [] .none,.int .i64 (0)],[.str [121],.int .i64 (2),.sl [[.str [98]]] .none,.sl [] .none,.int .i64 (0)]] .none]] .none],.tup [.int .i64 (0),.str []]),([.sl [[.str [115],.sl [[.str [120]]] .none,.sl [[.str [97]]] .none,.sl [] .none,.sl [[.str [97],.int .i64 (1),.sl [[.str [120]]] .none,.sl [] .none,.int .i64 (0)]] .none],[.str [114],.sl [[.str [97]],[.str [98]]] .none,.sl [[.str [120]],[.str [121]]] .none,.sl [] .none,.sl [[.str [116],.int .i64 (3),.sl [[.str [97]]] .none,.sl [] .none,.int .i64 (0)],[.str [120],.int .i64 (4),.sl [[.str [116]]] .none,.sl [] .none,.int .i64 (0)],[.str [121],.int .i64 (2),.sl [[.str [98]]] .none,.sl [] .none,.int .i64 (0)]] .none]] .none],.tup [.int .i64 (3),.str [114]])]
noncomputable def Ap7:List (List D × D):= [
 ([.sl [[.str [99],.sl [[.str [121]]] .none,.sl [[.str [122]]] .none,.sl [[.str [97]]] .none,.sl [[.str [122],.int .i64 (5),.sl [[.str [121]]] .none,.sl [] .none,.int .i64 (0)]] .none],[.str [97],.sl [[.str [115]]] .none,.sl [[.str [120]]] .none,.sl [] .none,.sl [[.str [120],.int .i64 (5),.sl [[.str [115]]] .none,.sl [] .none,.int .i64 (0)]] .none],[.str [98],.sl [[.str [120]]] .none,.sl [[.str [121]]] .none,.sl [] .none,.sl [[.str [121],.int .i64 (5),.sl [[.str [120]]] .none,.sl [] .none,.int .i64 (0)]] .none]] .none,.str [99],.str [97]],.bool true)]
noncomputable def A9m:List (Nat × List (List D × D)):= [(123,An7)]
noncomputable def A9x:List (Nat × List (List D × D)):=(76,Ati)::A9m
noncomputable def Bbr:List (Nat × List (List D × D)):=(46,Awu)::A9x
noncomputable def Np:List (List D × D):= [([],.bool true)]
noncomputable def A9g:List (Nat × List (List D × D)):=(400,Np)::Bbr
noncomputable def A6z:List (Nat × List (List D × D)):=(342,Np)::A9g
noncomputable def Aai:List (Nat × List (List D × D)):=(182,Np)::A6z
noncomputable def Rf:List (Nat × List (List D × D)):=(253,Ap7)::Aai
noncomputable def Ba7:List (Nat × List (List D × D)):=(163,Np)::Rf
noncomputable def A4f:List (Nat × List (List D × D)):=(74,Np)::Ba7
end Go.Vam
namespace Go.Vam
open Go.Proofs
def Bbs:Gr→Gr→Bool
 | .none,.none=>true
 | .exact,.exact=>true
 | .tok a b,.tok c d=>a == c && b == d
 |_,_=>false
theorem A1f{a b:Gr}(h:Bbs a b=true):a=b:=by
 unfold Bbs at h;split at h
 ·rfl
 ·rfl
 ·simp only[Bool.and_eq_true,beq_iff_eq]at h;rw[h.1,h.2]
 ·cases h
mutual
def Ank:D→D→Bool
 | .undef,.undef=>true
 | .int k a,.int k' b=>k == k' && a == b
 | .bool a,.bool b=>a == b
 | .str a,.str b=>a == b
 | .nilp,.nilp=>true
 | .ptr a b,.ptr c d=>a == c && b == d
 | .eptr a,.eptr b=>Aam a b
 | .nilsl,.nilsl=>true
 | .sl r g,.sl r' g'=>Aoq r r' && Bbs g g'
 | .arr a b c d e,.arr a' b' c' d' e'=>a == a' && b == b' && c == c' && d == d' && e == e'
 | .nilmap,.nilmap=>true
 | .map a,.map b=>a == b
 | .nilfunc,.nilfunc=>true
 | .func f a b,.func f' a' b'=>f == f' && Aam a a' && Aam b b'
 | .nilif,.nilif=>true
 | .iface t d,.iface t' d'=>t == t' && Ank d d'
 | .agg a,.agg b=>Aam a b
 | .tup a,.tup b=>Aam a b
 |_,_=>false
def Aam:List D→List D→Bool
 | [],[]=>true
 |a::x,b::y=>Ank a b && Aam x y
 |_,_=>false
def Aoq:List (List D)→List (List D)→Bool
 | [],[]=>true
 |a::x,b::y=>Aam a b && Aoq x y
 |_,_=>false
end
mutual
theorem Xa:∀{a b:D},Ank a b=true→a=b:=fun {a b} h=>by
 unfold Ank at h;split at h
 case h_19=>cases h
 all_goals first
  |rfl
  |rw[Mh h]
  |(simp only[Bool.and_eq_true,beq_iff_eq]at h
    first
     |rw[h]
     |rw[h.1,h.2]
     |rw[h.1,Xa h.2]
     |rw[h.1.1,Mh h.1.2,Mh h.2]
     |rw[Ajb h.1,A1f h.2]
     |rw[h.1.1.1.1,h.1.1.1.2,h.1.1.2,h.1.2,h.2]
     |rw[Mh h])
theorem Mh:∀{x y:List D},Aam x y=true→x=y
 | [],[],_=>rfl
 |a::x,b::y,h=>by unfold Aam at h;rw[Bool.and_eq_true]at h;rw[Xa h.1,Mh h.2]
 | [],_::_,h=>by cases h
 |_::_,[],h=>by cases h
theorem Ajb:∀{x y:List (List D)},Aoq x y=true→x=y
 | [],[],_=>rfl
 |a::x,b::y,h=>by unfold Aoq at h;rw[Bool.and_eq_true]at h;rw[Mh h.1,Ajb h.2]
 | [],_::_,h=>by cases h
 |_::_,[],h=>by cases h
end
def A4a:List (D × D)→List (D × D)→Bool
 | [],[]=>true
 |a::x,b::y=>Ank a.1 b.1 && Ank a.2 b.2 && A4a x y
 |_,_=>false
theorem Aoh:∀{x y:List (D × D)},A4a x y=true→x=y
 | [],[],_=>rfl
 |(a,a')::x,(b,b')::y,h=>by unfold A4a at h;simp only[Bool.and_eq_true]at h;rw[Xa h.1.1,Xa h.1.2,Aoh h.2]
 | [],_::_,h=>by cases h
 |_::_,[],h=>by cases h
def A7w:Obj→Obj→Bool
 | .cells a,.cells b=>Aam a b
 | .fcells a,.fcells b=>Aam a b
 | .map a,.map b=>A4a a b
 | .tok a,.tok b=>a == b
 | .iter s p,.iter s' p'=>s == s' && p == p'
 | .dead,.dead=>true
 |_,_=>false
theorem Ayq{a b:Obj}(h:A7w a b=true):a=b:=by
 unfold A7w at h;split at h
 ·rw[Mh h]
 ·rw[Mh h]
 ·rw[Aoh h]
 ·rw[beq_iff_eq.1 h]
 ·simp only[Bool.and_eq_true,beq_iff_eq]at h;rw[h.1,h.2]
 ·rfl
 ·cases h
def Ax4:St→St→Bool
 | [],[]=>true
 |a::x,b::y=>A7w a b && Ax4 x y
 |_,_=>false
theorem Ahd:∀{x y:St},Ax4 x y=true→x=y
 | [],[],_=>rfl
 |a::x,b::y,h=>by unfold Ax4 at h;simp only[Bool.and_eq_true]at h;rw[Ayq h.1,Ahd h.2]
 | [],_::_,h=>by cases h
 |_::_,[],h=>by cases h
structure F3 where
 args:List D
 st:St
 v:D
 st':St
 W:Cb
def Aqn(args:List D)(st:St):List F3→Option F3
 | []=>none
 |r::l=>if Nat.beq (List.length r.st) (List.length st) && (Aam r.args args && Ax4 r.st st)then some r else Aqn args st l
theorem Acu{args:List D}{st:St}{r:F3}:∀{l:List F3},Aqn args st l=some r→r∈l∧r.args=args∧r.st=st
 | [],h=>by cases h
 |x::l,h=>by
  unfold Aqn at h;split at h
  ·rename_i he;cases h;simp only[Bool.and_eq_true]at he;exact⟨by simp,Mh he.2.1,Ahd he.2.2⟩
  ·obtain⟨h1,h2⟩:=Acu h;exact⟨List.mem_cons_of_mem _ h1,h2⟩
def A5a(rows:List F3):Bz:=fun _ args st=>match Aqn args st rows with
 |some r=>some (r.v,r.st',r.W)
 |none=>none
def Rx(β:Nat→Nat→Option Value)(f:FuncId)(r:F3):Prop:=∃nat N n,Ww C1 β nat∧Ii C1 nat N n f r.args r.st=some (r.v,r.st',r.W)
noncomputable def Ath(srows:List (Nat × List F3))(rows:List (Nat × List (List D × D))):FuncId→Option Bz:=fun f=>match F9 srows f with
 |some rs=>some (A5a rs)
 |none=>As8 rows f
def Oh(β:Nat→Nat→Option Value)(srows:List (Nat × List F3)):Prop:=∀p∈srows,∀r∈p.2,Rx β p.1 r
theorem Ao9{β:Nat→Nat→Option Value}{srows:List (Nat × List F3)}{rows:List (Nat × List (List D × D))}(hM:I6 β)(hs:Oh β srows)(hr:Ia β rows):Ww C1 β (Ath srows rows):=by
 have hrow:∀{f:FuncId} {rs:List F3},F9 srows f=some rs→∀{args:List D} {st:St} {v:D} {st':St} {W:Cb},A5a rs (fun _ _ _=>none) args st=some (v,st',W)→∃nat N n,Ww C1 β nat∧Ii C1 nat N n f args st=some (v,st',W):=fun {f rs} h {args st v st' W} h1=>by
  unfold A5a at h1;split at h1
  ·rename_i r hr;cases h1;obtain⟨h2,rfl,rfl⟩:=Acu hr;exact hs _ (J4 h) r h2
  ·cases h1
 refine⟨fun f nt h cf hX=>?_,fun f nt h cf hk=>?_⟩
 ·unfold Ath at h;split at h
  ·rename_i rs hrs;cases h;intro args st v st' W h1;obtain⟨nat,N,n,h2,h3⟩:=hrow hrs h1;exact(Aq5 h2 N n).just f args st v st' W h3
  ·exact(Aqa hM hr).just f nt h cf hX
 ·unfold Ath at h;split at h
  ·rename_i rs hrs;cases h;intro args st v st' W h1;obtain⟨nat,N,n,h2,h3⟩:=hrow hrs h1;exact(Aq5 h2 N n).keeps f args st v st' W h3
  ·exact(Aqa hM hr).keeps f nt h cf hk
def Ayg:Cb→Cb→Bool
 | [],[]=>true
 |a::x,b::y=>Nat.beq a b && Ayg x y
 |_,_=>false
theorem Aqe:∀{x y:Cb},Ayg x y=true→x=y
 | [],[],_=>rfl
 |a::x,b::y,h=>by unfold Ayg at h;rw[Bool.and_eq_true]at h;rw[Nat.eq_of_beq_eq_true h.1,Aqe h.2]
 | [],_::_,h=>by cases h
 |_::_,[],h=>by cases h
theorem Cc{β:Nat→Nat→Option Value}:Oh β []:=fun p hp=>by cases hp
theorem Ev{β:Nat→Nat→Option Value}{srows:List (Nat × List F3)}{f:Nat}{rs:List F3}(hs:Oh β srows)(h:∀r∈rs,Rx β f r):Oh β ((f,rs)::srows):=by
 intro p hp;rcases List.mem_cons.1 hp with rfl|hp
 ·exact h
 ·exact hs p hp
end Go.Vam
set_option maxRecDepth 100000
namespace Go.Vam
open Go.Proofs
noncomputable def Aof(srows:List (Nat × List F3))(rows:List (Nat × List (List D × D))):FuncId→Option Aaq:=fun f=>match F9 srows f with
 |some rs=>some (A4g (A5a rs))
 |none=>match F9 rows f with
  |some rs=>some (rnF (Z7 (Im rs)))
  |none=>Avk f
theorem Alk(srows:List (Nat × List F3))(rows:List (Nat × List (List D × D))):Av0 (Ath srows rows) (Aof srows rows):=by
 intro f;unfold Ath As8 Aof;cases h1:F9 srows f with
 |some rs=>exact⟨_,rfl,Afu fun cf args st v st' W h=>h⟩
 |none=>
  cases h2:F9 rows f with
  |some rs=>exact⟨_,rfl,Fu (Pp (Afj rs))⟩
  |none=>exact A4x f
noncomputable def Ll(srows:List (Nat × List F3))(rows:List (Nat × List (List D × D)))(n f:Nat)(r:List D × D):Bool:=
 okV (Zv C1 (Aof srows rows) 2000 n f r.1 (Yn [])) r.2 && !F6 0 r.1 && Sn r.2
theorem Ej{β:Nat→Nat→Option Value}{srows:List (Nat × List F3)}{rows:List (Nat × List (List D × D))}{n f:Nat}{rs:List (List D × D)}(hM:I6 β)(hs:Oh β srows)(hr:Ia β rows)(h:rs.all (Ll srows rows n f)=true):
  Ia β ((f,rs)::rows):=by
 intro p hp;rcases List.mem_cons.1 hp with rfl|hp
 ·intro r hr';have h1:=List.all_eq_true.1 h r hr';unfold Ll at h1;simp only[Bool.and_eq_true,Bool.not_eq_true']at h1;obtain⟨⟨h1,h2⟩,h3⟩:=h1;unfold okV at h1;split at h1
  ·rename_i v' s W hc;rw[Alo h1]at hc;have h4:=S9 (Alk srows rows) (st:= []) hc;exact row_of ((Aq5 (Ao9 hM hs hr) 2000 n).just f) h4 h2 h3
  ·cases h1
 ·exact hr p hp
noncomputable def Pd(srows:List (Nat × List F3))(rows:List (Nat × List (List D × D)))(n f:Nat)(r:F3):Bool:=match Zv C1 (Aof srows rows) 2000 n f r.args (Yn r.st)with
 | .ok v s W=>Ank v r.v && Ax4 (stF s) r.st' && Ayg W r.W
 |_=>false
theorem Ea{β:Nat→Nat→Option Value}{srows:List (Nat × List F3)}{rows:List (Nat × List (List D × D))}{n f:Nat}{r:F3}(hM:I6 β)(hs:Oh β srows)(hr:Ia β rows)(h:Pd srows rows n f r=true):Rx β f r:=by
 unfold Pd at h;split at h
 ·rename_i v s W hc;simp only[Bool.and_eq_true]at h;have h4:=S9 (Alk srows rows) hc;rw[Xa h.1.1,Ahd h.1.2,Aqe h.2]at h4;exact⟨_,_,_,Ao9 hM hs hr,h4⟩
 ·cases h
end Go.Vam
