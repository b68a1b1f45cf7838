/-
  More native calls of this program; ranges over maps.
-/
import Derived.Test.YtanifnfklgldpaaGreatDoorVae
import Derived.Shelf.Spec.SlicesGrow
import Derived.Laws.AppendOwnNone
set_option linter.unusedSimpArgs false
set_option linter.unusedVariables false
namespace Go.Vam
open Go.RowKit
theorem Ag1{w w':World}{g0:G}{st0:St}{v:Value}{e:TypeId}{sz n:Nat}{xs:List Value}{ds:List D}(hs:Co g0 st0 w)(hsz:w.heap.size≤w'.heap.size)(hold:∀b,b<w.heap.size→w'.heap[b]?=w.heap[b]?)(hos:w'.os=w.os)(hout:w'.output=w.output)
  (ho:w'.ownsRow w.heap.size e sz v n xs)(hne:v≠ .slice none 0 0)(hl:ds.length=n*sz)(hv:∀(j:Nat) (d:D) (u:Value),ds[j]?=some d→xs[j]?=some u→VR g0 d u):
  ∃g',Co g' (st0++ [.cells ds]) w'∧Step g0 st0 w [] g' (st0++ [.cells ds]) w'∧Dx g0 st0 g'∧VR g' (.arr sz st0.length 0 n n) v:=by
 obtain⟨hxl,ho⟩:=ho;rcases ho with⟨h,_⟩|⟨c,cap,cur,rfl,hcn,hh,hc1,hc2,hcs,hct⟩
 ·exact absurd h hne
 have hfree:g0.loc st0.length=none∧g0.tk st0.length=none:=by
  constructor
  ·cases hl:g0.loc st0.length with
   |none=>rfl
   |some c=>exact absurd (hs.loc_lt hl) (by omega)
  ·cases hl:g0.tk st0.length with
   |none=>rfl
   |some c=>exact absurd (hs.tk_lt hl) (by omega)
 have hm:Gd g0 (g0.addLoc st0.length c cur.size):=by
  refine⟨fun i b h=>⟨?_,?_⟩,fun _ _ _ h=>h,fun _ k h=>⟨k,h,Nat.le_refl _,fun _=>rfl⟩,rfl⟩
  ·have:=hs.loc_lt h;simp[G.addLoc,upd_ne (show i≠st0.length by omega),h]
  ·have:=hs.blk _ _ h;simp only[G.addLoc];rw[upd_ne (by omega)]
 have hle:n*sz≤cur.size:=by rw[hcs];exact Nat.mul_le_mul_right _ hc1
 have hobj:Ri (g0.addLoc st0.length c cur.size) (.cells ds) c w':=by
  refine⟨cur,e,(0,0),hh,by simp[G.addLoc,Bv],fun o _ h=>by simp at h,by omega,fun j d u hj hu=>?_,fun o=>Q6 hs c o hcn⟩
  have hj':j<n*sz:=by rw[← hl];exact(List.getElem?_eq_some_iff.1 hj).1
  refine(hv j d u hj ?_).mono hm;rw[← hct,List.getElem?_take,if_pos hj'];simpa using hu
 obtain⟨h6,h7⟩:=hs.grow (g':=g0.addLoc st0.length c cur.size) (st':=st0++ [.cells ds]) hm hsz hold
  (fun id o h=>by rw[List.getElem?_append_left (List.getElem?_eq_some_iff.1 h).1];exact h) (fun _ _ _ h=> .inl h)
  (fun i b h=>by
   by_cases hi:i=st0.length
   ·subst hi;simp only[G.addLoc,Bv]at h;cases h;exact .inr ⟨hcn,(Array.getElem?_eq_some_iff.1 hh).1,_,by simp,hobj⟩
   ·simp only[G.addLoc,upd_ne hi]at h;exact .inl h) (fun _ _ h=> .inl h)
  (by
   have key:∀i b,w.heap.size≤b→Own (g0.addLoc st0.length c cur.size) (st0++ [.cells ds]) i b→i=st0.length:=by
    rintro i b hb (⟨h,_⟩|⟨k,h,rfl⟩)
    ·by_cases hi:i=st0.length
     ·exact hi
     ·simp only[G.addLoc,upd_ne hi]at h;exact absurd (hs.blk _ _ h) (by omega)
    ·obtain⟨_,A,T,fr,hk⟩:=hs.tok _ _ h;exact absurd (lt_of_heap hk.heap) (by omega)
   intro i i' b hb h h';rw[key i b hb h,key i' b hb h']) hos hout
 refine⟨_,h6,h7,fun i hi p q=>⟨by simp[G.addLoc,upd_ne (show i≠st0.length by omega),p],q⟩,?_⟩
 exact .arr (by simp[G.addLoc,Bv]) (Nat.le_refl _) hc1 (by simp[G.addLoc,Bv,hcs])
end Go.Vam
namespace Go.Vam
open Go.Proofs Go.Proofs.Tryz Go.RowKit
def Pv:Bz:=fun _ args st=>match args with
 | [.nilsl]=>some (.nilsl,st,[])
 | [.sl [] _]=>some (.sl [] .none,st,[])
 | [d]=>match Ob st d with
  |some ss=>if ss.length<2 ^ 40∧ss≠ []then some (.arr 1 st.length 0 ss.length ss.length,st++ [.cells (ss.map D.str)],[])else none
  |none=>none
 |_=>none
theorem Acj(cf:Ah):Ba (Pv cf):=by
 intro args st v st' W h;unfold Pv at h
 repeat' split at h
 all_goals (first|cases h)
 all_goals first|exact⟨Nat.le_refl _,fun _ _ _=>rfl⟩|exact Jh
theorem Ae9{β:Nat→Nat→Option Value}(cf:Ah):Ji prog β 45 (Pv cf):=by
 intro args st v st' W h g w A hb hs hA;unfold Pv at h;split at h
 ·cases h;obtain⟨v0,rfl⟩:=K9 (A:=A) (by simpa using hA.size)
  have hv0:VR g .nilsl v0:=hA.at_ 0 _ _ rfl rfl;cases hv0;refine(Tryz.slices_Clone_string_nil 0 0 w).mono ?_;rintro e w' ⟨rfl,rfl⟩;exact⟨_,g,rfl,.nilsl,hs,Step.refl _ _ _,Dx.refl _ _⟩
 ·rename_i gr;cases h;obtain⟨v0,rfl⟩:=K9 (A:=A) (by simpa using hA.size)
  have hv0:VR g (.sl [] gr) v0:=hA.at_ 0 _ _ rfl rfl;cases hv0 with
  |slNil=>refine(Tryz.slices_Clone_string_nil 0 0 w).mono ?_;rintro e w' ⟨rfl,rfl⟩;exact⟨_,g,rfl,.slNil (fun t n h=>by cases h),hs,Step.refl _ _ _,Dx.refl _ _⟩
  |sl hsz hI hv hcap hgr=>
   refine(Tryz.slices_Clone_string_zero _ _ w).mono ?_;rintro e w' ⟨v',rfl,ho,hne,hb'⟩;obtain⟨h4,h5⟩:=Kz hs hb';refine⟨_,g,rfl,?_,h4,h5,Dx.refl _ _⟩;obtain⟨_,ho⟩:=ho;rcases ho with⟨h,_⟩|⟨c,cap,cur,rfl,hcn,hh,hc1,hc2,hcs,hct⟩
   ·exact absurd h hne
   ·exact .sl (sz:=1) (rows:= []) (fun r hr=>by cases hr) (fun i r j d h=>by simp at h) (fun i r j d v h=>by simp at h) (Nat.zero_le _) trivial
  |slEmp hn hc0=>
   refine(Tryz.slices_Clone_string_zero _ _ w).mono ?_;rintro e w' ⟨v',rfl,ho,hne,hb'⟩;obtain⟨h4,h5⟩:=Kz hs hb';refine⟨_,g,rfl,?_,h4,h5,Dx.refl _ _⟩;obtain⟨_,ho⟩:=ho;rcases ho with⟨h,_⟩|⟨c,cap,cur,rfl,hcn,hh,hc1,hc2,hcs,hct⟩
   ·exact absurd h hne
   ·exact .sl (sz:=1) (rows:= []) (fun r hr=>by cases hr) (fun i r j d h=>by simp at h) (fun i r j d v h=>by simp at h) (Nat.zero_le _) trivial
 ·rename_i d hd1 hd2;split at h
  case h_2=>cases h
  rename_i ss hss;split at h
  case isFalse=>cases h
  rename_i hlen;cases h;obtain⟨v0,rfl⟩:=K9 (A:=A) (by simpa using hA.size)
  have hv0:VR g d v0:=hA.at_ 0 _ _ rfl rfl;obtain⟨p,cap,rfl,h2,h3⟩:=Wo hs hv0 hss;rcases h3 with h3|⟨c,o,rfl,hc,hcell⟩
  ·exact absurd h3 hlen.2
  have hl:(ss.map fun s=>ByteArray.mk s.toArray).length=ss.length:=by simp
  have:=Tryz.slices_Clone_string c o ss.length cap (ss.map fun s=>⟨s.toArray⟩) w (by rw[hl];exact Nat.le_refl _) (by omega) (fun j hj=>by rw[hl]at hj;rw[hcell j _ (List.getElem?_eq_getElem hj)];simp[List.getD,hj,encStr])
  refine this.mono ?_;rintro e w' ⟨v',rfl,ho,hne,hb'⟩;obtain⟨g',h4,h5,h6,h7⟩:=Ag1 (ds:=ss.map D.str) hs hb'.size hb'.block hb'.os hb'.output ho hne (by simp) (fun j d u hd hu=>by
   have htk:((ss.map fun s=>ByteArray.mk s.toArray).take ss.length)=ss.map fun s=>ByteArray.mk s.toArray:=List.take_of_length_le (by simp)
   rw[htk]at hu;simp only[List.getElem?_map]at hd hu;cases hj:ss[j]? with
   |none=>rw[hj]at hd;cases hd
   |some s=>rw[hj]at hd hu;cases hd;cases hu;exact VR.str ⟨s.toArray⟩)
  exact⟨_,g',rfl,h7,h4,h5,h6⟩
 ·cases h
def Ahz(c:UInt8):List UInt8→Nat→Int
 | [],_=> -1
 |b::l,i=>if Nat.beq b.toNat c.toNat then i else Ahz c l (i+1)
theorem Aqc(c:UInt8):∀(l:List UInt8) (i:Nat),Ahz c l i=if Lib.indexByte l c= -1 then -1 else i+Lib.indexByte l c
 | [],i=>by simp[Ahz,Lib.indexByte]
 |b::l,i=>by
  have ih:=Aqc c l (i+1);have hge:=Lib.indexByte_ge l c;have e2:Nat.beq b.toNat c.toNat=(b == c):=by rw[Bool.eq_iff_iff,Nat.beq_eq,UInt8.toNat_inj,beq_iff_eq]
  rw[Ahz,Lib.indexByte,e2];cases h:b == c with
  |true=>simp
  |false=>
   simp only[if_false,Bool.false_eq_true];rw[ih];by_cases h1:Lib.indexByte l c= -1
   ·simp[h1]
   ·have h2:¬ (Lib.indexByte l c == -1)=true:=by simpa using h1
    rw[if_neg h1,if_neg h2,if_neg (by omega)]
    omega
theorem Aq2(l:List UInt8)(c:UInt8):Ahz c l 0=Lib.indexByte l c:=by
 rw[Aqc];split
 ·rename_i h;rw[h]
 ·simp
def preB:List UInt8→List UInt8→Bool
 | [],_=>true
 |_::_,[]=>false
 |a::x,b::y=>Nat.beq a.toNat b.toNat && preB x y
theorem Aph:∀(x y:List UInt8),preB x y=x.isPrefixOf y
 | [],y=>by simp[preB]
 |a::x,[]=>by simp[preB]
 |a::x,b::y=>by
  have ih:=Aph x y;have e2:Nat.beq a.toNat b.toNat=(a == b):=by rw[Bool.eq_iff_iff,Nat.beq_eq,UInt8.toNat_inj,beq_iff_eq]
  rw[preB,ih,e2,List.isPrefixOf]
def Aj5(sub:List UInt8):List UInt8→Nat→Int
 | [],i=>match sub with
  | []=>i
  |_=> -1
 |b::l,i=>if preB sub (b::l)then i else Aj5 sub l (i+1)
theorem Apl(sub:List UInt8):∀(l:List UInt8) (i:Nat),Aj5 sub l i=if Lib.index l sub= -1 then -1 else i+Lib.index l sub
 | [],i=>by cases sub<;>simp[Aj5,Lib.index]
 |b::l,i=>by
  have ih:=Apl sub l (i+1);have hge:=Lib.index_ge l sub;rw[Aj5,Lib.index,Aph];cases h:sub.isPrefixOf (b::l)with
  |true=>simp
  |false=>
   simp only[if_false,Bool.false_eq_true];rw[ih];by_cases h1:Lib.index l sub= -1
   ·simp[h1]
   ·have h2:¬ (Lib.index l sub == -1)=true:=by simpa using h1
    rw[if_neg h1,if_neg h2,if_neg (by omega)]
    omega
theorem Yv(l sub:List UInt8):Aj5 sub l 0=Lib.index l sub:=by
 rw[Apl];split
 ·rename_i h;rw[h]
 ·simp
def Aka(sub:List UInt8):Nat→List UInt8→Nat
 |0,_=>0
 |fuel+1,s=>match Aj5 sub s 0 with
  | .ofNat i=>1+Aka sub fuel (s.drop (i+sub.length))
  | .negSucc _=>0
theorem Aba(sub:List UInt8):∀(fuel:Nat) (s:List UInt8),Aka sub fuel s=Lib.countFrom sub fuel s
 |0,s=>rfl
 |fuel+1,s=>by
  have hge:=Lib.index_ge s sub;rw[Aka,Lib.countFrom,Yv];cases h:Lib.index s sub with
  |ofNat i=>
   rw[if_neg (by simp)]
   show 1+Aka sub fuel (s.drop (i+sub.length))=_;rw[Aba sub fuel];rfl
  |negSucc n=>
   rw[h]at hge;have:n=0:=by omega
   subst this;rw[if_pos (by rfl)]
def Ar3(old new:List UInt8):Nat→List UInt8→List UInt8
 |0,s=>s
 |k+1,s=>match Aj5 old s 0 with
  | .ofNat i=>s.take i++(new++Ar3 old new k (s.drop (i+old.length)))
  | .negSucc _=>s
theorem An6(old new:List UInt8):∀(k:Nat) (s:List UInt8),Ar3 old new k s=Lib.replaceK old new k s
 |0,s=>rfl
 |k+1,s=>by
  have hge:=Lib.index_ge s old;rw[Ar3,Lib.replaceK,Yv];cases h:Lib.index s old with
  |ofNat i=>
   rw[if_neg (by simp)]
   show s.take i++(new++Ar3 old new k (s.drop (i+old.length)))=_;rw[An6 old new k,List.append_assoc];rfl
  |negSucc n=>
   rw[h]at hge;have:n=0:=by omega
   subst this;rw[if_pos (by rfl)]
def I6(β:Nat→Nat→Option Value):Prop:=∃m:Int,β 1 0=some (.int .i64 m)
theorem Xd{β:Nat→Nat→Option Value}{g:G}{st:St}{w:World}(h:I6 β)(hb:g.base=β)(hs:Co g st w):∃m:Int,w.cell? ⟨1,0,none⟩=some (.int .i64 m):=by obtain⟨m,h⟩:=h;exact⟨m,hs.imm _ _ _ (hs.base _ _ _ (by rw[hb];exact h)).1⟩
theorem Ac6{g:G}{st:St}{w:World}{d:D}{v:Value}(hs:Co g st w)(hv:VR g d v):∃r g',Ending.returned v= .returned r∧VR g' d r∧Co g' st w∧Step g st w [] g' st w∧Dx g st g':=
 ⟨v,g,rfl,hv,hs,Step.refl _ _ _,Dx.refl _ _⟩
def byteOf(n:Int):UInt8:=n.toNat.toUInt8
def Ew:Bz:=fun _ args st=>match args with
 | [.str s,.int .u8 c]=>some (.int .i64 (Ahz (byteOf c) s 0),st,[])
 |_=>none
theorem N8{β:Nat→Nat→Option Value}(cf:Ah):Ji prog β 351 (Ew cf):=by
 intro args st v st' W h g w A hb hs hA;unfold Ew at h;split at h
 case h_2=>cases h
 rename_i s c;cases h;obtain⟨v0,v1,rfl⟩:=Ku (A:=A) (by simpa using hA.size)
 have hv0:VR g (.str s) v0:=hA.at_ 0 _ _ rfl rfl;have hv1:VR g (.int .u8 c) v1:=hA.at_ 1 _ _ rfl rfl;rw[C9 hv0];cases hv1;refine(Tryz.stringslite_IndexByte ⟨s.toArray⟩ c w).mono ?_;rintro e w' ⟨rfl,rfl⟩;rw[Aq2];exact Ac6 hs (.int _ _)
def K8:Bz:=fun _ args st=>match args with
 | [.str s,.str t]=>if s.length<4294967281 then some (.int .i64 (Aj5 t s 0),st,[])else none
 |_=>none
theorem Ae6{β:Nat→Nat→Option Value}(hβ:I6 β)(cf:Ah):Ji prog β 374 (K8 cf):=by
 intro args st v st' W h g w A hb hs hA;unfold K8 at h;split at h
 case h_2=>cases h
 rename_i s t;split at h
 case isFalse=>cases h
 rename_i hl;cases h;obtain⟨v0,v1,rfl⟩:=Ku (A:=A) (by simpa using hA.size)
 have hv0:VR g (.str s) v0:=hA.at_ 0 _ _ rfl rfl;have hv1:VR g (.str t) v1:=hA.at_ 1 _ _ rfl rfl;rw[C9 hv0,C9 hv1];obtain⟨m,hm⟩:=Xd hβ hb hs;refine(Tryz.stringslite_Index ⟨s.toArray⟩ ⟨t.toArray⟩ m w hl hm).mono ?_;rintro e w' ⟨rfl,rfl⟩;rw[Yv];exact Ac6 hs (.int _ _)
def Ld:Bz:=fun _ args st=>match args with
 | [.str s,.str (b::t)]=>if s.length<4294967281 then some (.int .i64 (Aka (b::t) (s.length+1) s),st,[])else none
 |_=>none
theorem Aet{β:Nat→Nat→Option Value}(hβ:I6 β)(cf:Ah):Ji prog β 344 (Ld cf):=by
 intro args st v st' W h g w A hb hs hA;unfold Ld at h;split at h
 case h_2=>cases h
 rename_i s b t;split at h
 case isFalse=>cases h
 rename_i hl;cases h;obtain⟨v0,v1,rfl⟩:=Ku (A:=A) (by simpa using hA.size)
 have hv0:VR g (.str s) v0:=hA.at_ 0 _ _ rfl rfl;have hv1:VR g (.str (b::t)) v1:=hA.at_ 1 _ _ rfl rfl;rw[C9 hv0,C9 hv1];obtain⟨m,hm⟩:=Xd hβ hb hs;refine(Tryz.strings_Count_any ⟨s.toArray⟩ ⟨(b::t).toArray⟩ m w hl hm (by show 1≤(b::t).length;simp)).mono ?_
 rintro e w' ⟨rfl,rfl⟩;rw[Aba];exact Ac6 hs (.int _ _)
def E8:Bz:=fun _ args st=>match args with
 | [.str s,.str (b::t),.str new]=>if s.length<4294967281∧s.length+Aka (b::t) (s.length+1) s*new.length≤2 ^ 40 then
   some (.str (if J5 (b::t) new && J5 new (b::t)then s else Ar3 (b::t) new (Aka (b::t) (s.length+1) s) s),st,[])else none
 |_=>none
theorem Vn{β:Nat→Nat→Option Value}(hβ:I6 β)(cf:Ah):Ji prog β 183 (E8 cf):=by
 intro args st v st' W h g w A hb hs hA;unfold E8 at h;split at h
 case h_2=>cases h
 rename_i s b t new;split at h
 case isFalse=>cases h
 rename_i hl;cases h;obtain⟨v0,v1,v2,rfl⟩:∃x y z,A= #[x,y,z]:=by
  have h3:A.size=3:=by simpa using hA.size
  refine⟨A[0],A[1],A[2],?_⟩;apply Array.ext_getElem?;intro j
  match j with
  |0=>simp
  |1=>simp
  |2=>simp
  |j+3=>rw[Array.getElem?_eq_none (by omega)];rfl
 have hv0:VR g (.str s) v0:=hA.at_ 0 _ _ rfl rfl;have hv1:VR g (.str (b::t)) v1:=hA.at_ 1 _ _ rfl rfl;have hv2:VR g (.str new) v2:=hA.at_ 2 _ _ rfl rfl;rw[C9 hv0,C9 hv1,C9 hv2];obtain⟨m,hm⟩:=Xd hβ hb hs;rw[Aba]at hl;refine(Tryz.strings_ReplaceAll ⟨s.toArray⟩ ⟨(b::t).toArray⟩ ⟨new.toArray⟩ m w hl.1 hm (by show 1≤(b::t).length;simp) (by have:=hl.2;show s.length+Lib.count s (b::t)*new.length≤_;unfold Lib.count;omega)).mono ?_
 rintro e w' ⟨rfl,hb'⟩;have e1:(if J5 (b::t) new && J5 new (b::t)then s else Ar3 (b::t) new (Aka (b::t) (s.length+1) s) s)=Lib.replaceAll s (b::t) new:=by
  unfold Lib.replaceAll Lib.replace Lib.replaceNum Lib.count;rw[Aba,An6];by_cases h:(b::t)=new
  ·subst h;have h5:=M3 (b::t) (b::t);simp only[Bool.or_self]at h5;rw[h5];simp
  ·have h6:(J5 (b::t) new && J5 new (b::t))=false:=by
    cases h7:J5 (b::t) new with
    |false=>rfl
    |true=>
     cases h8:J5 new (b::t)with
     |false=>rfl
     |true=>exact absurd (Mf _ _ h7 h8) h
   rw[h6];have h9:((b::t) == new)=false:=by simpa using h
   rw[h9];simp
 rw[e1];obtain⟨h4,h5⟩:=Kz hs hb';exact⟨_,g,rfl,VR.str ⟨(Lib.replaceAll s (b::t) new).toArray⟩,h4,h5,Dx.refl _ _⟩
theorem Gl{x:Bz}(h:∀cf args st v st' W,x cf args st=some (v,st',W)→st'=st)(cf:Ah):Ba (x cf):=by intro args st v st' W hx;rw[h _ _ _ _ _ _ hx];exact⟨Nat.le_refl _,fun _ _ _=>rfl⟩
theorem Nl(cf:Ah):Ba (Ew cf):=Gl (fun cf args st v st' W h=>by unfold Ew at h;repeat' split at h;all_goals (cases h;try rfl)) cf
theorem Ac5(cf:Ah):Ba (K8 cf):=Gl (fun cf args st v st' W h=>by
 unfold K8 at h;split at h
 case h_2=>cases h
 split at h
 case isFalse=>cases h
 cases h;rfl) cf
theorem Acp(cf:Ah):Ba (Ld cf):=Gl (fun cf args st v st' W h=>by
 unfold Ld at h;split at h
 case h_2=>cases h
 split at h
 case isFalse=>cases h
 cases h;rfl) cf
theorem Uu(cf:Ah):Ba (E8 cf):=Gl (fun cf args st v st' W h=>by
 unfold E8 at h;split at h
 case h_2=>cases h
 split at h
 case isFalse=>cases h
 cases h;rfl) cf
end Go.Vam
namespace Go.Vam
open Go.Proofs.Tryz
def Av3:Nat→Nat→List UInt8→List UInt8
 |0,_,a=>a
 |k+1,n,a=>if Nat.blt n 10 then UInt8.ofNat (48+n)::a else Av3 k (n / 10) (UInt8.ofNat (48+n % 10)::a)
theorem Apx:∀(k n:Nat) (a:List UInt8),n<10 ^ (k+1)→Av3 (k+1) n a=Lib.decDigits n++a
 |0,n,a,h=>by
  have h1:n<10:=by simpa using h
  rw[Av3,Lib.decDigits,if_pos (by simpa using h1),dif_pos h1]
  rfl
 |k+1,n,a,h=>by
  rw[Av3,Lib.decDigits];by_cases h1:n<10
  ·rw[if_pos (by simpa using h1),dif_pos h1]
   rfl
  ·rw[if_neg (by simpa using h1),dif_neg h1,Apx k (n / 10) _ (by rw[Nat.pow_succ]at h;omega)]
   simp
def P7(n:Nat):List UInt8:=Av3 19 n []
theorem Ahi(n:Nat)(h:n<2 ^ 62):P7 n=Lib.decDigits n:=by rw[P7,Apx 18 n [] (by omega),List.append_nil]
end Go.Vam
namespace Go.Proofs
open Go.Lib Go.Proofs.Tryz Go.RowKit Go.Shelf Go.Sort Go.Vam
set_option maxHeartbeats 1000000 in
theorem Tryz.number37(n:Nat)(hn:n<2 ^ 62)(w:World)(htab:Lib.TabIs prog w "internal/strconv.uint64pow10" .u64 Lib.pow10Tab):
  Calls prog 100 #[.int .i64 n] w fun e w'=>e= .returned (encStr (P7 n))∧Fr w.heap.size w w':=by
 have hcon:=Tryz.strconv_Itoa n (by omega) (by omega) w htab
 have e:Lib.itoa (n:Int)=P7 n:=by
  rw[Ahi n hn,Lib.itoa,if_neg (by omega)]
  rfl
 rw[e]at hcon;generalize P7 n=r at hcon
 go_enter func100,ntmps100
 go_wp2_with (go_at_call 148;refine hcon.mono ?_;rintro e w' ⟨rfl,k,os,rfl⟩)
 go_ret
 refine⟨rfl,rfl,rfl,?_,fun k hk=>?_⟩
 ·show w.heap.size≤(w.heap++os).size;simp
 ·show(w.heap++os)[k]?=w.heap[k]?;rw[Array.getElem?_append_left hk]
end Go.Proofs
namespace Go.Vam
open Go.Proofs Go.Proofs.Tryz Go.RowKit
def Aw0(β:Nat→Nat→Option Value):Prop:=∀(g:G) (st:St) (w:World),g.base=β→Co g st w→Lib.TabIs prog w "internal/strconv.uint64pow10" .u64 Lib.pow10Tab
def Ae1:Bz:=fun _ args st=>match args with
 | [.int .i64 (.ofNat n)]=>if n<2 ^ 62 then some (.str (P7 n),st,[])else none
 |_=>none
theorem Bf8{β:Nat→Nat→Option Value}(hT:Aw0 β)(cf:Ah):Ji prog β 100 (Ae1 cf):=by
 intro args st v st' W h g w A hb hs hA;unfold Ae1 at h;split at h
 case h_2=>cases h
 rename_i n;split at h
 case isFalse=>cases h
 rename_i hn;cases h;obtain⟨v0,rfl⟩:=K9 (A:=A) (by simpa using hA.size)
 have hv0:VR g (.int .i64 (.ofNat n)) v0:=hA.at_ 0 _ _ rfl rfl;cases hv0;refine(Tryz.number37 n hn w (hT g st w hb hs)).mono ?_;rintro e w' ⟨rfl,hf⟩;obtain⟨h4,h5⟩:=Xi hs hf;exact⟨_,g,rfl,VR.str ⟨(P7 n).toArray⟩,h4,h5,Dx.refl _ _⟩
def Aqh:Bz:=fun _ args st=>match args with
 | [d]=>match Ob st d with
  |some ss=>if ss.length<2 ^ 40∧(Jp (Qf P7) ss).length<2 ^ 40 then some (.str (Jp (Qf P7) ss),st,[])else none
  |none=>none
 |_=>none
theorem Aya{F:List UInt8→List UInt8}{s:List UInt8}:∀{ss:List (List UInt8)},s∈ss→(F s).length≤(Jp F ss).length
 |x::l,h=>by
  rcases List.mem_cons.1 h with rfl|h
  ·simp[Jp]
  ·have:=Aya (F:=F) h;simp[Jp];omega
theorem Bgr{β:Nat→Nat→Option Value}(hT:Aw0 β)(cf:Ah):Ji prog β 71 (Aqh cf):=by
 intro args st v st' W h g w A hb hs hA;unfold Aqh at h;split at h
 case h_2=>cases h
 rename_i d;split at h
 case h_2=>cases h
 rename_i ss hss;split at h
 case isFalse=>cases h
 rename_i hlen;cases h;obtain⟨v0,rfl⟩:=K9 (A:=A) (by simpa using hA.size)
 have hv0:VR g d v0:=hA.at_ 0 _ _ rfl rfl;obtain⟨p,cap,rfl,h2,h3⟩:=Wo hs hv0 hss;refine(Tryz.put338 P7 p ss cap w hlen.1 hlen.2 h3 ?_).mono ?_
 ·intro s wr hsm hfr;obtain⟨hsr,_⟩:=Xi hs hfr;have hsl:s.length<2 ^ 62:=by
   have h5:=Aya (F:=Qf P7) hsm;have h6:s.length≤(Qf P7 s).length:=by simp[Qf];omega
   omega
  exact Tryz.number37 s.length hsl wr (hT g st wr hb hsr)
 ·rintro e w' ⟨rfl,hb'⟩;obtain⟨h4,h5⟩:=Xi hs hb';exact⟨_,g,rfl,VR.str ⟨(Jp (Qf P7) ss).toArray⟩,h4,h5,Dx.refl _ _⟩
end Go.Vam
namespace Go.Vam
open Go.RowKit
section
variable{g0 g:G}{st0 st:St}{w0 w w1:World}{ds:List Deferred}{e:Env}{W:Cb}{a:Act}
def Acg(g:G)(st:St)(r:Nat):Prop:=∀id,¬ Own g st id r
theorem Acg.step{g':G}{st':St}{w':World}{V:Cb}{r:Nat}(h:Acg g st r)(hs:Step g st w V g' st' w')(hr:r<w.heap.size):Acg g' st' r:=fun id ho=>by
 rcases hs.own id r ho hr with h1|⟨id',_,h1⟩
 ·exact h _ h1
 ·exact h _ h1
theorem Co.iter{r:Nat}{ob ob':Go.Obj}(hs:Co g st w)(hno:Acg g st r)(hr:w.heap[r]?=some ob)(hc:ob.isCells=false)(hh:∀k,k≠r→w1.heap[k]?=w.heap[k]?)(hr':w1.heap[r]?=some ob')(hsz:w1.heap.size=w.heap.size):Co g st w1:=by
 have hcell:∀(b o:Nat) (v:Value),w.cell? ⟨b,o,none⟩=some v→w1.cell? ⟨b,o,none⟩=some v:=fun b o v h=>by
  have hne:b≠r:=by rintro rfl;have:∃ob:Go.Obj,w.heap[b]?=some ob∧ob.isCells=true:=cells_of_cell (a:=⟨b,o,none⟩) h;obtain⟨ob2,h1,h2⟩:=this;rw[hr]at h1;cases h1;rw[hc]at h2;cases h2
  unfold World.cell? at h ⊢;rw[hh b hne];exact h
 refine⟨fun id c hl=>?_,fun t k ht=>?_,hs.inj,fun b o v h=>hcell b o v (hs.imm b o v h),fun id c hl=>by rw[hsz];exact hs.blk id c hl,fun b o v h=>⟨(hs.base b o v h).1,(hs.base b o v h).2.1,fun o' ho'=>(by
  have h1:=hs.imm _ _ _ (hs.base b o v h).1;have h2:=(hs.base b o v h).2.2 o' ho';have hne:b≠r:=by rintro rfl;have:∃ob:Go.Obj,w.heap[b]?=some ob∧ob.isCells=true:=cells_of_cell (a:=⟨b,o,none⟩) h1;obtain⟨ob2,h1,h2⟩:=this;rw[hr]at h1;cases h1;rw[hc]at h2;cases h2
  unfold World.cell? at h2 ⊢;rw[hh b hne];exact h2)⟩⟩
 ·obtain⟨o,ho,hobj⟩:=hs.obj id c hl;refine⟨o,ho,?_⟩;by_cases hlive:live o=true
  ·have hne:c≠r:=by rintro rfl;exact hno id (.inl ⟨hl,o,ho,hlive⟩)
   cases o with
   |cells cs=>obtain⟨A,T,fr,h1⟩:=hobj;exact⟨A,T,fr,(hh c hne).trans h1.heap,h1.size,h1.fr,h1.len,h1.at_,h1.own⟩
   |map es=>obtain⟨M,k,h1⟩:=hobj;exact⟨M,k,(hh c hne).trans h1.heap,h1.size,h1.at_,h1.born,h1.lt⟩
   |iter s pos=>obtain⟨b,h1,h2⟩:=hobj;exact⟨b,(hh c hne).trans h1,h2⟩
   |tok n=>exact hobj
   |dead=>cases hlive
   |fcells cs=>cases hlive
  ·cases o with
   |dead=>trivial
   |fcells cs=>exact hobj
   |_=>exact absurd rfl hlive
 ·obtain⟨h1,A,T,fr,h2⟩:=hs.tok t k ht;have hne:k.blk≠r:=fun e=>hno t (.inr ⟨k,ht,e⟩);exact⟨h1,A,T,fr,(hh _ hne).trans h2.heap,h2.hi,h2.ce,h2.fr,h2.own⟩
theorem At.iter{r:Nat}{ob ob':Go.Obj}(hA:At g0 st0 w0 ds e st W a w g)(hno:Acg g st r)(hr:w.heap[r]?=some ob)(hc:ob.isCells=false)(hh:∀k,k≠r→w1.heap[k]?=w.heap[k]?)(hr':w1.heap[r]?=some ob')
  (hsz:w1.heap.size=w.heap.size)(hos:w1.os=w.os)(hout:w1.output=w.output)(h0:w0.heap.size≤r):At g0 st0 w0 ds e st W a w1 g:=
 ⟨hA.sim.iter hno hr hc hh hr' hsz,⟨hA.step.mono,by rw[hsz];exact hA.step.size,fun b hb hn=>by rw[hh b (by omega)];exact hA.step.fr b hb hn,hA.step.own,hos.trans hA.step.os,hout.trans hA.step.out⟩,hA.free,hA.env,hA.defers,hA.k⟩
theorem At.range{dst:Option Tmp}{ob:Go.Obj}(hA:At g0 st0 w0 ds e st W a w g)(hw:w1=w.alloc ob):
  ∃g1,At g0 st0 w0 ds (Am e dst (.ptr st.length 0)) (st++ [.dead]) W (a.put dst (.pointer (some ⟨w.heap.size,0,none⟩))) w1 g1∧g1.loc st.length=some w.heap.size∧Acg g1 (st++ [.dead]) w.heap.size∧(∀id c,g.loc id=some c→g1.loc id=some c):=by
 have hs:=hA.sim;have hsz:w.heap.size≤w1.heap.size:=by subst hw;show _≤(w.heap.push ob).size;simp
 have hold:∀b,b<w.heap.size→w1.heap[b]?=w.heap[b]?:=fun b hb=>by subst hw;show(w.heap.push ob)[b]?=_;rw[Array.getElem?_push,if_neg (by omega)]
 have hos:w1.os=w.os:=by subst hw;rfl
 have hout:w1.output=w.output:=by subst hw;rfl
 have hlt1:w.heap.size<w1.heap.size:=by subst hw;show _<(w.heap.push ob).size;simp
 clear hw;have hfree:g.loc st.length=none∧g.tk st.length=none:=by
  constructor
  ·cases hl:g.loc st.length with
   |none=>rfl
   |some c=>exact absurd (hs.loc_lt hl) (by omega)
  ·cases hl:g.tk st.length with
   |none=>rfl
   |some c=>exact absurd (hs.tk_lt hl) (by omega)
 have hm:Gd g (g.addLoc st.length w.heap.size 0):=by
  refine⟨fun i b h=>⟨?_,?_⟩,fun _ _ _ h=>h,fun _ k h=>⟨k,h,Nat.le_refl _,fun _=>rfl⟩,rfl⟩
  ·have:=hs.loc_lt h;simp[G.addLoc,upd_ne (show i≠st.length by omega),h]
  ·have:=hs.blk _ _ h;simp only[G.addLoc];rw[upd_ne (by omega)]
 have hown:∀i b,Own (g.addLoc st.length w.heap.size 0) (st++ [.dead]) i b→Own g st i b:=by
  rintro i b (⟨h,o,ho,hlv⟩|⟨k,h,rfl⟩)
  ·by_cases hi:i=st.length
   ·subst hi;simp at ho;subst ho;cases hlv
   ·simp only[G.addLoc,upd_ne hi]at h;have hil:=hs.loc_lt h;rw[List.getElem?_append_left hil]at ho;exact .inl ⟨h,o,ho,hlv⟩
  ·exact .inr ⟨k,h,rfl⟩
 obtain⟨h6,h7⟩:=hs.grow (w':=w1) (g':=g.addLoc st.length w.heap.size 0) (st':=st++ [.dead]) hm hsz hold
  (fun id o h=>by rw[List.getElem?_append_left (List.getElem?_eq_some_iff.1 h).1];exact h) (fun _ _ _ h=> .inl h)
  (fun i b h=>by
   by_cases hi:i=st.length
   ·subst hi;simp only[G.addLoc,Bv]at h;cases h;exact .inr ⟨Nat.le_refl _,hlt1,.dead,by simp,trivial⟩
   ·simp only[G.addLoc,upd_ne hi]at h;exact .inl h) (fun _ _ h=> .inl h)
  (fun i i' b hb h h'=>absurd (hs.own_lt (hown i b h)) (by omega)) hos hout
 refine⟨_,⟨h6,hA.step.trans h7,hA.free.trans (fun i hi p q=>⟨by simp[G.addLoc,upd_ne (show i≠st.length by omega),p],q⟩) hA.k.1,G5 (hA.env.mono h7.mono) (.ptr (by simp[G.addLoc,Bv])),by rw[Act.put_defers'];exact hA.defers,(hA.k.trans (K.app (W:= [])))⟩,by simp[G.addLoc,Bv],fun id ho=>?_,fun id c h=>(hm.loc id c h).1⟩
 exact absurd (hs.own_lt (hown _ _ ho)) (by omega)
def Ki(M:Array MapEntry)(i:Nat):Nat:=match M[i]? with
 |some m=>m.born
 |none=>0
structure Aqp(g:G)(st:St)(w:World)(idR r m c:Nat)(es:List (D × D))(M:Array MapEntry)(k0:Nat)(pre:List Nat):Prop where
 loc:g.loc idR=some r
 no:Acg g st r
 it:w.heap[r]?=some (.mapIter (some c) k0 (pre.map (Ki M)).toArray k0)
 lm:g.loc m=some c
 hm:st[m]?=some (.map es)
 hM:w.heap[c]?=some (.map M k0)
 size:M.size=es.length
 vr:∀(j:Nat) (e:D × D) (x:MapEntry),es[j]?=some e→M[j]?=some x→VR g e.1 x.key∧VR g e.2 x.val
 born:(M.toList.map (·.born)).Nodup
 lt:∀x∈M.toList,x.born<k0
theorem Aqp.step{g':G}{st':St}{w':World}{V:Cb}{idR r m c k0:Nat}{es:List (D × D)}{M:Array MapEntry}{pre:List Nat}(h:Aqp g st w idR r m c es M k0 pre)(hs:Co g st w)(hst:Step g st w V g' st' w')
  (hm:m ∉ V)(hk:st'[m]?=st[m]?):Aqp g' st' w' idR r m c es M k0 pre:=by
 have hrl:r<w.heap.size:=(Array.getElem?_eq_some_iff.1 h.it).1;have hcl:c<w.heap.size:=(Array.getElem?_eq_some_iff.1 h.hM).1;have hmo:Own g st m c:= .inl ⟨h.lm,_,h.hm,rfl⟩;refine⟨(hst.mono.loc _ _ h.loc).1,h.no.step hst hrl,(hst.fr r hrl fun id _=>h.no id).trans h.it,(hst.mono.loc _ _ h.lm).1,hk.trans h.hm,(hst.fr c hcl fun id hid ho=>?_).trans h.hM,h.size,fun j e x h1 h2=>⟨(h.vr j e x h1 h2).1.mono hst.mono,(h.vr j e x h1 h2).2.mono hst.mono⟩,h.born,h.lt⟩;have:=hs.inj id m c ho hmo;subst this;exact hm hid
theorem Jy{M:Array MapEntry}{i:Nat}{x:MapEntry}(h:M[i]?=some x):Ki M i=x.born:=by unfold Ki;rw[h]
theorem born_inj{M:Array MapEntry}(hn:(M.toList.map (·.born)).Nodup){i j:Nat}(hi:i<M.size)(hj:j<M.size)(h:Ki M i=Ki M j):i=j:=by
 rw[Jy (Array.getElem?_eq_getElem hi),Jy (Array.getElem?_eq_getElem hj)]at h;have h1:M.toList[i]?=some M[i]:=by simp[hi]
 have h2:M.toList[j]?=some M[j]:=by simp[hj]
 have h3:(M.toList.map (·.born))[i]?=(M.toList.map (·.born))[j]?:=by rw[List.getElem?_map,List.getElem?_map,h1,h2];simp[h]
 exact(List.getElem?_inj (by simpa using hi) hn).1 h3
theorem Gp{P:Program}{ops:Array Oper}{Q:Exit→Act→World→Prop}{rest:List Nat}{i:Nat}{o:Oper}{w':World}{r:Value}(d:Option Tmp)(ho:ops[i]?=some o)(hd:o.dst=d)(hg:o.guard=none)(hr:(execOp a.eval o).run P w= .ok (.value r) w')
  (h:wpOps P ops Q rest (a.put d r) w'):wpOps P ops Q (i::rest) a w:=by
 subst hd;simp only[wpOps];rw[ho];dsimp only;rw[show Region.wanted o (yielded ops a.tmps)=true from by simp[Region.wanted,hg]]
 simp only[if_true];refine .inl ?_;unfold Oper.wp;rw[hr];exact h
theorem Aoj{C:Eo}{cf:Ah}{β:Nat→Nat→Option Value}(hX:Ctx C cf β)(hbase:g0.base=β){hh:Bool}{N:Nat}{od:Nat→Option (List Nat × Bool)}{tn tc te ti:Tmp}{b b' id1 id2:Nat}{o1 o2 oe:Oper}{ops2:Array Oper}{l2:List Nat}{body:Code}
  (h1:o1.op= .next (.tmp ti) false)(d1:o1.dst=some tn)(g1:o1.guard=none)(h2:o2.op= .extract (.tmp tn) 0)(d2:o2.dst=some tc)(g2:o2.guard=none)
  (hoe:ops2[0]?=some oe)(he:oe.op= .entry (.tmp ti))(de:oe.dst=some te)(ge:oe.guard=none)(hl2:List.range ops2.size=0::l2)(hod:H6 od body)
  {es:List (D × D)}{m idR r c k0:Nat}{M:Array MapEntry}{Pw:Nat→Prop}{I:List Nat→Env→St→Prop}(hr0:w0.heap.size≤r)(hPm:¬ Pw m)(ht1:ti≠tn)(ht2:ti≠tc)
  (hI:∀pre e st,I pre e st→e[ti]?=some (.ptr idR 0)∧tn<e.length∧tc<e.length∧te<e.length)
  (hstep:∀pre i k v e st,I pre e st→st[m]?=some (.map es)→es[i]?=some (k,v)→i ∉ pre→∃e2 st2 W2 e3 Vy W3,Ay C hh cf false ops2 #[] l2 [] (Am (Am (Am e (some tn) (.tup [.bool true,k,v])) (some tc) (.bool true)) (some te) (.tup [k,v])) st []=some (e2,st2,W2)∧exec C hh od cf N body e2 st2=some (.norm,e3,Vy,W3)∧I (pre++ [i]) e3 Vy∧(∀id∈W2,Pw id)∧(∀id∈W3,Pw id)∧Vy[m]?=some (.map es))
  {Q:Exit→Act→World→Prop}(hA:At g0 st0 w0 ds e st W a w g)(hi:I [] e st)(hit:Aqp g st w idR r m c es M k0 [])
  (hQ:∀pre e' st' W' a' w' g',pre.Perm (List.range es.length)→I pre e' st'→(∀id∈W',id∈W∨Pw id)→At g0 st0 w0 ds (Am (Am e' (some tn) (.tup [.bool false])) (some tc) (.bool false)) st' W' a' w' g'→Q .normal a' w'):
  (Code.block b (.loop (.seq (.region id1 #[o1,o2] false) (.seq (.cond (.tmp tc) .skip (.exit b)) (.block b' (.seq (.region id2 ops2 false) body)))))).wp C.P Q a w:=by
 refine wp_block ?_;refine wp_loop (fun a w=>∃pre e st W' g,At g0 st0 w0 ds e st W' a w g∧I pre e st∧Aqp g st w idR r m c es M k0 pre∧pre.Nodup∧(∀i∈pre,i<es.length)∧∀id∈W',id∈W∨Pw id) (fun _ w=>Zg M r w)
  ⟨[],e,st,W,g,hA,hi,hit,List.nodup_nil,fun i hi=>absurd hi (by simp),fun id h=>Or.inl h⟩ ?_
 clear hA hi hit;rintro a wr ⟨pre,e,st,W',g,hA,hi,hit,hnd,hlt,hW⟩;obtain⟨hti,htn,htc,hte⟩:=hI _ _ _ hi;have hsz:=hA.env.size;have hev:a.eval (.tmp ti)= .pointer (some ⟨r,0,none⟩):=by
  have hl:ti<a.tmps.size:=by rw[hsz];exact(List.getElem?_eq_some_iff.1 hti).1
  have hv:=hA.env.at_ ti _ _ hti (Array.getElem?_eq_getElem hl);show a.tmps.getD ti undef=_;rw[Array.getD_eq_getD_getElem?,Array.getElem?_eq_getElem hl];generalize a.tmps[ti]=x at hv;cases hv with
  |ptr h=>rw[hit.loc]at h;cases h;rfl
 refine wp_seq (wp_region ?_);show wpOps _ _ _ [0,1] _ _;rcases Q4 (P:=C.P) hit.it hit.hM hit.lt with⟨hle,hnx⟩|⟨x,hxl,d,hnx⟩
 ·refine Gp (some tn) rfl d1 g1 (Yg h1 (fun ty=>by rw[hev];exact hnx ty)) ?_
  refine Gp (some tc) rfl d2 g2 (r:= .bool false) (I7 h2 (A:= #[.bool false]) (by rw[eval_put,if_pos ⟨rfl,by rw[hsz];exact htn⟩]) rfl) ?_
  have hA2:At g0 st0 w0 ds (Am (Am e (some tn) (.tup [.bool false])) (some tc) (.bool false)) st W' ((a.put (some tn) (.tuple #[.bool false])).put (some tc) (.bool false)) wr g:=
   ⟨hA.sim,hA.step,hA.free,G5 (G5 hA.env (.tup rfl fun j d v hj hv=>by
    match j with
    |0=>cases hj;cases hv;exact .bool _
    |j+1=>simp at hj)) (.bool _),by rw[Act.put_defers',Act.put_defers'];exact hA.defers,hA.k⟩
  show Code.wp _ _ _ _ _;refine wp_seq (wp_cond_false (by rw[eval_put,if_pos ⟨rfl,by rw[Ar,hsz];exact htc⟩]) (wp_exit ?_))
  simp only[Exit.then,Exit.inBlock,if_true];refine hQ pre e st W' _ _ _ ?_ hi hW hA2;rw[List.perm_ext_iff_of_nodup hnd List.nodup_range];intro i;rw[List.mem_range];refine⟨hlt i,fun hi'=>?_⟩;have hi2:i<M.size:=by rw[hit.size];exact hi'
  by_cases hp:i∈pre
  ·exact hp
  ·have:M[i]∈(leftOf M (pre.map (Ki M)).toArray):=by
    unfold leftOf;rw[Array.mem_filter];refine⟨Array.getElem_mem hi2,?_⟩;simp only[Bool.not_eq_true',← Bool.not_eq_true,Array.contains_iff_mem,List.mem_toArray,List.mem_map];rintro⟨j,hj,hb⟩;have hj2:j<M.size:=by rw[hit.size];exact hlt j hj
    have:j=i:=born_inj hit.born hj2 hi2 (by rw[hb,Jy (Array.getElem?_eq_getElem hi2)])
    exact hp (this ▸ hj)
   rw[hle]at this;simp at this
 ·
  have hxM:x∈M.toList∧x.born ∉ pre.map (Ki M):=by
   have:x∈leftOf M (pre.map (Ki M)).toArray:=by simpa using hxl
   unfold leftOf at this;obtain⟨h3,h4⟩:=Array.mem_filter.1 this;exact⟨by simpa using h3,by simpa using h4⟩
  obtain⟨i,hxi⟩:=List.mem_iff_getElem?.1 hxM.1;rw[Array.getElem?_toList]at hxi;have hiM:i<M.size:=(Array.getElem?_eq_some_iff.1 hxi).1;have hie:i<es.length:=by rw[← hit.size];exact hiM
  have hip:i ∉ pre:=fun h=>hxM.2 (List.mem_map.2 ⟨i,h,Jy hxi⟩);obtain⟨⟨k,v⟩,hes⟩:∃kv,es[i]?=some kv:=⟨_,List.getElem?_eq_getElem hie⟩;obtain⟨hvk,hvv⟩:=hit.vr i _ _ hes hxi;generalize hw2:({wr with drawn:=d,heap:=wr.heap.setIfInBounds r (.mapIter (some c) k0 ((pre.map (Ki M)).toArray.push x.born) k0)}:World)=w2 at hnx;have hrl:r<wr.heap.size:=(Array.getElem?_eq_some_iff.1 hit.it).1;have hrc:c≠r:=by rintro rfl;have h3:=hit.it;rw[hit.hM]at h3;cases h3
  have hwn:∀q,q≠r→w2.heap[q]?=wr.heap[q]?:=fun q hq=>by rw[← hw2];simp only[Array.getElem?_setIfInBounds];rw[if_neg (fun h=>hq h.symm)]
  have hwr:w2.heap[r]?=some (.mapIter (some c) k0 ((pre.map (Ki M)).toArray.push x.born) k0):=by rw[← hw2];simp[hrl]
  have hwM:w2.heap[c]?=some (.map M k0):=(hwn c hrc).trans hit.hM;have hA1:=hA.iter (w1:=w2) hit.no hit.it rfl hwn hwr (by rw[← hw2];simp) (by rw[← hw2]) (by rw[← hw2]) hr0
  refine Gp (some tn) rfl d1 g1 (Yg h1 (fun ty=>by rw[hev];exact hnx ty)) ?_
  refine Gp (some tc) rfl d2 g2 (r:= .bool true) (I7 h2 (A:= #[.bool true,x.key,x.val]) (by rw[eval_put,if_pos ⟨rfl,by rw[hsz];exact htn⟩]) rfl) ?_
  have hA2:At g0 st0 w0 ds (Am (Am e (some tn) (.tup [.bool true,k,v])) (some tc) (.bool true)) st W' ((a.put (some tn) (.tuple #[.bool true,x.key,x.val])).put (some tc) (.bool true)) w2 g:=
   ⟨hA1.sim,hA1.step,hA1.free,G5 (G5 hA1.env (.tup rfl fun j d v' hj hv=>by
    match j with
    |0=>cases hj;cases hv;exact .bool _
    |1=>cases hj;cases hv;exact hvk
    |2=>cases hj;cases hv;exact hvv
    |j+3=>simp at hj)) (.bool _),by rw[Act.put_defers',Act.put_defers'];exact hA1.defers,hA1.k⟩
  have hev2:((a.put (some tn) (.tuple #[.bool true,x.key,x.val])).put (some tc) (.bool true)).eval (.tmp ti)= .pointer (some ⟨r,0,none⟩):=by
   rw[eval_put,if_neg (by simp;intro h;exact absurd h.symm ht2),eval_put,if_neg (by simp;intro h;exact absurd h.symm ht1)]
   exact hev
  show Code.wp _ _ _ _ _;refine wp_seq (wp_cond_true (by rw[eval_put,if_pos ⟨rfl,by rw[Ar,hsz];exact htc⟩]) (wp_skip ?_))
  show Code.wp _ _ _ _ _;refine wp_block (wp_seq (wp_region ?_));rw[hl2];refine Gp (some te) hoe de ge (r:= .tuple #[x.key,x.val]) (Ag8 he (by rw[hev2];exact Qp hwr hwM hxM.1 hit.born)) ?_
  obtain⟨e2,st2,W2,e3,Vy,W3,hr1,hr2,hI3,hP2,hP3,hm3⟩:=hstep pre i k v e st hi hit.hm hes hip;have hA3:At g0 st0 w0 ds (Am (Am (Am e (some tn) (.tup [.bool true,k,v])) (some tc) (.bool true)) (some te) (.tup [k,v])) st W' (((a.put (some tn) (.tuple #[.bool true,x.key,x.val])).put (some tc) (.bool true)).put (some te) (.tuple #[x.key,x.val])) w2 g:=
   ⟨hA2.sim,hA2.step,hA2.free,G5 hA2.env (.tup rfl fun j d v' hj hv=>by
    match j with
    |0=>cases hj;cases hv;exact hvk
    |1=>cases hj;cases hv;exact hvv
    |j+2=>simp at hj),by rw[Act.put_defers'];exact hA2.defers,hA2.k⟩
  generalize(((a.put (some tn) (.tuple #[.bool true,x.key,x.val])).put (some tc) (.bool true)).put (some te) (.tuple #[x.key,x.val]))=a3 at hA3 ⊢;have hb3:g.base=β:=by rw[hA3.step.mono.base];exact hbase
  have hS:=At.start hA3.sim hA3.env;rw[hA3.defers]at hS;refine Ps hX hb3 (fun a4 w4 g4 hA4=>?_) l2 [] _ st [] _ w2 g hr1 hS;show Code.wp _ _ _ _ _;have hb4:g4.base=β:=by rw[hA4.step.mono.base];exact hb3
  refine Vp hX N body hod e2 st2 .norm e3 Vy W3 hr2 _ a4 w4 g4 hA4.sim hA4.env hb4 (fun a5 w5 g5 hA5=>?_);rw[hA4.defers]at hA5;have hA45:=hA4.then hA5;have hA6:=hA3.then hA45;have hV:∀id∈Dj W3 W2,Pw id:=fun id hid=>(Cm.1 hid).elim (hP3 id) (hP2 id);have hit2:Aqp g st w2 idR r m c es M k0 (pre++ [i]):=
   ⟨hit.loc,hit.no,by rw[hwr];simp[Jy hxi],hit.lm,hit.hm,hwM,hit.size,hit.vr,hit.born,hit.lt⟩
  have hit5:=hit2.step hA3.sim hA45.step (fun h=>hPm (hV m h)) (by rw[hm3,hit.hm])
  show _∧_;refine⟨⟨pre++ [i],e3,Vy,_,g5,hA6,hI3,hit5,?_,?_,?_⟩,?_⟩
  ·rw[List.nodup_append];exact⟨hnd,by simp,fun p hp q hq=>by simp at hq;subst hq;exact fun h=>hip (h ▸ hp)⟩
  ·intro j hj;rcases List.mem_append.1 hj with h|h
   ·exact hlt j h
   ·simp at h;subst h;exact hie
  ·intro id hid;rcases Cm.1 hid with h|h
   ·exact .inr (hV id h)
   ·exact hW id h
  ·unfold Zg;rw[hit5.it,hit.it];have h9:=Yx (M:=M) (seen:=(pre.map (Ki M)).toArray) hxl;have h10:((pre++ [i]).map (Ki M)).toArray=(pre.map (Ki M)).toArray.push x.born:=by simp[Jy hxi]
   rw[h10];exact h9
end
end Go.Vam
set_option maxRecDepth 100000
namespace Go.Vam
open Go.Proofs Go.Proofs.Tryz Go.RowKit
noncomputable def Qm:Bz:=fun _ args st=>match args with
 | [.map d,.map s]=>if d=s then none else match st[s]? with
  |some (.map [])=>finish st.length (.tup []) (st++ [.dead]) []
  |some (.map [(k,v)])=>match Hq prog 95 (.map d) k v (st++ [.dead])with
   |some (_,st2,W2)=>if W2= [d]then finish st.length (.tup []) st2 W2 else none
   |none=>none
  |_=>none
 |_=>none
noncomputable def Ac3:Array Oper:=match f359.body with
 |some (.seq _ (.block _ (.loop (.seq _ (.seq _ (.block _ (.seq (.region _ o _) _)))))))=>o
 |_=> #[]
noncomputable def Us:Code:=match f359.body with
 |some (.seq _ (.block _ (.loop (.seq _ (.seq _ (.block _ (.seq _ c)))))))=>c
 |_=> .skip
theorem Ass(C:Eo)(hP:C.P=prog)(cf:Ah)(hh:Bool)(e:Env)(st st2:St)(x:D)(d:Nat)(k v:D)(he:e.length=16)(e0:e[0]?=some (.map d))(hup:Hq prog 95 (.map d) k v st=some (x,st2,[d])):
  ∃e2 e3,Ay C hh cf false Ac3 #[] [1,2,3,4] [] (Am (Am (Am e (some 8) (.tup [.bool true,k,v])) (some 9) (.bool true)) (some 10) (.tup [k,v])) st []=some (e2,st,[])∧exec C hh (fun _=>none) cf 0 Us e2 st=some (.norm,e3,st2,[d])∧e3.length=16∧e3[0]?=e[0]?∧e3[7]?=e[7]?:=by
 have e0':e[0]'(by omega)= .map d:=by obtain⟨h1,h2⟩:=List.getElem?_eq_some_iff.1 e0;exact h2
 simp only[Ac3,Us,f359];simp[exec,region,List.range,List.range.loop,Ay,Ct,loud,Af,Bj,ev,Am,Dy,Ju,hP,Dj,he,e0',hup,Art]
noncomputable def Ajk:Array Oper:=match f359.body with
 |some (.seq (.region _ o _) _)=>o
 |_=> #[]
noncomputable def Xu:Array Oper:=match f359.body with
 |some (.seq _ (.block _ (.loop (.seq (.region _ o _) _))))=>o
 |_=> #[]
noncomputable def opAt(l:Array Oper)(i:Nat):Oper:=l.getD i {dst:=none,op:= .move (.tmp 0),type:=0,pos:= "",after:= #[],guard:=none}
theorem A43:f359.body=some ((Code.region 0 #[opAt Ajk 0,opAt Ajk 1] false).seq (Code.block 0 (Code.loop ((Code.region 1 #[opAt Xu 0,opAt Xu 1] false).seq ((Code.cond (.tmp 9) .skip (.exit 0)).seq (Code.block 1 ((Code.region 2 Ac3 false).seq Us))))))):=by kernel_rfl
theorem A39:H6 (fun _=>none) Us:=by unfold Us;simp only[f359];intro h;cases h
theorem Ai0{C:Eo}(hP:C.P=prog){β:Nat→Nat→Option Value}(cf:Ah)(hX:Ctx C cf β):Ji prog β 359 (Qm cf):=by
 intro args st v st' W h g w A hb hs hA;unfold Qm at h;split at h
 case h_2=>cases h
 rename_i d s;split at h
 ·cases h
 rename_i hds;have hcase:∃es st2 W2,st[s]?=some (.map es)∧((es= []∧st2=st++ [.dead]∧W2= [])∨∃k v x,es= [(k,v)]∧Hq prog 95 (.map d) k v (st++ [.dead])=some (x,st2,W2)∧W2= [d])∧finish st.length (.tup []) st2 W2=some (v,st',W):=by
  split at h
  ·rename_i hst;exact⟨[],_,[],hst,.inl ⟨rfl,rfl,rfl⟩,h⟩
  ·rename_i k v0 hst;split at h
   ·rename_i x st2 W2 hup;split at h
    ·rename_i hW;exact⟨_,_,_,hst,.inr ⟨k,v0,x,rfl,hup,hW⟩,h⟩
    ·cases h
   ·cases h
  ·cases h
 clear h;obtain⟨es,st2,W2,hst,hes,hfin⟩:=hcase;obtain⟨va,vb,rfl⟩:=Ku (A:=A) (by simpa using hA.size)
 have hvb:VR g (.map s) vb:=hA.at_ 1 _ _ rfl rfl;cases hvb with
 |map hls=>
 rename_i c;obtain⟨o,ho,hobj⟩:=hs.obj _ _ hls;rw[hst]at ho;cases ho;obtain⟨M,k0,hM⟩:=hobj;refine calls_of_wp func359 A43 ?_;have hntm:f359.ntmps=16:=by kernel_rfl
 rw[hntm];generalize ha0:({tmps:= #[va,.map (some c)]++Array.replicate (16 - (#[va,Value.map (some c)]:Array Value).size) undef,defers:= []}:Act)=a0;have hE:F8 g ([D.map d,.map s]++List.replicate 14 .undef) a0.tmps:=by
  rw[← ha0];refine hA.append ⟨by simp,fun j d x hj hx=>?_⟩
  rw[List.getElem?_replicate]at hj;split at hj
  ·cases hj;exact .undef x
  ·cases hj
 have hd0:a0.defers= []:=by rw[← ha0]
 have hev1:a0.eval (.tmp 1)= .map (some c):=by rw[← ha0];rfl
 clear ha0;have hS:=At.start hs hE;rw[hd0]at hS;refine wp_seq (wp_region ?_);show wpOps _ _ _ [0,1] _ _;refine Gp (some 6) rfl (by kernel_rfl) (by kernel_rfl) (J7 (x:= .tmp 1) (.inl (by kernel_rfl))) ?_
 rw[hev1];have hsz0:a0.tmps.size=16:=by rw[hE.size];rfl
 have hA1:At g st w [] (Am ([D.map d,.map s]++List.replicate 14 .undef) (some 6) (.map s)) st [] (a0.put (some 6) (.map (some c))) w g:=
  ⟨hS.sim,hS.step,hS.free,G5 hS.env (.map hls),by rw[Act.put_defers'];exact hS.defers,hS.k⟩
 have hu:prog.underlying 95=some (.map 9 4):=underlying95;refine Gp (some 7) rfl (by kernel_rfl) (by kernel_rfl) (r:= .pointer (some ⟨w.heap.size,0,none⟩)) (Aay (t:=95) (x:= .tmp 6) (by kernel_rfl) (by
  rw[eval_put,if_pos ⟨rfl,by rw[hsz0];omega⟩]
  exact Me hu hM.heap)) ?_
 obtain⟨g1,hA2,hloc,hno,hmono⟩:=hA1.range (dst:=some 7) (ob:= .mapIter (some c) k0 #[] k0) rfl;generalize ha2:(a0.put (some 6) (.map (some c))).put (some 7) (.pointer (some ⟨w.heap.size,0,none⟩))=a2 at hA2 ⊢;clear ha2;have hcl:c<w.heap.size:=(Array.getElem?_eq_some_iff.1 hM.heap).1;have hsl:s<st.length:=(List.getElem?_eq_some_iff.1 hst).1;show Code.wp _ _ _ _ _;refine hP ▸ Aoj (C:=C) (cf:=cf) hX (by rw[← hb]) (hh:=true) (N:=0) (od:=fun _=>none) (tn:=8) (tc:=9) (te:=10) (ti:=7) (o1:=opAt Xu 0) (o2:=opAt Xu 1) (oe:=opAt Ac3 0) (ops2:=Ac3) (body:=Us) (l2:= [1,2,3,4]) (by kernel_rfl) (by kernel_rfl) (by kernel_rfl) (by kernel_rfl) (by kernel_rfl) (by kernel_rfl)
  (by kernel_rfl) (by kernel_rfl) (by kernel_rfl) (by kernel_rfl) (by kernel_rfl) A39 (es:=es) (m:=s) (idR:=st.length) (r:=w.heap.size) (c:=c) (k0:=k0) (M:=M) (Pw:=fun id=>id=d∧es≠ [])
  (I:=fun pre e' stx=>e'.length=16∧e'[0]?=some (.map d)∧e'[7]?=some (.ptr st.length 0)∧((pre= []∧stx=st++ [.dead])∨(pre= [0]∧es≠ []∧stx=st2))) (Nat.le_refl _) (fun h=>hds h.1.symm) (by decide) (by decide) (fun pre e' stx h=>⟨h.2.2.1,by rw[h.1];decide,by rw[h.1];decide,by rw[h.1];decide⟩) ?_ hA2 ⟨rfl,rfl,rfl,.inl ⟨rfl,rfl⟩⟩ ?_ ?_
 ·intro pre i k v' e' stx hI hmm hesi hip;rcases hes with⟨rfl,_,_⟩|⟨k1,v1,x,rfl,hup,rfl⟩
  ·simp at hesi
  have hi0:i=0:=by
   rcases i with _|i
   ·rfl
   ·simp at hesi
  subst hi0;simp at hesi;obtain⟨rfl,rfl⟩:=hesi;rcases hI.2.2.2 with⟨rfl,rfl⟩|⟨rfl,_,_⟩
  case inr=>exact absurd (by simp) hip
  obtain⟨e2,e3,h1,h2,h3,h4,h5⟩:=Ass C hP cf true e' (st++ [.dead]) st2 x d k1 v1 hI.1 hI.2.1 hup;have hk:=Xt hup;refine⟨e2,st++ [.dead],[],e3,st2,[d],h1,h2,⟨h3,by rw[h4];exact hI.2.1,by rw[h5];exact hI.2.2.1,.inr ⟨rfl,by simp,rfl⟩⟩,by simp,by simp,?_⟩
  rw[hk.2 s (by simp;omega) (by simp;exact fun h=>hds h.symm),List.getElem?_append_left hsl,hst]
 ·refine⟨hloc,hno,?_,hmono s c hls,by rw[List.getElem?_append_left hsl,hst],?_,hM.size,fun j e x h1 h2=>?_,hM.born,hM.lt⟩
  ·exact World.alloc_heap_new w _
  ·show(w.heap.push _)[c]?=_;rw[Array.getElem?_push,if_neg (by omega)]
   exact hM.heap
  ·obtain⟨h3,h4⟩:=hM.at_ j e x h1 h2;exact⟨h3.mono hA2.step.mono,h4.mono hA2.step.mono⟩
 ·intro pre e' stx W' a' w' g' hperm hI hW hA';have hfacts:stx=st2∧∀id∈W',id∈W2:=by
   rcases hes with⟨rfl,rfl,rfl⟩|⟨k1,v1,x,rfl,hup,rfl⟩
   ·refine⟨?_,fun id hid=>?_⟩
    ·rcases hI.2.2.2 with⟨_,h⟩|⟨_,h,_⟩
     ·exact h
     ·exact absurd rfl h
    ·rcases hW id hid with h|h
     ·exact h
     ·exact absurd rfl h.2
   ·refine⟨?_,fun id hid=>?_⟩
    ·rcases hI.2.2.2 with⟨h,_⟩|⟨_,_,h⟩
     ·subst h;have:=hperm.length_eq;simp at this
     ·exact h
    ·rcases hW id hid with h|h
     ·cases h
     ·simp[h.1]
  obtain⟨rfl,hWW⟩:=hfacts;have hst2:=hA'.step.weaken (V:=W2) fun id hid b hb=>⟨id,hWW id hid,hb⟩;obtain⟨B,h1,h2⟩:=Oi (P:=prog) (fn:=f359) (vs:= []) hA'.sim hA'.env (by rfl)
  obtain⟨g3,h4,h5,h6,h7⟩:=Qs (r:= .tuple #[]) hfin hs hA'.sim hst2 hA'.free (hA'.k.weaken hWW) (.tup rfl (fun j d v hj=>by simp at hj))
  have hB:B= []:=by have:=h2.size;simpa using this
  subst hB;exact⟨hA'.defers,_,by rw[hP];exact h1,_,g3,rfl,h4,h5,h6,h7⟩
theorem V5{st st2 st':St}{v v':D}{W2 W:Cb}(hk:K st st2 W2)(h:finish st.length v st2 W2=some (v',st',W)):K st st' W:=by
 have hk2:K st st2 (W2.filter (· <st.length)):=⟨hk.1,fun id hid hn=>hk.2 id hid fun hm=>hn (by simp[hm,hid])⟩
 unfold finish at h;dsimp only at h;split at h
 ·cases h;exact hk2
 ·cases h;exact hk2.cut
theorem Aer(cf:Ah):Ba (Qm cf):=by
 intro args st v st' W h;unfold Qm at h;split at h
 case h_2=>cases h
 split at h
 ·cases h
 split at h
 ·exact V5 K.app h
 ·split at h
  ·rename_i hup;split at h
   ·have:=(K.app (st:=st) (l:= [.dead]) (W:= [])).trans (Xt hup);refine V5 (this.weaken fun id hid=>?_) h;rcases Cm.1 hid with h|h
    ·exact h
    ·cases h
   ·cases h
  ·cases h
 ·cases h
end Go.Vam
namespace Go.Proofs
open Go.Lib Go.Proofs.Tryz Go.RowKit Go.Shelf Go.Sort Go.Vam
set_option maxHeartbeats 1000000 in
theorem Tryz.grow135_zero(w:World):Calls prog 324 #[.slice none 0 0,.int .i64 0] w fun e w'=>e= .returned (.slice none 0 0)∧w'=w:=by
 go_enter func324,ntmps324
 go_wp2
 go_ret
 exact⟨rfl,rfl⟩
set_option maxHeartbeats 4000000 in
set_option maxRecDepth 100000 in
theorem Tryz.grow135(i0:TypeInfo)(z:Value)(hi0:prog.info? 141=some i0)(hz0:i0.zero=some z)(hs0:0<i0.size)(n:Nat)(w:World)(h1n:0<n)(hbig:n*i0.bytes≤140737488355328)(h63:n≤4611686018427387904):
  Calls prog 324 #[.slice none 0 0,.int .i64 n] w fun e w'=>
   e= .returned (.slice (some ⟨w.heap.size,0,none⟩) 0 (grownCap w n 0 141))∧
   w'=w.drew.alloc (.cells (Builtin.zeroCells z.cells n++Builtin.zeroCells z.cells (grownCap w n 0 141 - n)) 141):=by
 have h1:¬ ((n:Int)<0):=by omega
 have h3:wrap64 (n:Int)=(n:Int):=by unfold wrap64;omega
 have h4:(n:Int)>0:=by omega
 have hold:(Builtin.firstCells i0.size 0 (.slice none 0 0)).run prog w.drew= .ok (#[]:Array Value) w.drew:=run_firstCells_none w.drew i0.size 0 0 0;have hrz:∀ty,(Builtin.append_ #[145,3] ty #[.slice none 0 0,.int .i64 (n:Int)]).run prog w=
   .ok (.slice (some ⟨w.heap.size,0,none⟩) n (grownCap w n 0 141)) (w.drew.alloc (.cells (Builtin.zeroCells z.cells n++Builtin.zeroCells z.cells (grownCap w n 0 141 - n)) 141)):=fun ty=>by
  have h:=Lib.run_append_grow_zeros (P:=prog) w 145 3 ty 141 i0 z .i64 .i64 underlying145 underlying3 hi0 hz0 none 0 0 [] hold n (by omega) hs0 (by omega) (by omega) (by omega) (by rw[Nat.zero_add];exact growslice_fits h1n hbig)
  simpa using h
 have hGn:n≤grownCap w n 0 141:=grownCap_ge w _ _ _;obtain⟨G,hG⟩:∃G,G=grownCap w n 0 141:=⟨_,rfl⟩;rw[← hG]at hrz hGn ⊢;have hG63:G≤9223372036854775807:=by
  have:=grownCap_le_maxLen w n 0 141 (by unfold maxLen;omega)
  rw[← hG]at this;unfold maxLen at this;omega
 clear hold hG
 go_enter func324,ntmps324
 go_wp2_with (at_builtin;refine Lib.wpList_append_run _ rfl _ _ _ _ rfl _ _ rfl rfl _ _ (hrz _) ?_)
 all_goals (go_ret;exact⟨rfl,rfl⟩)
theorem Tryz.grow135_own(n:Nat)(hn:n<2 ^ 36)(w:World):Calls prog 324 #[.slice none 0 0,.int .i64 n] w fun e w'=>∃v,e= .returned v∧w'.ownsRow w.heap.size 141 2 v 0 []∧Below w.heap.size w w':=by
 by_cases h0:n=0
 ·subst h0;refine(Tryz.grow135_zero w).mono ?_;rintro e w' ⟨rfl,rfl⟩;exact⟨_,rfl,⟨rfl,.inl ⟨rfl,rfl⟩⟩,Below.refl _ _⟩
 ·have hi:((prog.info? 141).bind fun i=>i.zero.map fun z=>(i.size,z.cells.size,i.bytes))=some (2,2,24):=by kernel_rfl
  obtain⟨i,h1,hi⟩:=Option.bind_eq_some_iff.1 hi;obtain⟨z,h2,hi⟩:=Option.map_eq_some_iff.1 hi;simp only[Prod.mk.injEq]at hi;obtain⟨hi1,hi2,hi3⟩:=hi;refine(Tryz.grow135 i z h1 h2 (by omega) n w (by omega) (by rw[hi3];omega) (by omega)).mono ?_
  rintro e w' ⟨rfl,rfl⟩;have hge:=grownCap_ge w n 0 141;refine⟨_,rfl,⟨rfl,.inr ⟨w.heap.size,grownCap w n 0 141,_,rfl,Nat.le_refl _,World.alloc_heap_new w.drew _,Nat.zero_le _,grownCap_le_maxLen w n 0 141 (by unfold maxLen;omega),?_,rfl⟩⟩,?_⟩
  ·rw[Array.size_append,size_zeroCells,size_zeroCells,hi2,← Nat.add_mul];have:n+(grownCap w n 0 141 - n)=grownCap w n 0 141:=by omega
   rw[this]
  ·exact⟨rfl,rfl,rfl,by
    show w.heap.size≤(w.heap.push (Obj.cells (Builtin.zeroCells z.cells n++Builtin.zeroCells z.cells (grownCap w n 0 141 - n)) 141)).size;rw[Array.size_push];omega,fun k hk=>by
    show(w.heap.push (Obj.cells (Builtin.zeroCells z.cells n++Builtin.zeroCells z.cells (grownCap w n 0 141 - n)) 141))[k]?=_;rw[Array.getElem?_push,if_neg (by omega)]⟩
theorem add_block'(a:Addr)(n:Nat):(a.add n).block=a.block:=by unfold Addr.add;split<;>rfl
theorem Aja(xs:List (Bool × List UInt8)):(xs.map Gi).flatten.length=xs.length*2:=by
 induction xs with
 |nil=>rfl
 |cons x l ih=>simp only[List.map_cons,List.flatten_cons,List.length_append,ih,List.length_cons];show 2+_=_;omega
set_option maxHeartbeats 4000000 in
set_option maxRecDepth 100000 in
theorem Tryz.concat80(c o cap:Nat)(xss:List (List (Bool × List UInt8)))(w:World)(hc:c<w.heap.size)(hn:xss.flatten.length<2 ^ 36)(hk:xss.length<2 ^ 36)
  (hrow:∀i xs,xss[i]?=some xs→∃q m,w.cell? ⟨c,o+i,none⟩=some (.slice q xs.length m)∧((xs= []∧q=none∧m=0)∨∃a:Addr,q=some a∧∀j v,(xs.map Gi).flatten[j]?=some v→a.block<w.heap.size∧w.cell? (a.add j)=some v)):
  Calls prog 232 #[.slice (some ⟨c,o,none⟩) xss.length cap] w fun e w'=>∃v,e= .returned v∧w'.ownsRow w.heap.size 141 2 v xss.flatten.length (xss.flatten.map Gi).flatten∧Below w.heap.size w w':=by
 have hinf:((prog.info? 141).bind fun i=>i.zero.map fun z=>(i.size,z.cells.size,i.bytes))=some (2,2,24):=by kernel_rfl
 obtain⟨i0,hi,hinf⟩:=Option.bind_eq_some_iff.1 hinf;obtain⟨z,hz,hinf⟩:=Option.map_eq_some_iff.1 hinf;simp only[Prod.mk.injEq]at hinf;obtain⟨hs2,hz2,hb2⟩:=hinf
 go_enter func232,ntmps232
 go_wp2
 go_loopw [3,11] (fun s i wr=>wr=w∧∃k:Nat,i= .int .i64 k∧k≤xss.length∧s= .int .i64 ((xss.take k).flatten.length:Nat)) (fun s i wr=>xss.length - (intOf i).toNat)
 case atStart=>exact⟨rfl,0,rfl,Nat.zero_le _,rfl⟩
 case round=>
  obtain⟨rfl,k,rfl,hk,rfl⟩:=hrel;by_cases hlt:k<xss.length
  ·obtain⟨xs,hxs⟩:∃xs,xss[k]?=some xs:=⟨_,List.getElem?_eq_getElem hlt⟩;obtain⟨q,m,hcl,hrest⟩:=hrow k xs hxs;have hl:(k:Int)<xss.length:=by omega
   have htk:(xss.take (k+1)).flatten.length=(xss.take k).flatten.length+xs.length:=by rw[List.take_add_one,hxs];simp
   have hle:∀k,(xss.take k).flatten.length≤xss.flatten.length:=fun k=>by
    have:xss.flatten=(xss.take k).flatten++(xss.drop k).flatten:=by rw[← List.flatten_append,List.take_append_drop]
    rw[this];simp
   have hle1:=hle (k+1);rw[htk]at hle1;generalize hA:(xss.take k).flatten.length=sA at*;have hneg:¬ ((sA:Int)+(xs.length:Int)<0):=by omega
   go_wp2
   go_roundw
   case rel=>exact⟨by first|rfl|trivial,k+1,by go_num,by omega,by rw[htk];go_num⟩
   case measure=>simp[intOf];omega
  ·have hke:k=xss.length:=by omega
   subst hke;rw[List.take_length];generalize hT:xss.flatten.length=T at*;have hgr:=Tryz.grow135_own T (by omega) wr
   go_wp2_with (go_at_call 324;refine hgr.mono ?_)
   rintro e w1 ⟨v,rfl,hown,hb1⟩
   go_wp2
   have hbs:=hb1.size
   go_loopw [6,27] (fun v i w2=>∃k:Nat,i= .int .i64 k∧k≤xss.length∧w2.ownsRow wr.heap.size 141 2 v (xss.take k).flatten.length ((xss.take k).flatten.map Gi).flatten∧Below wr.heap.size wr w2) (fun v i w2=>xss.length - (intOf i).toNat)
   case atStart=>exact⟨0,rfl,Nat.zero_le _,hown,hb1⟩
   case round=>
    obtain⟨k,rfl,hk,hown2,hbw⟩:=hrel;have hbz:=hbw.size;by_cases hlt2:k<xss.length
    ·obtain⟨xs,hxs⟩:∃xs,xss[k]?=some xs:=⟨_,List.getElem?_eq_getElem hlt2⟩;obtain⟨q,m,hcl0,hrest⟩:=hrow k xs hxs;have hcl:wr.cell? ⟨c,o+k,none⟩=some (.slice q xs.length m):=by rw[← hcl0];exact World.cell?_of_block (hbw.block c hc)
     have hl:(k:Int)<xss.length:=by omega
     have htk:(xss.take (k+1)).flatten.length=(xss.take k).flatten.length+xs.length:=by rw[List.take_add_one,hxs];simp
     have htm:((xss.take (k+1)).flatten.map Gi).flatten=((xss.take k).flatten.map Gi).flatten++(xs.map Gi).flatten:=by rw[List.take_add_one,hxs];simp
     have hle1:(xss.take k).flatten.length+xs.length≤xss.flatten.length:=by
      have h9:xss.flatten=(xss.take (k+1)).flatten++(xss.drop (k+1)).flatten:=by rw[← List.flatten_append,List.take_append_drop]
      rw[h9,List.length_append,htk];omega
     rw[hT]at hle1;rcases hrest with⟨rfl,rfl,rfl⟩|⟨a',rfl,hcell⟩
     ·generalize(xss.take k).flatten.length=sk at hown2 htk hle1;generalize((xss.take k).flatten.map Gi).flatten=ck at hown2 htm
      go_wp2_with (at_builtin;refine wpList_append_own_none rfl _ _ 145 rfl _ 141 i0 2 underlying145 hi _ _ _ rfl hown2 rfl ?_)
      go_wp2
      go_roundw
      case rel=>exact⟨k+1,by go_num,by omega,by rw[htk,htm];simpa using hown2,hbw⟩
      case measure=>simp[intOf];omega
     ·have hcw:∀j v,(xs.map Gi).flatten[j]?=some v→wr.cell? (a'.add j)=some v:=fun j v hv=>by
       rw[← (hcell j v hv).2];exact World.cell?_of_block (hbw.block (a'.add j).block (by rw[add_block'];exact(hcell j v hv).1))
      generalize(xss.take k).flatten.length=sk at hown2 htk hle1;generalize((xss.take k).flatten.map Gi).flatten=ck at hown2 htm
      go_wp2_with (at_builtin;refine wpList_append_own _ rfl _ _ 145 rfl _ 141 i0 z 2 24 underlying145 hi hz hs2 hb2 hz2 (by decide) _ _ _ rfl hown2 a' xs.length m (xs.map Gi).flatten rfl ?c1 ?c2 ?c3 ?c4 ?c5 ?c6 ?_)
      case c1=>exact Aja xs
      case c2=>exact fun j u hj=>hcw j u hj
      case c3=>intro u hu;obtain⟨l,hl1,hl2⟩:=List.mem_flatten.1 hu;obtain⟨x,_,rfl⟩:=List.mem_map.1 hl1;simp[Gi]at hl2;rcases hl2 with rfl|rfl<;>rfl
      case c4=>unfold maxLen;omega
      case c5=>omega
      case c6=>exact hbz
      intro v' w' ho hg _
      go_wp2
      go_roundw
      case rel=>exact⟨k+1,by go_num,by omega,by rw[htk,htm];exact ho,hbw.trans ⟨hg.os,hg.tape,hg.output,hg.size,fun q hq=>hg.block q (by omega) (fun e=>by
       obtain⟨_,ho2⟩:=hown2;rcases ho2 with⟨h,_⟩|⟨gg,_,_,h,hge,_⟩
       ·rw[h]at e;cases e
       ·rw[h]at e;simp[Value.ownBlock]at e;omega)⟩⟩
      case measure=>simp[intOf];omega
    ·have hke:k=xss.length:=by omega
     subst hke;rw[List.take_length]at hown2
     go_wp2
     go_ret
     exact⟨u6,rfl,hown2,hbw⟩
end Go.Proofs
namespace Go.Vam
open Go.Proofs Go.Proofs.Tryz Go.RowKit
section
variable{g:G}{st:St}{w:World}
theorem Zu(hs:Co g st w){d:D}{x:Value}{rows:List (List D)}(hx:VR g d x)(hr:rowsOf st d=some rows)(hns:∀s,d≠ .str s):
  ∃p cap,x= .slice p rows.length cap∧((rows= []∧(p=none→cap=0))∨∃c o,p=some ⟨c,o,none⟩∧Reads g w c o rows.flatten):=by
 unfold rowsOf at hr;split at hr
 ·cases hr;cases hx;exact⟨none,0,rfl,.inl ⟨rfl,fun _=>rfl⟩⟩
 ·cases hr;cases hx with
  |slNil=>exact⟨none,0,rfl,.inl ⟨rfl,fun _=>rfl⟩⟩
  |slEmp=>exact⟨_,_,rfl,.inl ⟨rfl,fun h=>by cases h⟩⟩
  |sl hsz hI hv hcap hgr=>exact⟨_,_,rfl,.inr ⟨_,_,rfl,Reads.ofRows hs hsz hI hv⟩⟩
 ·rename_i sz' id off len cap;split at hr
  case h_3=>cases hr
  all_goals
   rename_i cs hst;obtain⟨rfl,hle⟩:=Mj hr;cases hx with
   |arr hl h1 h2 h3=>
    rename_i cap' c;have hro:=(J3 hs hl (by first|exact .inl hst|exact .inr hst)).drop off
    rw[Nat.zero_add]at hro;refine⟨_,_,by rw[Jb],.inr ⟨_,_,rfl,⟨fun j d hj=>hro.at_ j d ?_⟩⟩⟩
    rw[Aeh len _ (by simp;omega),List.getElem?_take]at hj
    split at hj
    ·exact hj
    ·cases hj
 ·exact absurd rfl (hns _)
 ·cases hr
end
def Uq:List (List D)→Option (List (Bool × List UInt8))
 | []=>some []
 | [.bool b,.str s]::rows=>(Uq rows).map ((b,s):: ·)
 |_=>none
theorem Abl:∀{rows:List (List D)} {xs:List (Bool × List UInt8)},Uq rows=some xs→rows=xs.map DL
 | [],xs,h=>by cases h;rfl
 |r::rows,xs,h=>by
  unfold Uq at h;split at h
  ·rename_i heq;cases heq
  ·rename_i b s rows' heq;cases heq;cases h2:Uq rows with
   |none=>rw[h2]at h;cases h
   |some xs'=>rw[h2]at h;cases h;rw[Abl h2];rfl
  ·cases h
def Adi(st:St)(d:D):Option (List (Bool × List UInt8)):=match d with
 | .str _=>none
 |d=>match rowsOf st d with
  |some rows=>Uq rows
  |none=>none
def Un(st:St):List (List D)→Option (List (List (Bool × List UInt8)))
 | []=>some []
 | [x]::rows=>match Adi st x,Un st rows with
  |some l,some ls=>some (l::ls)
  |_,_=>none
 |_=>none
def Kj:Bz:=fun _ args st=>match args with
 | [.sl rows gr]=>match Un st rows with
  |some xss=>if xss.length<2 ^ 36∧xss.flatten.length<2 ^ 36 then
    (match xss.flatten with
     | []=>none
     |xs=>some (.arr 2 st.length 0 xs.length xs.length,st++ [.cells (xs.map DL).flatten],[]))else none
  |none=>none
 |_=>none
theorem Aaj(cf:Ah):Ba (Kj cf):=by
 intro args st v st' W h;unfold Kj at h
 repeat' split at h
 all_goals (first|cases h)
 all_goals exact Jh
theorem Wx{st:St}:∀{rows:List (List D)} {xss:List (List (Bool × List UInt8))},Un st rows=some xss→rows.length=xss.length∧∀(i:Nat) (xs:List (Bool × List UInt8)),xss[i]?=some xs→∃x,rows.flatten[i]?=some x∧Adi st x=some xs
 | [],xss,h=>by cases h;simp
 |r::rows,xss,h=>by
  unfold Un at h;split at h
  ·rename_i heq;cases heq
  ·rename_i x rows' heq;cases heq;split at h
   ·rename_i l ls h1 h2;cases h;obtain⟨h3,h4⟩:=Wx h2;refine⟨by simp[h3],fun i xs hi=>?_⟩
    match i with
    |0=>simp at hi;subst hi;exact⟨x,by simp,h1⟩
    |i+1=>
     obtain⟨y,h5,h6⟩:=h4 i xs (by simpa using hi)
     exact⟨y,by simpa using h5,h6⟩
   ·cases h
  ·cases h
theorem Aqg{xs:List (Bool × List UInt8)}{j:Nat}{u:Value}(h:(xs.map Gi).flatten[j]?=some u):∃x,xs[j / 2]?=some x∧u=(Gi x)[j % 2]!∧j<xs.length*2:=by
 have hj:j<xs.length*2:=by rw[← Aja];exact(List.getElem?_eq_some_iff.1 h).1
 induction xs generalizing j with
 |nil=>simp at hj
 |cons x l ih=>
  match j with
  |0=>exact⟨x,rfl,by simp[Gi]at h;rw[← h];rfl,hj⟩
  |1=>exact⟨x,rfl,by simp[Gi]at h;rw[← h];rfl,hj⟩
  |j+2=>
   have h':(l.map Gi).flatten[j]?=some u:=by simpa[Gi]using h
   obtain⟨y,h1,h2,h3⟩:=ih h' (by simp at hj;omega)
   refine⟨y,?_,?_,hj⟩
   ·rw[show(j+2) / 2=j / 2+1 by omega];simpa using h1
   ·rw[show(j+2) % 2=j % 2 by omega];exact h2
theorem Ab7{β:Nat→Nat→Option Value}(cf:Ah):Ji prog β 232 (Kj cf):=by
 intro args st v st' W h g w A hb hs hA;unfold Kj at h;split at h
 case h_2=>cases h
 rename_i rows gr;split at h
 case h_2=>cases h
 rename_i xss hxss;split at h
 case isFalse=>cases h
 rename_i hlen;split at h
 ·cases h
 rename_i xs hne;cases h;obtain⟨v0,rfl⟩:=K9 (A:=A) (by simpa using hA.size)
 have hv0:VR g (.sl rows gr) v0:=hA.at_ 0 _ _ rfl rfl;obtain⟨hl,hspec⟩:=Wx hxss;obtain⟨p,cap,rfl,hp⟩:=Zu hs hv0 rfl (fun s h=>by cases h)
 have hne2:xss.flatten≠ []:=fun h=>hne h;rcases hp with⟨rfl,_⟩|⟨c,o,rfl,hrd⟩
 ·have:xss= []:=List.eq_nil_of_length_eq_zero hl.symm;subst this;exact absurd rfl hne2
 have hlt:∀(c o:Nat) (u:Value),w.cell? ⟨c,o,none⟩=some u→c<w.heap.size:=fun c o u h=>by
  unfold World.cell? at h;cases hh:w.heap[c]? with
  |none=>simp[hh]at h
  |some _=>exact(Array.getElem?_eq_some_iff.1 hh).1
 have hrow:∀i xs,xss[i]?=some xs→∃q m,w.cell? ⟨c,o+i,none⟩=some (.slice q xs.length m)∧((xs= []∧q=none∧m=0)∨∃a:Addr,q=some a∧∀j v,(xs.map Gi).flatten[j]?=some v→a.block<w.heap.size∧w.cell? (a.add j)=some v):=by
  intro i xs hi;obtain⟨x,h1,h2⟩:=hspec i xs hi;obtain⟨u,h3,h4⟩:=hrd.at_ i x h1;unfold Adi at h2;split at h2
  ·cases h2
  rename_i d' hns;split at h2
  case h_2=>cases h2
  rename_i rws hrw;have e:=Abl h2;obtain⟨q,m,rfl,h5⟩:=Zu hs h4 hrw (fun s hd=>hns s hd);have hll:rws.length=xs.length:=by rw[e];simp
  rw[hll]at h3;refine⟨q,m,h3,?_⟩;rcases h5 with⟨h6,h7⟩|⟨c',o',h6,h7⟩
  ·rw[h6]at hll;have hx0:=List.eq_nil_of_length_eq_zero hll.symm;cases q with
   |none=>exact .inl ⟨hx0,rfl,h7 rfl⟩
   |some a=>exact .inr ⟨a,rfl,fun j v hj=>by rw[hx0]at hj;simp at hj⟩
  ·right;refine⟨⟨c',o',none⟩,h6,fun j u hj=>?_⟩;obtain⟨y,h8,rfl,h9⟩:=Aqg hj;obtain⟨y2,h10,h11⟩:=Aqj (xs:=xs) h9;rw[h8]at h10;cases h10;obtain⟨dd,h12,_,h13⟩:=Ajm (g:=g) y (j % 2) (by omega)
   obtain⟨u,h14,h15⟩:=h7.at_ j dd (by rw[e,h11,h12])
   rw[h13 u h15]at h14;exact⟨hlt _ _ _ h14,by rw[Ga];exact h14⟩
 obtain⟨ls,l,hx⟩:=List.exists_cons_of_ne_nil (fun h:xss= []=>hne2 (by rw[h];rfl))
 have hc:c<w.heap.size:=by
  obtain⟨q,m,h1,_⟩:=hrow 0 ls (by rw[hx];rfl)
  exact hlt _ _ _ h1
 rw[hl];refine(Tryz.concat80 c o cap xss w hc hlen.2 hlen.1 hrow).mono ?_;rintro e w' ⟨v',rfl,ho,hb'⟩;have hv':v'≠ .slice none 0 0:=by
  rintro rfl;obtain⟨_,h|⟨_,_,_,h,_⟩⟩:=ho
  ·exact hne2 (List.eq_nil_of_length_eq_zero h.2)
  ·cases h
 obtain⟨g',h4,h5,h6,h7⟩:=Ag1 (ds:=(xss.flatten.map DL).flatten) hs hb'.size hb'.block hb'.os hb'.output ho hv' (Vq _) (fun j d u hd hu=>by
  obtain⟨y,h8,rfl,h9⟩:=Aqg hu;obtain⟨y2,h10,h11⟩:=Aqj (xs:=xss.flatten) h9;rw[h8]at h10;cases h10;obtain⟨dd,h12,h13,_⟩:=Ajm (g:=g) y (j % 2) (by omega)
  rw[h11,h12]at hd;cases hd;exact h13)
 exact⟨_,g',rfl,h7,h4,h5,h6⟩
end Go.Vam
