/-
  The law's script, the reference's cache, walked; CacheAll's function answers true.
-/
import Derived.Test.YtanifnfklgldpaaGreatDoorVcb
import Derived.ChangeArms
import Derived.DataReads
set_option linter.unusedSimpArgs false
set_option linter.unusedVariables false
set_option linter.unusedSectionVars false
set_option maxRecDepth 1000000
namespace Go.Vam
open Go.Proofs Go.Proofs.Tryz
theorem mx0(z:Int):Om Ab0 (.int .i64 0) [.int .i64 z]=some (.int .i64 ((z.toNat:Nat):Int)):=by
 show(match Ab0 (.int .i64 0) (.int .i64 z)with|some c=>Om Ab0 c []|none=>none)=_
 unfold Ab0;simp only[if_true,Om];congr 2;split<;>omega
theorem Cko(a b:D):List.take 2 (List.take (0*2) (J2 [D.bool false,D.str []] 1)++(D.agg [a,b]).cells++List.drop (0*2+2) (J2 [D.bool false,D.str []] 1))= [a,b]:=rfl
theorem Ciu(a b:D):List.take 2 (List.take (0*2) (J2 [D.bool false,D.str []] 1)++ [a,b]++List.drop (0*2+2) (J2 [D.bool false,D.str []] 1))= [a,b]:=rfl
theorem Cqj(a b:D):List.take 2 (List.take (0*2) (J2 [D.str [],.nilsl] 1)++(D.agg [a,b]).cells++List.drop (0*2+2) (J2 [D.str [],.nilsl] 1))= [a,b]:=rfl
theorem Cph(a b:D):List.take 2 (List.take (0*2) (J2 [D.str [],.nilsl] 1)++ [a,b]++List.drop (0*2+2) (J2 [D.str [],.nilsl] 1))= [a,b]:=rfl
section
variable{cf:Ah}{N:Nat}(hK:∀f,Ba (cf f))
include hK
def Cbp(x:Int):Nat:=min x.toNat 200
theorem A8a(x:Int)(S:St):run C2 cf N 11 [.int .i64 x] S=some (.ptr (S.length+1) 0,S++ [.map [],.cells [.int .i64 (Cbp x:Int),.nilsl,.map S.length,.int .i64 0]],[]):=by
 have hP:C2.P=prog:=rfl;refine Cet rfl hK func11 (bdy (by kernel_rfl)) ?_
 rw[show C2.hnd.contains 11=false from rfl];generalize he:(([.int .i64 x]:List D)++List.replicate (f11.ntmps - ([.int .i64 x]:List D).length) .undef)=e;have hl:e.length=9:=by rw[← he];rfl
 have e0:e.getD 0 .undef= .int .i64 x:=by rw[← he];rfl
 clear he;have m1:Om Ab0 (.int .i64 x) [.int .i64 0]=some (.int .i64 (if x<0 then 0 else x)):=by
  show(match Ab0 (.int .i64 x) (.int .i64 0)with|some c=>Om Ab0 c []|none=>none)=_
  unfold Ab0;simp[Om]
 have m2:Om Abk (.int .i64 (if x<0 then 0 else x)) [.int .i64 200]=some (.int .i64 (Cbp x:Int)):=by
  show(match Abk (.int .i64 (if x<0 then 0 else x)) (.int .i64 200)with|some c=>Om Abk c []|none=>none)=_
  unfold Abk;simp only[if_true,Om];congr 2;unfold Cbp;split<;>split<;>omega
 generalize(if x<0 then(0:Int)else x)=z at m1 m2;generalize((Cbp x:Nat):Int)=r at m2;have b1:Adc prog 90 [(0,.int .i64 r),(2,.map S.length)]=some (.agg [.int .i64 r,.nilsl,.map S.length,.int .i64 0]):=by kernel_rfl
 refine Bj8 ?_;obtain⟨code,hcode⟩:∃code,code=strip (bd f11):=⟨_,rfl⟩;rw[← hcode];simp only[bd,f11,strip,Dl,List.map_toArray,MC]at hcode;subst hcode
 repeat (first
  |refine A00 ?_|refine Asu ?_|refine Bkx ?_|refine Awr ?_|refine Ay7 ?_|refine Bq (by decide) ?_|refine Eg rfl rfl ?_
  |((first|refine Ee rfl rfl ?_|refine Ed rfl rfl ?_|refine Bwz ?_);refine⟨_,by simp only[Bj,BB,Af,ev,Am,Ak,Ag,Gc,Ai,↓reduceIte,Nat.reduceEqDiff,Nat.reduceLT,Aj,hP,hl,e0,m1,m2,Cig,b1,D.known,D.cells];first|done|rfl,?_⟩)
  |dsimp only)
 have hlen:(S++ [Obj.map []]).length=S.length+1:=by simp
 refine⟨.inr rfl,[.ptr (S++ [Obj.map []]).length 0],[.ptr (S++ [Obj.map []]).length 0],_,?_,rfl,by rw[hlen];rfl,fun _ _=>rfl,?_,?_⟩
 ·show Gm C2.P _ _ [.tmp 2]=_;simp only[Gm,BB,Am,hl,Nat.reduceEqDiff,↓reduceIte,Nat.reduceLT]
 ·simp[D8]
 ·simp
end
end Go.Vam
namespace Go.Vam
open Go.Proofs
section
variable{cf:Ah}{N:Nat}(hK:∀f,Ba (cf f))
include hK
end
end Go.Vam
namespace Go.Vam
open Go.Proofs Go.RowKit
section
variable(hK:∀n f,Ba (CC n f))
theorem pC{n:Nat}{f:FuncId}{xs:List D}{v:D}(h:Cgj f=none)(hp:Ao (run C2 (CC n) 2000) f xs v):Ao (CC (n+1)) f xs v:=fun st=>by rw[show CC (n+1) f xs st=run C2 (CC n) 2000 f xs st from Qd h];exact hp st
theorem rC{n:Nat}{f:FuncId}{xs:List D}{v:D}{σ:Type}{At:St→σ→List Nat→Prop}{s:σ}(h:Cgj f=none)(hp:B51 (run C2 (CC n) 2000) f xs At s v):B51 (CC (n+1)) f xs At s v:=fun S ids h0=>by rw[show CC (n+1) f xs S=run C2 (CC n) 2000 f xs S from Qd h];exact hp S ids h0
theorem tC{n:Nat}{f:FuncId}{xs:List D}{v:D}{σ:Type}{At:St→σ→List Nat→Prop}{s s':σ}(h:Cgj f=none)(hp:Cf3 (run C2 (CC n) 2000) f xs At s v s'):Cf3 (CC (n+1)) f xs At s v s':=fun S ids h0=>by rw[show CC (n+1) f xs S=run C2 (CC n) 2000 f xs S from Qd h];exact hp S ids h0
theorem nC{n:Nat}{f:FuncId}{g:Bz}{xs:List D}{S:St}{r:Option (D × St × Cb)}(h:Cgj f=some g)(hv:g (CC n) xs S=r):CC (n+1) f xs S=r:=by
 show(match Cgj f with|some g=>g (CC n) xs S|none=>run C2 (CC n) 2000 f xs S)=_
 rw[h];exact hv
theorem c9(n:Nat):Ao (CC (n+1)) 9 [] (.bool true):=fun S=>nC (g:=Im Np) rfl rfl
include hK
theorem c43(n:Nat):Cgk (CC (n+1)):= {
 n S:=nC (g:=Cck 43 B5v) rfl (Cic (N:=2000) (hK n) S)
 e S:=nC (g:=Cck 43 B5v) rfl rfl
 c v l S hl:=nC (g:=Cck 43 B5v) rfl (Buk (N:=2000) (hK n) v l S hl)}
theorem c44(n:Nat):Clb (CC (n+1)):= {
 d h h1 h2 h0 hb:=by obtain⟨W,r,h3,h4⟩:=Cjj (N:=2000) (hK n) h h1 h2 h0 hb;exact⟨W,r,(Qd rfl).trans h3,h4⟩}
theorem c13(n c:Nat)(s:CP)(k:Tx)(hG:Cgg s):B51 (CC (n+2)) 13 [.ptr c 0,.str k] (CAt c) s (Cgt (B16 k s.l)):=rC rfl (Bym (hK _) (c43 hK n) c s k hG.val)
theorem c12(n c:Nat)(s:CP)(k:Tx)(vs:List Vl)(hG:Cgg s)(hv:vs.length<2 ^ 30):Cf3 (CC (n+3)) 12 [.ptr c 0,.str k,.sl (Bow vs) .none] (CAt c) s (.bool (s.put k vs).1) (s.put k vs).2:=by
 by_cases h:s.room=0∨(B16 k s.l).isSome=true
 ·rw[Cgh h];exact tC rfl (Chd (hK _) c s k vs (c13 hK n c s k hG) h)
 ·have h1:s.room≠0:=fun e=>h (.inl e);have h2:B16 k s.l=none:=by
   cases hg:B16 k s.l with
   |none=>rfl
   |some v=>exact absurd (.inr (by rw[hg];rfl)) h
  have h3:(s.put k vs).1=true:=by rw[Cgl h1 h2];split<;>rfl
  rw[h3];exact tC rfl (Ch1 (hK _) c s k vs hG hv (c43 hK (n+1)) (c44 hK (n+1)) (c13 hK n c s k hG) h1 h2)
end
end Go.Vam
namespace Go.Vam
open Go.Proofs
inductive B5z(S:St):D→List (List D)→List Nat→Prop
 |nil:B5z S .nilsl [] []
 |row {t g:Nat} {rows:List (List D)} (h:S[t]?=some (.tok g)) (h0:rows≠ []):B5z S (.sl rows (.tok t g)) rows [t]
section
variable{S S':St}{d:D}{rows:List (List D)}{ids:List Nat}
theorem B5z.fr(h:B5z S d rows ids)(hf:∀i∈ids,S'[i]?=S[i]?):B5z S' d rows ids:=by
 cases h with
 |nil=>exact .nil
 |row h h0=>exact .row (by rw[hf _ (by simp)];exact h) h0
theorem B5z.lt(h:B5z S d rows ids):∀i∈ids,i<S.length:=by
 cases h with
 |nil=>simp
 |row h h0=>simpa using(List.getElem?_eq_some_iff.1 h).1
theorem B5z.low(h:B5z S d rows ids){n:Nat}(hr:Gt n rows=false)(hi:∀i∈ids,i<n):D8 n d=false:=by
 cases h with
 |nil=>rfl
 |row h h0=>have:=hi _ (List.mem_singleton_self _);simp only[D8,hr,Bool.or_false,decide_eq_false_iff_not];omega
theorem B5z.ref(h:B5z S d rows ids){n:Nat}(hr:D8 n d=false):∀i∈ids,i<n:=by
 cases h with
 |nil=>simp
 |row h h0=>
  simp only[D8,Bool.or_eq_false_iff,decide_eq_false_iff_not]at hr;intro i hi;obtain rfl:i=_:=by simpa using hi
  omega
theorem B5z.cells(h:B5z S d rows ids)(n:Nat):∀i∈ids,∀o,S[i]?=some o→Zl n o=false:=by
 cases h with
 |nil=>simp
 |row h h0=>
  intro i hi o ho;obtain rfl:i=_:=by simpa using hi
  rw[h]at ho;cases ho;rfl
theorem B5z.tok(h:B5z S d rows ids):∀i∈ids,∃g,S[i]?=some (.tok g):=by
 cases h with
 |nil=>simp
 |row h h0=>
  intro i hi;obtain rfl:i=_:=by simpa using hi
  exact⟨_,h⟩
theorem B5z.len{P:Program}{t e:TypeId}(h:B5z S d rows ids)(hu:P.underlying t=some (.slice e))(T:St):Ny P t d T=some (.int .i64 (rows.length:Int),.pure):=by
 unfold Ny;rw[hu];cases h with
 |nil=>rfl
 |row=>rfl
theorem B5z.at_{P:Program}{t e:TypeId}{sz i:Nat}{r:List D}(h:B5z S d rows ids)(hu:P.underlying t=some (.slice e))(hs:Bw P e=some sz)(hr:rows[i]?=some r)(hl:r.length=sz):Cf P t d (.int .i64 (i:Int))=some (.eptr r,.pure):=by
 unfold Cf;rw[show E5 (.int .i64 (i:Int))=some i from by simp[E5]]
 dsimp only;rw[hu];cases h with
 |nil=>cases hr
 |row=>simp[hr,hs,hl]
theorem B5z.fzn(h:B5z S d rows ids)(T:St)(n:Nat):Sl (n+1) T d=some (.sl rows .none,T):=by
 cases h with
 |nil=>rfl
 |row=>rfl
theorem B5z.one(h:B5z S d rows ids):d.cells= [d]∧Al d=true:=by
 cases h with
 |nil=>exact⟨rfl,rfl⟩
 |row=>exact⟨rfl,rfl⟩
theorem Ch3{P:Program}{t e:TypeId}{sz by_:Nat}(he:Cx P t=some e)(hs:Bw P e=some sz)(hb:Jm P e=some by_)(hz:Kt P e sz=true)(hk:B5z S d rows ids){x:D}{r:List D}(hx:rowsOf S x=some [r])(hr:r.length=sz)(hok:r.all Al=true)
  (hall:∀q∈rows,q.length=sz)(hm:(rows.length+1)*by_≤Dh)(hm2:rows.length+1≤Dh):
  ∃d' S' W ids',C8 P false t d x S=some (d',S',W)∧B5z S' d' (rows++ [r]) ids'∧(∀i∈W,i∈ids)∧(∀i∈ids',i∈ids∨S.length≤i)∧(∀i,i<S.length→i ∉ ids→S'[i]?=S[i]?)∧S.length≤S'.length:=by
 unfold C8;rw[he];dsimp only;rw[hs,hb,hx];dsimp only;have ha:([r]:List (List D)).all (fun r=>r.length == sz && r.all Al)=true:=by simp[hr,hok]
 rw[ha,hz];simp only[Bool.and_self,if_true];cases hk with
 |nil=>
  refine⟨.sl [r] (.tok S.length 0),S++ [.tok 0],[],[S.length],?_,.row (at1' _ _) (by simp),by simp,by simp,fun i hi _=>List.getElem?_append_left hi,by simp⟩
  rw[if_neg (by simp),if_pos (by simp at hm hm2 ⊢;omega)]
  rfl
 |row h h0=>
  rename_i tk g;have hlt:=(List.getElem?_eq_some_iff.1 h).1;have h2:rows.all (fun q=>q.length == sz)=true:=by rw[List.all_eq_true];intro q hq;simpa using hall q hq
  have h3:rows.isEmpty=false:=by
   cases rows with
   |nil=>exact absurd rfl h0
   |cons=>rfl
  refine⟨.sl (rows++ [r]) (.tok tk (g+1)),S.set tk (.tok (g+1)),[tk],[tk],?_,.row (by rw[List.getElem?_set,if_pos rfl,if_pos hlt]) (by simp),by simp,by simp,fun i hi hne=>by rw[List.getElem?_set,if_neg (fun e=>hne (by simp[e]))],by simp⟩
  have e1:=decide_eq_true hm;have e2:=decide_eq_true hm2;simp only[List.isEmpty_cons,BF,List.length_cons,List.length_nil,Nat.zero_add,e1,e2,h2,h,h3,Bool.and_self,Bool.not_true,Bool.not_false,decide_true,if_true]
 where
 at1' (S:St) (a:Obj):(S++ [a])[S.length]?=some a:=by rw[List.getElem?_append_right (Nat.le_refl _),Nat.sub_self];rfl
end
end Go.Vam
namespace Go.Vam
open Go.Proofs Go.Proofs.Tryz
def Cgn(v:Vl):Vl:=(v.1,if v.1 then v.2 else[])
def Cf7(vs:List Vl):List Vl:=(vs.take 10).map Cgn
theorem zs4:Bw prog 4=some 1:=by kernel_rfl
theorem zu4:(prog.underlying 4).isSome=true:=by kernel_rfl
theorem za4:Jg prog 4=false:=by kernel_rfl
theorem Co2:(prog.underlying 29).isSome=true:=by kernel_rfl
theorem Co0:Jg prog 29=true:=by kernel_rfl
theorem Cl1(b:Nat):Eh prog 29 (.ptr b 0) 0=some (.ptr b 0,.pure):=by kernel_rfl
theorem Cl5(b:Nat):Eh prog 29 (.ptr b 0) 1=some (.ptr b 1,.pure):=by kernel_rfl
theorem Bze(a b:D)(S:St):Fp prog 29 (.eptr [a,b]) S=some (.agg [a,b],.pure):=by
 unfold Fp;dsimp only;rw[B4e Chu Co2 Co0 (by simp)]
 rfl
theorem Cm0{S:St}{p:Nat}{a b:D}(h:S[p]?=some (.cells [a,b])):Fp prog 29 (.ptr p 0) S=some (.agg [a,b],.rd [p]):=by
 rw[ldp h,B4e Chu Co2 Co0 (by simp)]
 rfl
theorem Cqq{S:St}{p:Nat}{a b c d:D}(h:S[p]?=some (.cells [a,b]))(hc:Al c=true)(hd:Al d=true):I4 prog 29 (.ptr p 0) (.agg [c,d]) S=some (.undef,S.set p (.cells [c,d]),[p]):=by unfold I4;simp only[h,Chu,D.cells];simp[hc,hd]
theorem Cls{vs:List Vl}{v:Vl}{i:Nat}(h:vs[i]?=some v):Cf prog 22 (.sl (Bow vs) .none) (.int .i64 (i:Int))=some (.eptr [.bool v.1,.str v.2],.pure):=by
 unfold Cf;rw[show E5 (.int .i64 (i:Int))=some i from by simp[E5]]
 dsimp only;rw[underlying22];dsimp only;rw[show(Bow vs)[i]?=some (Cdo v)from by unfold Bow;rw[List.getElem?_map,h];rfl]
 simp[Cdo,Chu]
theorem Cm2(a b:D)(ha:a.known=true):I8 (fun i=>some (i*2,2)) (J2 [D.bool false,D.str []] 1) [(0,.agg [a,b])]=some [a,b]:=rfl
theorem Cm3{S:St}(o x:Obj):(S++ [o]).set S.length x=S++ [x]:=set1 S o x
section
variable{cf:Ah}{N:Nat}(hK:∀f,Ba (cf f))
include hK
set_option maxHeartbeats 1000000 in
theorem A7z(hN:20<N)(vs:List Vl):Ao (run C2 cf N) 10 [.sl (Bow vs) .none] (.sl (Bow (Cf7 vs)) .none):=fun S=>by
 have hP:C2.P=prog:=rfl;refine Bbg rfl hK func10 (bdy (by kernel_rfl)) ?_
 rw[show C2.hnd.contains 10=false from rfl];generalize he:(([.sl (Bow vs) .none]:List D)++List.replicate (f10.ntmps - ([.sl (Bow vs) .none]:List D).length) .undef)=e;have hl:e.length=29:=by rw[← he];rfl
 have e0:e.getD 0 .undef= .sl (Bow vs) .none:=by rw[← he];rfl
 clear he;have hln:∀S,Ny prog 22 (.sl (Bow vs) .none) S=some (.int .i64 (vs.length:Int),.pure):=fun S=>by unfold Ny;rw[underlying22];simp[Chg]
 refine Bj8 ?_;obtain⟨code,hcode⟩:∃code,code=strip (bd f10):=⟨_,rfl⟩;rw[← hcode];simp only[bd,f10,strip,Dl,List.map_toArray,MC]at hcode;subst hcode
 repeat (first
  |refine A00 ?_|refine Asu ?_|refine Bkx ?_|refine Awr ?_|refine Ay7 ?_|refine Bq (by decide) ?_|refine Eg rfl rfl ?_
  |((first|refine Ee rfl rfl ?_|refine Ed rfl rfl ?_|refine Bwz ?_);refine⟨_,by simp only[Bj,BB,Af,ev,Am,Ak,Ag,Gc,Ai,↓reduceIte,Nat.reduceEqDiff,Nat.reduceLT,Aj,hP,hl,e0];first|done|rfl,?_⟩)
  |dsimp only)
 refine Awv (fun k e' S'=>∃i ids d,k=10 - i∧i≤10∧i≤vs.length∧e'.length=29∧e'.getD 0 .undef= .sl (Bow vs) .none∧e'.getD 3 .undef=d∧e'.getD 4 .undef= .int .i64 (i:Int)∧B5z S' d (Bow ((vs.take i).map Cgn)) ids∧(∀id∈ids,S.length≤id)∧S.length≤S'.length) 10 (by omega) ?_ ?_
 ·refine⟨0,[],.nilsl,rfl,Nat.zero_le _,Nat.zero_le _,?_,?_,?_,?_,.nil,by simp,Nat.le_refl _⟩
  all_goals (simp only[BB,Am,hl,e0,Nat.reduceEqDiff,↓reduceIte,Nat.reduceLT];first|done|rfl)
 clear e0 hl e;rintro k e S' ⟨i,ids,d,rfl,hi,hi2,hl,e0,e3,e4,htk,hids,hle⟩;have g1:=B5p 3 (i:Int) (vs.length:Int);have g2:=B5p 3 (i:Int) 10;by_cases hlt:i<vs.length∧i<10
 ·rw[decide_eq_true (by omega)]at g1
  rw[decide_eq_true (by omega)]at g2
  obtain⟨v,hvi⟩:∃v,vs[i]?=some v:=⟨_,List.getElem?_eq_getElem hlt.1⟩;have ix:=Cls hvi;have l1:=Bze (.bool v.1) (.str v.2) S';have s1:=Cqq (S:=S'++ [.cells [.bool false,.str []]]) (p:=S'.length) (c:= .bool v.1) (d:= .str v.2) (at1 _ _) rfl rfl;rw[Cm3]at s1;have l2:=Ceq (off:=0) zs4 zu4 za4 (at1 S' (.cells [.bool v.1,.str v.2])) rfl;have ad:Bo prog .add 3 (.int .i64 (i:Int)) (.int .i64 1)=some (.int .i64 ((i+1:Nat):Int)):=Cgf 3 (i:Int) 1 (by omega)
  have hVp:∀id∈ [S'.length],S.length≤id:=by simpa using hle
  have htake:Bow ((vs.take (i+1)).map Cgn)=Bow ((vs.take i).map Cgn)++ [Cdo (Cgn v)]:=by rw[List.take_add_one,hvi];simp[Bow]
  have hlr:(Bow ((vs.take i).map Cgn)).length=i:=by rw[Chg,List.length_map,List.length_take];omega
  have hqs:∀q∈Bow ((vs.take i).map Cgn),q.length=2:=fun q hq=>by obtain⟨v,_,rfl⟩:=List.mem_map.1 hq;rfl
  cases hb:v.1 with
  |true=>
   rw[hb]at ix l1 s1 l2;have l3:=Cm0 (at1 S' (.cells [.bool true,.str v.2]));have f1:=Cm2 (.bool true) (.str v.2) rfl;have sp:Fs (S'++ [.cells [.bool true,.str v.2]]) [(0,.agg [.bool true,.str v.2])]=some [(0,.agg [.bool true,.str v.2])]:=rfl;obtain⟨d',S2,W,ids',ha,hk',hW,hids',hfr,hle'⟩:=Ch3 Cih Chu Bhp A7y (htk.fr fun i hi=>List.getElem?_append_left (htk.lt i hi)) (x:= .sl [[.bool true,.str v.2]] .exact) (S:=S'++ [.cells [.bool true,.str v.2]]) (r:=Cdo (Cgn v)) (by unfold Cgn;rw[hb];rfl) rfl rfl hqs (by rw[hlr];unfold Dh;omega) (by rw[hlr];unfold Dh;omega)
   have hVW:∀id∈W,S.length≤id:=fun id hid=>hids id (hW id hid)
   repeat (first
    |refine A00 ?_|refine Asu ?_|refine Bkx ?_|refine Awr ?_|refine Ay7 ?_|refine Avq ?_|refine Bq (by decide) ?_|refine Eg rfl rfl ?_|refine Zc (by first|exact hVp|exact hVW) ?_
    |((first|refine Ei rfl rfl rfl rfl ?_|refine Ee rfl rfl ?_|refine Ed rfl rfl ?_|refine Bwz ?_);refine⟨_,by simp only[Bj,BB,Af,ev,Am,Ak,Ag,Gc,Ai,↓reduceIte,Nat.reduceEqDiff,Nat.reduceLT,Aj,Gn,hP,hl,e0,e3,e4,hln,g1,g2,ix,l1,Ci1,s1,Cl1,Cl5,l2,l3,Cih,Chu,sp,Cko,Ciu,chunk,Ck7,ha,ad];first|done|rfl,?_⟩)
    |dsimp only)
   refine⟨10 - (i+1),by omega,i+1,ids',d',rfl,by omega,by omega,?_,?_,?_,?_,by rw[htake];exact hk',fun id hid=>?_,by simp at hle';omega⟩
   all_goals (first|(simp only[BB,Am,hl,e0,e3,e4,Nat.reduceEqDiff,↓reduceIte,Nat.reduceLT];done)|skip)
   rcases hids' id hid with h|h
   ·exact hids id h
   ·simp at h;omega
  |false=>
   rw[hb]at ix l1 s1 l2;have s2:=Ci2 (off:=1) (d:= .str []) zs9 (at1 S' (.cells [.bool false,.str v.2])) (by simp) rfl rfl
   rw[Cm3]at s2;replace s2:I4 prog 9 (.ptr S'.length 1) (.str []) (S'++ [.cells [.bool false,.str v.2]])=some (.undef,S'++ [.cells [.bool false,.str []]],[S'.length]):=s2;have l3:=Cm0 (at1 S' (.cells [.bool false,.str []]));have f1:=Cm2 (.bool false) (.str []) rfl;have sp:Fs (S'++ [.cells [.bool false,.str []]]) [(0,.agg [.bool false,.str []])]=some [(0,.agg [.bool false,.str []])]:=rfl;obtain⟨d',S2,W,ids',ha,hk',hW,hids',hfr,hle'⟩:=Ch3 Cih Chu Bhp A7y (htk.fr fun i hi=>List.getElem?_append_left (htk.lt i hi)) (x:= .sl [[.bool false,.str []]] .exact) (S:=S'++ [.cells [.bool false,.str []]]) (r:=Cdo (Cgn v)) (by unfold Cgn;rw[hb];rfl) rfl rfl hqs (by rw[hlr];unfold Dh;omega) (by rw[hlr];unfold Dh;omega)
   have hVW:∀id∈W,S.length≤id:=fun id hid=>hids id (hW id hid)
   repeat (first
    |refine A00 ?_|refine Asu ?_|refine Bkx ?_|refine Awr ?_|refine Ay7 ?_|refine Avq ?_|refine Bq (by decide) ?_|refine Eg rfl rfl ?_|refine Zc (by first|exact hVp|exact hVW) ?_
    |((first|refine Ei rfl rfl rfl rfl ?_|refine Ee rfl rfl ?_|refine Ed rfl rfl ?_|refine Bwz ?_);refine⟨_,by simp only[Bj,BB,Af,ev,Am,Ak,Ag,Gc,Ai,↓reduceIte,Nat.reduceEqDiff,Nat.reduceLT,Aj,Gn,hP,hl,e0,e3,e4,hln,g1,g2,ix,l1,Ci1,s1,Cl1,Cl5,l2,s2,l3,Cih,Chu,sp,Cko,Ciu,chunk,Ck7,ha,ad];first|done|rfl,?_⟩)
    |dsimp only)
   refine⟨10 - (i+1),by omega,i+1,ids',d',rfl,by omega,by omega,?_,?_,?_,?_,by rw[htake];exact hk',fun id hid=>?_,by simp at hle';omega⟩
   all_goals (first|(simp only[BB,Am,hl,e0,e3,e4,Nat.reduceEqDiff,↓reduceIte,Nat.reduceLT];done)|skip)
   rcases hids' id hid with h|h
   ·exact hids id h
   ·simp at h;omega
 ·have hend:Bow (Cf7 vs)=Bow ((vs.take i).map Cgn):=by
   unfold Cf7;by_cases h1:i<vs.length
   ·rw[show i=10 from by omega]
   ·rw[List.take_of_length_le (show vs.length≤i by omega),List.take_of_length_le (show vs.length≤10 by omega)]
  rw[hend];have hz:=Ag6 (htk.fzn S' 8) (Ale (st:=S'));have hif:(decide ((i:Int)<(vs.length:Int))=true∧decide ((i:Int)<10)=false)∨decide ((i:Int)<(vs.length:Int))=false:=by
   by_cases h1:i<vs.length
   ·exact .inl ⟨decide_eq_true (by omega),decide_eq_false (by omega)⟩
   ·exact .inr (decide_eq_false (by omega))
  rcases hif with⟨h1,h2⟩|h1
  all_goals
   rw[h1]at g1
   try rw[h2]at g2
   repeat (first
    |refine A00 ?_|refine Asu ?_|refine Bkx ?_|refine Awr ?_|refine Ay7 ?_|refine Avq ?_|refine Bq (by decide) ?_|refine Eg rfl rfl ?_
    |((first|refine Ei rfl rfl rfl rfl ?_|refine Ee rfl rfl ?_|refine Ed rfl rfl ?_|refine Bwz ?_);refine⟨_,by simp only[Bj,BB,Af,ev,Am,Ak,Ag,Gc,Ai,↓reduceIte,Nat.reduceEqDiff,Nat.reduceLT,Aj,Gn,hP,hl,e0,e3,e4,hln,g1,g2];first|done|rfl,?_⟩)
    |dsimp only)
   refine⟨.inr rfl,[d],[_],S',?_,hz,rfl,fun _ _=>rfl,.inl ?_⟩
   ·show Gm C2.P _ _ [.tmp 2]=_;simp only[Gm,BB,Am,hl,Nat.reduceEqDiff,↓reduceIte,Nat.reduceLT]
   ·simp[D8,Cg5]
end
def Ch6(e:Tx × List Vl):List D:= [.str e.1,.sl (Bow e.2) .none]
def B6l(l:List (Tx × List Vl)):List (List D):=l.map Ch6
inductive WAt(w:Nat)(S:St)(s:CP):List Nat→Prop
 |mk {d:D} {ks:List Nat} (h:S[w]?=some (.cells [.int .i64 s.room,d,.int .i64 s.gone])) (hk:B5z S d (B6l s.l) ks):WAt w S s (w::ks)
theorem Cmn(n:Nat)(l:List (Tx × List Vl)):Gt n (B6l l)=false:=by
 induction l with
 |nil=>rfl
 |cons t l ih=>show(F6 n (Ch6 t) || Gt n (B6l l))=false;rw[ih];simp[Ch6,F6,D8,Cg5]
theorem Cgv(w:Nat):Chw (WAt w) w:= {
 rt S s ids h:=by obtain⟨h,_⟩:=h;exact(List.getElem?_eq_some_iff.1 h).1
 fr S S' s ids h hf:=by obtain⟨h,hk⟩:=h;exact .mk (by rw[hf w (by simp)];exact h) (hk.fr fun i hi=>hf i (by simp[hi]))
 low S s ids h i hi o ho:=by
  obtain⟨h,hk⟩:=h;rcases List.mem_cons.1 hi with rfl|hi
  ·rw[h]at ho;cases ho;simp only[Zl,F6,Bool.or_false];rw[hk.low (Cmn _ _) hk.lt];rfl
  ·exact hk.cells _ i hi o ho
 root S s ids n0 h hc hall:=by
  obtain⟨h,hk⟩:=h;have h1:=hall w (by simp) hc _ h
  simp only[Zl,F6,Bool.or_false,Bool.or_eq_false_iff]at h1;intro i hi;rcases List.mem_cons.1 hi with rfl|hi
  ·exact hc
  ·exact hk.ref h1.2.1 i hi}
theorem Cj4:Bw prog 60=some 1:=by kernel_rfl
theorem Cme:(prog.underlying 60).isSome=true:=by kernel_rfl
theorem Clt:Jg prog 60=false:=by kernel_rfl
theorem Cle:Bw prog 64=some 2:=by kernel_rfl
theorem Cou:Jm prog 64=some 40:=by kernel_rfl
theorem Cpd:Kt prog 64 2=true:=by kernel_rfl
theorem Cqn:zeroOf prog 64=some [.str [],.nilsl]:=by kernel_rfl
theorem Cne:Cx prog 60=some 64:=by kernel_rfl
theorem Cor:(prog.underlying 22).isSome=true:=by kernel_rfl
theorem Con:Jg prog 22=false:=by kernel_rfl
theorem Chz(b:Nat):Eh prog 62 (.ptr b 0) 0=some (.ptr b 0,.pure):=by kernel_rfl
theorem Cgb(b:Nat):Eh prog 62 (.ptr b 0) 1=some (.ptr b 1,.pure):=by kernel_rfl
theorem Ckc(b:Nat):Eh prog 62 (.ptr b 0) 2=some (.ptr b 2,.pure):=by kernel_rfl
theorem Clr(a b:D):Eh prog 64 (.eptr [a,b]) 0=some (.eptr [a,b],.pure):=by kernel_rfl
theorem Cnj(a b:D):Eh prog 64 (.eptr [a,b]) 1=some (.eptr [b],.pure):=by kernel_rfl
theorem Cm5(k:Tx)(b:D)(S:St):Fp prog 9 (.eptr [.str k,b]) S=some (.str k,.pure):=by
 unfold Fp;dsimp only;rw[Br0 zs9 zu9 za9 (by simp)]
 rfl
theorem Cpg(d:D)(S:St):Fp prog 22 (.eptr [d]) S=some (d,.pure):=by
 unfold Fp;dsimp only;rw[Br0 Cop Cor Con (by simp)]
 rfl
theorem Cnm(vs:List Vl)(gr:Gr)(S:St)(hv:vs.length<2 ^ 30):∃d more,C8 prog false 22 .nilsl (.sl (Bow vs) gr) S=some (d,S++more,[])∧(∀T n,Sl (n+1) T d=some (.sl (Bow vs) .none,T))∧Oa (S++more) d=some (.sl (Bow vs) .none)∧d.cells= [d]∧d.known=true:=by
 have h1:(Bow vs).all (fun r=>r.length == 2 && r.all Al)=true:=Cia _ _ fun v=>by simp[Cdo,Al]
 have hl:=Chg vs;unfold C8;rw[Cih];dsimp only;rw[Chu,Bhp];simp only[rowsOf,h1,A7y,Bool.and_self,if_true];cases vs with
 |nil=>exact⟨.nilsl,[],by simp[Bow],fun T n=>rfl,rfl,rfl,rfl⟩
 |cons v l=>
  refine⟨.sl (Bow (v::l)) (.tok S.length 0),[.tok 0],?_,fun T n=>rfl,rfl,rfl,rfl⟩;rw[if_neg (by simp[Bow]),if_pos]
  ·rfl
  ·rw[hl];simp only[Bool.and_eq_true,decide_eq_true_eq];unfold Dh;omega
theorem Ci7{k:Tx}{v:List Vl}:∀{l:List (Tx × List Vl)},B16 k l=some v→∃e∈l,e.2=v
 | [],h=>by cases h
 |e::l,h=>by
  unfold B16 at h;split at h
  ·exact⟨e,by simp,Option.some.inj h⟩
  ·obtain⟨e',h1,h2⟩:=Ci7 h;exact⟨e',by simp[h1],h2⟩
section
variable{cf:Ah}{N:Nat}(hK:∀f,Ba (cf f))
include hK
theorem A7s(x:Int)(S:St):run C2 cf N 27 [.int .i64 x] S=some (.ptr S.length 0,S++ [.cells [.int .i64 (Cbp x:Int),.nilsl,.int .i64 0]],[]):=by
 have hP:C2.P=prog:=rfl;refine Cet rfl hK func27 (bdy (by kernel_rfl)) ?_
 rw[show C2.hnd.contains 27=false from rfl];generalize he:(([.int .i64 x]:List D)++List.replicate (Tryz.f27.ntmps - ([.int .i64 x]:List D).length) .undef)=e;have hl:e.length=8:=by rw[← he];rfl
 have e0:e.getD 0 .undef= .int .i64 x:=by rw[← he];rfl
 clear he;have m1:Om Abk (.int .i64 x) [.int .i64 200]=some (.int .i64 (if(200:Int)<x then 200 else x)):=rfl;have m2:=mx0 (if(200:Int)<x then 200 else x);rw[show(if(200:Int)<x then 200 else x).toNat=Cbp x from by unfold Cbp;split<;>omega]at m2
 generalize((Cbp x:Nat):Int)=r at m2;have b1:Adc prog 62 [(0,.int .i64 r)]=some (.agg [.int .i64 r,.nilsl,.int .i64 0]):=by kernel_rfl
 refine Bj8 ?_;obtain⟨code,hcode⟩:∃code,code=strip (bd Tryz.f27):=⟨_,rfl⟩;rw[← hcode];simp only[bd,Tryz.f27,strip,Dl,List.map_toArray,MC]at hcode;subst hcode
 repeat (first
  |refine A00 ?_|refine Asu ?_|refine Bkx ?_|refine Awr ?_|refine Ay7 ?_|refine Bq (by decide) ?_|refine Eg rfl rfl ?_
  |((first|refine Ee rfl rfl ?_|refine Ed rfl rfl ?_|refine Bwz ?_);refine⟨_,by simp only[Bj,BB,Af,ev,Am,Ak,Ag,Gc,Ai,↓reduceIte,Nat.reduceEqDiff,Nat.reduceLT,Aj,hP,hl,e0,m1,m2,b1,D.known,D.cells];first|done|rfl,?_⟩)
  |dsimp only)
 refine⟨.inr rfl,[.ptr S.length 0],[.ptr S.length 0],_,?_,rfl,rfl,fun _ _=>rfl,?_,rfl⟩
 ·show Gm C2.P _ _ [.tmp 2]=_;simp only[Gm,BB,Am,hl,Nat.reduceEqDiff,↓reduceIte,Nat.reduceLT]
 ·simp[D8]
set_option maxHeartbeats 1000000 in
theorem Bbd(hN:300<N)(w:Nat)(s:CP)(k:Tx)(hG:Cgg s):B51 (run C2 cf N) 29 [.ptr w 0,.str k] (WAt w) s (Cgt (B16 k s.l)):=fun S ids h0=>by
 obtain⟨h,hk⟩:=h0;rename_i d ks;have hP:C2.P=prog:=rfl;refine Bbg rfl hK func29 (bdy (by kernel_rfl)) ?_
 rw[show C2.hnd.contains 29=false from rfl];generalize he:(([.ptr w 0,.str k]:List D)++List.replicate (Tryz.f29.ntmps - ([.ptr w 0,.str k]:List D).length) .undef)=e;have hl:e.length=35:=by rw[← he];rfl
 have e0:e.getD 0 .undef= .ptr w 0:=by rw[← he];rfl
 have e1:e.getD 1 .undef= .str k:=by rw[← he];rfl
 clear he;have l1:=Ceq (off:=1) Cj4 Cme Clt h rfl;have ln:=hk.len (P:=prog) underlying60 S;have hkl:(B6l s.l).length=s.l.length:=List.length_map ..;rw[hkl]at ln;have hlen:=hG.len;have hroom:=hG.room;refine Bj8 ?_;obtain⟨code,hcode⟩:∃code,code=strip (bd Tryz.f29):=⟨_,rfl⟩;rw[← hcode];simp only[bd,Tryz.f29,strip,Dl,List.map_toArray,MC]at hcode;subst hcode
 repeat (first
  |refine A00 ?_|refine Asu ?_|refine Bkx ?_|refine Awr ?_|refine Ay7 ?_|refine Bq (by decide) ?_|refine Eg rfl rfl ?_
  |((first|refine Ee rfl rfl ?_|refine Ed rfl rfl ?_|refine Bwz ?_);refine⟨_,by simp only[Bj,BB,Af,ev,Am,Ak,Ag,Gc,Ai,↓reduceIte,Nat.reduceEqDiff,Nat.reduceLT,Aj,hP,hl,e0,e1];first|done|rfl,?_⟩)
  |dsimp only)
 refine Awv (fun n e' S'=>∃i,n=s.l.length - i∧i≤s.l.length∧S'=S∧e'.length=35∧e'.getD 0 .undef= .ptr w 0∧e'.getD 1 .undef= .str k∧e'.getD 6 .undef= .int .i64 (i:Int)∧B16 k s.l=B16 k (s.l.drop i)) s.l.length (by omega) ?_ ?_
 ·refine⟨0,rfl,Nat.zero_le _,rfl,?_,?_,?_,?_,rfl⟩
  all_goals (simp only[BB,Am,hl,e0,e1,Nat.reduceEqDiff,↓reduceIte,Nat.reduceLT];first|done|rfl)
 clear e0 e1 hl e;rintro n e S' ⟨i,rfl,hi,rfl,hl,e0,e1,e6,hg⟩;have g1:=B5p 3 (i:Int) (s.l.length:Int);by_cases hlt:i<s.l.length
 ·rw[decide_eq_true (by omega)]at g1
  obtain⟨p,hp⟩:∃p,s.l[i]?=some p:=⟨_,List.getElem?_eq_getElem hlt⟩;have hdrop:s.l.drop i=p::s.l.drop (i+1):=by rw[List.drop_eq_getElem_cons hlt];rw[List.getElem?_eq_getElem hlt]at hp;rw[Option.some.inj hp]
  rw[hdrop,show B16 k (p::s.l.drop (i+1))=if k == p.1 then some p.2 else B16 k (s.l.drop (i+1))from rfl]at hg;have ix:=hk.at_ (P:=prog) underlying60 Cle (i:=i) (r:=Ch6 p) (by unfold B6l;rw[List.getElem?_map,hp];rfl) rfl
  replace ix:Cf prog 60 d (.int .i64 (i:Int))=some (.eptr [.str p.1,.sl (Bow p.2) .none],.pure):=ix;have fa0:=Clr (.str p.1) (.sl (Bow p.2) .none);have fa1:=Cnj (.str p.1) (.sl (Bow p.2) .none);have la:=Cm5 p.1 (.sl (Bow p.2) .none) S';have lb:=Cpg (.sl (Bow p.2) .none) S';have ad:Bo prog .add 3 (.int .i64 (i:Int)) (.int .i64 1)=some (.int .i64 ((i+1:Nat):Int)):=Cgf 3 (i:Int) 1 (by omega)
  have q:Bo prog .eql 9 (.str p.1) (.str k)=some (.bool (p.1 == k)):=rfl;rw[show(p.1 == k)=(k == p.1)from by rw[Bool.eq_iff_iff,beq_iff_eq,beq_iff_eq];exact eq_comm]at q
  cases hb:k == p.1 with
  |true=>
   rw[hb]at q hg;replace hg:B16 k s.l=some p.2:=hg;obtain⟨d',more,ap,hz,_,hdc,hdk⟩:=Cnm p.2 .none S' (hG.val p (List.mem_of_getElem? hp));have hz2:=Ag6 (hz (S'++more) 8) (Ag6 (d:= .bool true) rfl (Ale (st:=S'++more)));rw[hg]
   repeat (first
    |refine A00 ?_|refine Asu ?_|refine Bkx ?_|refine Awr ?_|refine Ay7 ?_|refine Avq ?_|refine Bq (by decide) ?_|refine Eg rfl rfl ?_|refine Zc (V:= []) (by simp) ?_
    |((first|refine Ee rfl rfl ?_|refine Ed rfl rfl ?_|refine Bwz ?_);refine⟨_,by simp only[Bj,BB,Af,ev,Am,Ak,Ag,Gc,Ai,↓reduceIte,Nat.reduceEqDiff,Nat.reduceLT,Aj,Gn,hP,hl,e0,e1,e6,Cgb,l1,ln,g1,ix,fa0,fa1,la,lb,q,Ck7,ap];first|done|rfl,?_⟩)
    |dsimp only)
   refine⟨.inr rfl,[d',.bool true],_,_,?_,hz2,rfl,fun i hi=>rfl,.inl ?_⟩
   ·show Gm C2.P _ _ [.tmp 4,.tmp 5]=_;simp only[Gm,BB,Am,hl,Nat.reduceEqDiff,↓reduceIte,Nat.reduceLT]
   ·simp[Cgt,D8,F6,Cg5]
  |false=>
   rw[hb]at q hg;replace hg:B16 k s.l=B16 k (s.l.drop (i+1)):=hg
   repeat (first
    |refine A00 ?_|refine Asu ?_|refine Bkx ?_|refine Awr ?_|refine Ay7 ?_|refine Avq ?_|refine Bq (by decide) ?_|refine Eg rfl rfl ?_|refine Zc (V:= []) (by simp) ?_
    |((first|refine Ee rfl rfl ?_|refine Ed rfl rfl ?_|refine Bwz ?_);refine⟨_,by simp only[Bj,BB,Af,ev,Am,Ak,Ag,Gc,Ai,↓reduceIte,Nat.reduceEqDiff,Nat.reduceLT,Aj,Gn,hP,hl,e0,e1,e6,Cgb,l1,ln,g1,ix,fa0,fa1,la,lb,q,ad];first|done|rfl,?_⟩)
    |dsimp only)
   refine⟨s.l.length - (i+1),by omega,i+1,rfl,by omega,rfl,?_,?_,?_,?_,hg⟩
   all_goals (simp only[BB,Am,hl,e0,e1,e6,Nat.reduceEqDiff,↓reduceIte,Nat.reduceLT];first|done|rfl)
 ·rw[decide_eq_false (by omega)]at g1
  have hnone:B16 k s.l=none:=by
   rw[hg,List.drop_of_length_le (by omega)]
   rfl
  rw[hnone]
  repeat (first
   |refine A00 ?_|refine Asu ?_|refine Bkx ?_|refine Awr ?_|refine Ay7 ?_|refine Avq ?_|refine Bq (by decide) ?_|refine Eg rfl rfl ?_|refine Zc (V:= []) (by simp) ?_
   |((first|refine Ee rfl rfl ?_|refine Ed rfl rfl ?_|refine Bwz ?_);refine⟨_,by simp only[Bj,BB,Af,ev,Am,Ak,Ag,Gc,Ai,↓reduceIte,Nat.reduceEqDiff,Nat.reduceLT,Aj,Gn,hP,hl,e0,e1,e6,Cgb,l1,ln,g1];first|done|rfl,?_⟩)
   |dsimp only)
  refine⟨.inr rfl,[.nilsl,.bool false],[.sl [] .none,.bool false],S',?_,rfl,rfl,fun _ _=>rfl,.inl rfl⟩;show Gm C2.P _ _ [.tmp 4,.tmp 5]=_;simp only[Gm,BB,Am,hl,Nat.reduceEqDiff,↓reduceIte,Nat.reduceLT]
end
theorem Co5(k:Tx):Adc prog 64 [(0,.str k),(1,.nilsl)]=some (.agg [.str k,.nilsl]):=by kernel_rfl
theorem Co4(k:Tx)(rows:List (List D))(gr:Gr):Adc prog 64 [(0,.str k),(1,.sl rows gr)]=some (.agg [.str k,.sl rows gr]):=by kernel_rfl
theorem Cqg{d:D}{k:Tx}{rows:List (List D)}{t:Nat}(h:d= .nilsl∧rows= []∨d= .sl rows (.tok t 0)):Adc prog 64 [(0,.str k),(1,d)]=some (.agg [.str k,d]):=by
 rcases h with⟨rfl,_⟩|rfl
 ·exact Co5 k
 ·exact Co4 k _ _
theorem Cqm{d:D}{k:Tx}{rows:List (List D)}{t:Nat}(h:d= .nilsl∧rows= []∨d= .sl rows (.tok t 0))(S:St):Fs S [(0,.agg [.str k,d])]=some [(0,.agg [.str k,.sl rows .none])]:=by
 rcases h with⟨rfl,rfl⟩|rfl
 ·rfl
 ·rfl
theorem Cqo(k:Tx)(r:List (List D)):I8 (fun i=>some (i*2,2)) (J2 [D.str [],.nilsl] 1) [(0,.agg [.str k,.sl r .none])]=some [.str k,.sl r .none]:=rfl
theorem Cp5{d:D}{k:Tx}{rows:List (List D)}{t:Nat}(h:d= .nilsl∧rows= []∨d= .sl rows (.tok t 0)):Iz (.agg [.str k,d])= []:=by
 rcases h with⟨rfl,rfl⟩|rfl
 ·rfl
 ·rfl
theorem Cnu(vs:List Vl)(gr:Gr)(S:St)(hv:vs.length<2 ^ 30):∃d more,C8 prog false 22 .nilsl (.sl (Bow vs) gr) S=some (d,S++more,[])∧(d= .nilsl∧Bow vs= []∨d= .sl (Bow vs) (.tok S.length 0)):=by
 have h1:(Bow vs).all (fun r=>r.length == 2 && r.all Al)=true:=Cia _ _ fun v=>by simp[Cdo,Al]
 have hl:=Chg vs;unfold C8;rw[Cih];dsimp only;rw[Chu,Bhp];simp only[rowsOf,h1,A7y,Bool.and_self,if_true];cases vs with
 |nil=>exact⟨.nilsl,[],by simp[Bow],.inl ⟨rfl,rfl⟩⟩
 |cons v l=>
  refine⟨.sl (Bow (v::l)) (.tok S.length 0),[.tok 0],?_,.inr rfl⟩;rw[if_neg (by simp[Bow]),if_pos]
  ·rfl
  ·rw[hl];simp only[Bool.and_eq_true,decide_eq_true_eq];unfold Dh;omega
theorem Cg6:prog.underlying 60=some (.slice 64):=underlying60
theorem Cf8(l:List (Tx × List Vl)):(B6l l).length=l.length:=List.length_map ..
theorem Cht(l:List (Tx × List Vl))(p:List D→Bool)(h:∀e,p (Ch6 e)=true):(B6l l).all p=true:=by rw[List.all_eq_true];intro r hr;obtain⟨v,_,rfl⟩:=List.mem_map.1 hr;exact h v
theorem Cqf(e:Tx × List Vl)(l:List (Tx × List Vl))(gr:Gr):∃gr',Bqz prog false 60 (.sl (B6l (e::l)) gr) (some 1) none none=some (.sl (B6l l) gr',.pure):=by
 show ∃gr',Lu prog 60 (.sl (B6l (e::l)) gr) (some 1) none none=some (.sl (B6l l) gr',.pure);unfold Lu;rw[Cg6];dsimp only;have hf:rowsFit prog 64 (B6l (e::l))=true:=by unfold rowsFit;rw[Cle];exact Cht _ _ fun e=>rfl
 rw[hf];have hl:(B6l (e::l)).length=l.length+1:=Cf8 _;simp only[Option.getD_none,Option.getD_some,hl];rw[if_pos (by simp)]
 rw[← hl,List.take_length];exact⟨_,rfl⟩
theorem Co9(l:List (Tx × List Vl))(gr:Gr)(S:St)(h0:l≠ [])(hl:l.length<1000):C8 prog false 60 .nilsl (.sl (B6l l) gr) S=some (.sl (B6l l) (.tok S.length 0),S++ [.tok 0],[]):=by
 have h1:(B6l l).all (fun r=>r.length == 2 && r.all Al)=true:=Cht _ _ fun v=>by simp[Ch6,Al]
 have h2:(B6l l).isEmpty=false:=by
  cases l with
  |nil=>exact absurd rfl h0
  |cons=>rfl
 unfold C8;rw[Cne];dsimp only;rw[Cle,Cou];simp only[rowsOf,h1,Cpd,Bool.and_self,if_true,h2,BF,Cf8];rw[if_pos];simp only[Bool.and_eq_true,decide_eq_true_eq];unfold Dh;omega
section
variable{cf:Ah}{N:Nat}(hK:∀f,Ba (cf f))
include hK
theorem Cj2(w:Nat)(s:CP)(k:Tx)(vs:List Vl)(hg:B51 cf 29 [.ptr w 0,.str k] (WAt w) s (Cgt (B16 k s.l)))(hs:s.room=0∨(B16 k s.l).isSome=true):Cf3 (run C2 cf N) 28 [.ptr w 0,.str k,.sl (Bow vs) .none] (WAt w) s (.bool false) s:=fun S ids h0=>by
 have hcg:=Ccn (C:=C2) (f:=29) (a:= []) (c:= []) (as_:= [.ptr w 0,.str k]) (bs:= [.ptr w 0,.str k]) (by kernel_rfl) rfl rfl hg h0
 have h00:=h0;obtain⟨h,hk⟩:=h0;have hP:C2.P=prog:=rfl;refine Cff rfl hK (Cgv w) func28 (bdy (by kernel_rfl)) h00 ?_
 rw[show C2.hnd.contains 28=false from rfl];generalize he:(([.ptr w 0,.str k,.sl (Bow vs) .none]:List D)++List.replicate (Tryz.f28.ntmps - ([.ptr w 0,.str k,.sl (Bow vs) .none]:List D).length) .undef)=e;have hl:e.length=62:=by rw[← he];rfl
 have e0:e.getD 0 .undef= .ptr w 0:=by rw[← he];rfl
 have e1:e.getD 1 .undef= .str k:=by rw[← he];rfl
 clear he;unfold Cgt at hcg;have l0:=Ceq (off:=0) zs3 zu3 za3 h rfl;have q:=B6y 3 (s.room:Int) 0;generalize hw:B16 k s.l=o at hcg hs;refine Bj8 ?_;obtain⟨code,hcode⟩:∃code,code=strip (bd Tryz.f28):=⟨_,rfl⟩;rw[← hcode];simp only[bd,Tryz.f28,strip,Dl,List.map_toArray,MC]at hcode;subst hcode;cases hi:o.isSome with
 |true=>
  rw[hi]at hcg
  repeat (first
   |refine A00 ?_|refine Asu ?_|refine Bkx ?_|refine Awr ?_|refine Ay7 ?_|refine Bq (by decide) ?_|refine Eg rfl rfl ?_|refine Zc (V:= []) (by simp) ?_
   |((first|refine Ei rfl rfl rfl rfl ?_|refine Ee rfl rfl ?_|refine Ed rfl rfl ?_|refine Bwz ?_);refine⟨_,by simp only[Bj,BB,Af,ev,Am,Ak,Ag,Gc,Ai,↓reduceIte,Nat.reduceEqDiff,Nat.reduceLT,Aj,Gn,hP,hl,e0,e1,hcg];first|done|rfl,?_⟩)
   |dsimp only)
  refine⟨.inr rfl,[.bool false],[.bool false],S,_,?_,rfl,rfl,fun _ _=>rfl,h00,fun i hi=> .inl hi⟩;show Gm C2.P _ _ [.tmp 6]=_;simp only[Gm,BB,Am,hl,Nat.reduceEqDiff,↓reduceIte,Nat.reduceLT]
 |false=>
  rw[hi]at hcg hs;have hr:s.room=0:=by simpa using hs
  rw[hr]at q l0;replace q:Bo prog .eql 3 (.int .i64 ((0:Nat):Int)) (.int .i64 0)=some (.bool true):=q
  repeat (first
   |refine A00 ?_|refine Asu ?_|refine Bkx ?_|refine Awr ?_|refine Ay7 ?_|refine Bq (by decide) ?_|refine Eg rfl rfl ?_|refine Zc (V:= []) (by simp) ?_
   |((first|refine Ei rfl rfl rfl rfl ?_|refine Ee rfl rfl ?_|refine Ed rfl rfl ?_|refine Bwz ?_);refine⟨_,by simp only[Bj,BB,Af,ev,Am,Ak,Ag,Gc,Ai,↓reduceIte,Nat.reduceEqDiff,Nat.reduceLT,Aj,Gn,hP,hl,e0,e1,hcg,Chz,D.known,l0,q];first|done|rfl,?_⟩)
   |dsimp only)
  refine⟨.inr rfl,[.bool false],[.bool false],S,_,?_,rfl,rfl,fun _ _=>rfl,h00,fun i hi=> .inl hi⟩;show Gm C2.P _ _ [.tmp 6]=_;simp only[Gm,BB,Am,hl,Nat.reduceEqDiff,↓reduceIte,Nat.reduceLT]
set_option maxHeartbeats 1000000 in
theorem Ck9(w:Nat)(s:CP)(k:Tx)(vs:List Vl)(hG:Cgg s)(hv:vs.length<2 ^ 30)(hg:B51 cf 29 [.ptr w 0,.str k] (WAt w) s (Cgt (B16 k s.l)))(hr:s.room≠0)(hn:B16 k s.l=none):
  Cf3 (run C2 cf N) 28 [.ptr w 0,.str k,.sl (Bow vs) .none] (WAt w) s (.bool true) (s.put k vs).2:=fun S ids h0=>by
 have hcg:=Ccn (C:=C2) (f:=29) (a:= []) (c:= []) (as_:= [.ptr w 0,.str k]) (bs:= [.ptr w 0,.str k]) (by kernel_rfl) rfl rfl hg h0
 rw[hn]at hcg;unfold Cgt at hcg;have h00:=h0;obtain⟨h,hk⟩:=h0;rename_i d ks;have hP:C2.P=prog:=rfl;have hwS:=(List.getElem?_eq_some_iff.1 h).1;have hll:=hG.len;have hrr:=hG.room;have hkw:∀i∈ks,i≠w:=fun i hi e=>by obtain⟨g,hg⟩:=hk.tok i hi;rw[e,h]at hg;cases hg
 have l0:=Ceq (off:=0) zs3 zu3 za3 h rfl;have l1:=Ceq (off:=1) Cj4 Cme Clt h rfl;obtain⟨d1,more,ap1,hd1⟩:=Cnu vs .none S hv;have bdk:=Cqg (k:=k) hd1;have sp:=Cqm (k:=k) hd1 (S++more);have ai:=Cp5 (k:=k) hd1;have fl:=Cqo k (Bow vs);obtain⟨d2,T1,W1,ks1,ap2,hk1,hW1,hks1,hfr1,hle1⟩:=Ch3 Cne Cle Cou Cpd (hk.fr fun i hi=>List.getElem?_append_left (hk.lt i hi)) (S:=S++more) (x:= .sl [[.str k,.sl (Bow vs) .none]] .exact) (r:=Ch6 (k,vs)) rfl rfl rfl (fun q hq=>by obtain⟨v,_,rfl⟩:=List.mem_map.1 hq;rfl) (by rw[Cf8];unfold Dh;omega) (by rw[Cf8];unfold Dh;omega)
 have hrows:B6l s.l++ [Ch6 (k,vs)]=B6l (s.l++ [(k,vs)]):=by unfold B6l;rw[List.map_append];rfl
 rw[hrows]at hk1;have hwT:T1[w]?=some (.cells [.int .i64 s.room,d,.int .i64 s.gone]):=by
  rw[hfr1 w (by simp;omega) (fun hi=>hkw w hi rfl),List.getElem?_append_left hwS]
  exact h
 have st1:=Ci2 (off:=1) Cj4 hwT (by simp) hk1.one.1 hk1.one.2
 obtain⟨T2,hT2⟩:∃T2,T2=T1.set w (.cells ([.int .i64 s.room,d,.int .i64 s.gone].set 1 d2)):=⟨_,rfl⟩;rw[← hT2]at st1;have hwT2:T2[w]?=some (.cells [.int .i64 s.room,d2,.int .i64 s.gone]):=by rw[hT2];exact B58 hwT
 have hk1w:∀i∈ks1,i≠w:=fun i hi e=>by obtain⟨g,hg⟩:=hk1.tok i hi;rw[e,hwT]at hg;cases hg
 have hk2:B5z T2 d2 (B6l (s.l++ [(k,vs)])) ks1:=hk1.fr fun i hi=>by rw[hT2,B5o (hk1w i hi)]
 have l6:=Ceq (off:=1) Cj4 Cme Clt hwT2 rfl;have l7:=Ceq (off:=0) zs3 zu3 za3 hwT2 rfl;have ln:=hk2.len Cg6 T2;rw[Cf8,List.length_append,show[(k,vs)].length=1 from rfl]at ln;have g:=Chs 3 ((s.l.length+1:Nat):Int) (s.room:Int);have q:=B6y 3 (s.room:Int) 0;rw[show((s.room:Int) == 0)=false from by simpa using hr]at q
 have hod:C2.ords 28 4=some (List.range 14,false):=by kernel_rfl
 have hod5:C2.ords 28 5=some (List.range 10,true):=by kernel_rfl
 have hpu:s.put k vs=if s.room<s.l.length+1 then(true,⟨s.room,(s.l++ [(k,vs)]).tail,s.gone+1⟩)else(true,⟨s.room,s.l++ [(k,vs)],s.gone⟩):=Cgl hr hn;obtain⟨Pw,hPw⟩:∃Pw:Nat→Prop,Pw=fun i=>i∈w::ks∨S.length≤i:=⟨_,rfl⟩;have hVw:∀id∈ [w],Pw id:=by rw[hPw];simp
 have hVW1:∀(B:Array Nat) (i:Nat),∀id∈W1,Pw id∧∀j,(j=4∧id=w)→(maskAt B i).testBit j=true:=fun B i id hid=>by rw[hPw];exact⟨.inl (by simp[hW1 id hid]),fun j e=>absurd e.2 (hkw id (hW1 id hid))⟩
 have hVs:∀(B:Array Nat),(maskAt B 13).testBit 4=true→∀id∈ [w],Pw id∧∀j,(j=4∧id=w)→(maskAt B 13).testBit j=true:=fun B hB id hid=>⟨hVw id hid,fun j e=>by rw[e.1];exact hB⟩
 have hks':∀i∈ks1,i∈w::ks∨S.length≤i:=fun i hi=>by
  rcases hks1 i hi with h1|h1
  ·exact .inl (by simp[h1])
  ·exact .inr (by simp at h1;omega)
 refine Cff rfl hK (Cgv w) func28 (bdy (by kernel_rfl)) h00 ?_
 rw[show C2.hnd.contains 28=false from rfl,← hPw];generalize he:(([.ptr w 0,.str k,.sl (Bow vs) .none]:List D)++List.replicate (Tryz.f28.ntmps - ([.ptr w 0,.str k,.sl (Bow vs) .none]:List D).length) .undef)=e;have hl:e.length=62:=by rw[← he];rfl
 have e0:e.getD 0 .undef= .ptr w 0:=by rw[← he];rfl
 have e1:e.getD 1 .undef= .str k:=by rw[← he];rfl
 have e2:e.getD 2 .undef= .sl (Bow vs) .none:=by rw[← he];rfl
 clear he;refine Bj8 ?_;obtain⟨code,hcode⟩:∃code,code=strip (bd Tryz.f28):=⟨_,rfl⟩;rw[← hcode];simp only[bd,Tryz.f28,strip,Dl,List.map_toArray,MC]at hcode;subst hcode
 repeat (first
  |refine A00 ?_|refine Asu ?_|refine Bkx ?_|refine Awr ?_|refine Ay7 ?_|refine Bq (by decide) ?_|refine Eg rfl rfl ?_|refine Zc (V:= []) (by simp) ?_
  |((first|refine Ei rfl rfl rfl rfl ?_|refine Ee rfl rfl ?_|refine Ed rfl rfl ?_|refine Bwz ?_);refine⟨_,by simp only[Bj,BB,Af,ev,Am,Ak,Ag,Gc,Ai,↓reduceIte,Nat.reduceEqDiff,Nat.reduceLT,Aj,Gn,hP,hl,e0,e1,hcg,Chz,D.known,l0,q,Option.isSome_none];first|done|rfl,?_⟩)
  |dsimp only)
 refine B4n (fun j id=>j=4∧id=w) (fun B=>(maskAt B 13).testBit 4=true) hod (by kernel_rfl) (fun B hB=>?_)
 simp only[List.map_toArray,MC,Dl,List.range,List.range.loop];have hVs13:=hVs B hB;have hVW:=hVW1 B;have hRd:∀id∈ [w],(4=4∧id=w):=fun id hid=>⟨rfl,by simpa using hid⟩
 repeat (first
  |refine B5t ?_|refine B7v rfl rfl ?_|refine Zc (by first|exact hRd|exact hVW _|exact hVs13|(simp;done)) ?_
  |((first|refine B8g rfl rfl ?_|refine B7s rfl rfl ?_);refine⟨_,by simp only[Bj,BB,Af,ev,Am,Ak,Ag,Gc,Ai,↓reduceIte,Nat.reduceEqDiff,Nat.reduceLT,Aj,Gn,hP,hl,e0,e1,e2,Cgb,D.known,l1,Ck7,ap1,bdk,Cne,Cle,Cqn,sp,Cqj,Cph,chunk,ai,List.flatMap_cons,List.flatMap_nil,List.append_nil,Cg6,ap2,st1];first|done|rfl,?_⟩)
  |dsimp only)
 by_cases hlt:s.room<s.l.length+1
 ·rw[decide_eq_true (by omega)]at g
  rw[if_pos hlt]at hpu;rw[hpu];obtain⟨e1',l',hle⟩:∃e l',s.l++ [(k,vs)]=e::l':=by
   cases hs:s.l with
   |nil=>exact⟨_,_,rfl⟩
   |cons e l=>exact⟨_,_,rfl⟩
  have hl'len:l'.length=s.l.length:=by have:=congrArg List.length hle;simpa using this.symm
  rw[hle]at hk2;dsimp only;rw[hle,show(e1'::l').tail=l' from rfl];have hne:l'≠ []:=fun e=>by rw[e]at hl'len;simp at hl'len;omega
  obtain⟨t2,g2,rfl⟩:∃t g,d2= .sl (B6l (e1'::l')) (.tok t g):=by
   generalize hrw:B6l (e1'::l')=rw' at hk2;cases hk2 with
   |nil=>cases hrw
   |row=>exact⟨_,_,rfl⟩
  obtain⟨gr',sl⟩:=Cqf e1' l' (.tok t2 g2);have ap3:=Co9 l' gr' T2 hne (by omega)
  have hwT3:(T2++ [Obj.tok 0])[w]?=some (.cells [.int .i64 s.room,.sl (B6l (e1'::l')) (.tok t2 g2),.int .i64 s.gone]):=by rw[List.getElem?_append_left (List.getElem?_eq_some_iff.1 hwT2).1];exact hwT2
  have st2:=Ci2 (off:=1) (d:= .sl (B6l l') (.tok T2.length 0)) Cj4 hwT3 (by simp) rfl rfl
  obtain⟨T4,hT4⟩:∃T4,T4=(T2++ [Obj.tok 0]).set w (.cells ([.int .i64 s.room,.sl (B6l (e1'::l')) (.tok t2 g2),.int .i64 s.gone].set 1 (.sl (B6l l') (.tok T2.length 0)))):=⟨_,rfl⟩;rw[← hT4]at st2;have hwT4:T4[w]?=some (.cells [.int .i64 s.room,.sl (B6l l') (.tok T2.length 0),.int .i64 s.gone]):=by rw[hT4];exact B58 hwT3
  have hT2w:T2.length≠w:=fun e=>by have:=(List.getElem?_eq_some_iff.1 hwT2).1;omega
  have htT4:T4[T2.length]?=some (.tok 0):=by rw[hT4,B5o hT2w];exact at1 _ _
  have l11:=Ceq (off:=2) zs3 zu3 za3 hwT4 rfl;have add:=Cgf 3 (s.gone:Int) 1 (by have:=hG.gone;omega)
  have Vy:=Ci2 (off:=2) (d:= .int .i64 ((s.gone:Int)+1)) zs3 hwT4 (by simp) rfl rfl
  obtain⟨T5,hT5⟩:∃T5,T5=T4.set w (.cells ([.int .i64 s.room,.sl (B6l l') (.tok T2.length 0),.int .i64 s.gone].set 2 (.int .i64 ((s.gone:Int)+1)))):=⟨_,rfl⟩;rw[← hT5]at Vy;have hwT5:T5[w]?=some (.cells [.int .i64 s.room,.sl (B6l l') (.tok T2.length 0),.int .i64 ((s.gone+1:Nat):Int)]):=by rw[hT5];exact B58 hwT4
  have htT5:T5[T2.length]?=some (.tok 0):=by rw[hT5,B5o hT2w];exact htT4
  have hle2:S.length≤T2.length:=by rw[hT2,List.length_set];simp at hle1;omega
  have nt1:E5 (.int .i64 1)=some 1:=rfl
  repeat (first
   |refine A00 ?_|refine Asu ?_|refine Bkx ?_|(refine Bji hod5 ?_;simp only[List.map_toArray,MC,Dl])|refine Awr ?_|refine Ay7 ?_|refine Bq (by decide) ?_|refine Eg rfl rfl ?_|refine Zc (by first|exact hVw|(simp;done)) ?_
   |((first|refine Ei rfl rfl rfl rfl ?_|refine Ee rfl rfl ?_|refine Ed rfl rfl ?_|refine Bwz ?_);refine⟨_,by simp only[Bj,BB,Af,ev,Am,Ak,Ag,Gc,Ai,↓reduceIte,Nat.reduceEqDiff,Nat.reduceLT,Aj,Gn,hP,hl,e0,e1,e2,Chz,Cgb,Ckc,D.known,l6,l7,ln,g,Vg,nt1,sl,Cg6,ap3,st2,l11,add,Vy];first|done|rfl,?_⟩)
   |dsimp only)
  refine⟨.inr rfl,[.bool true],[.bool true],T5,[w,T2.length],?_,rfl,rfl,fun _ _=>rfl,.mk hwT5 (.row htT5 (fun e=>hne (by simpa[B6l]using e))),fun i hi=>?_⟩
  ·show Gm C2.P _ _ [.tmp 6]=_;simp only[Gm,BB,Am,hl,Nat.reduceEqDiff,↓reduceIte,Nat.reduceLT]
  ·rcases List.mem_cons.1 hi with rfl|hi
   ·exact .inl (by simp)
   ·obtain rfl:i=T2.length:=by simpa using hi
    exact .inr hle2
 ·rw[decide_eq_false (by omega)]at g
  rw[if_neg hlt]at hpu;rw[hpu]
  repeat (first
   |refine A00 ?_|refine Asu ?_|refine Bkx ?_|(refine Bji hod5 ?_;simp only[List.map_toArray,MC,Dl])|refine Awr ?_|refine Ay7 ?_|refine Bq (by decide) ?_|refine Eg rfl rfl ?_|refine Zc (by first|exact hVw|(simp;done)) ?_
   |((first|refine Ei rfl rfl rfl rfl ?_|refine Ee rfl rfl ?_|refine Ed rfl rfl ?_|refine Bwz ?_);refine⟨_,by simp only[Bj,BB,Af,ev,Am,Ak,Ag,Gc,Ai,↓reduceIte,Nat.reduceEqDiff,Nat.reduceLT,Aj,Gn,hP,hl,e0,e1,e2,Chz,Cgb,D.known,l6,l7,ln,g];first|done|rfl,?_⟩)
   |dsimp only)
  refine⟨.inr rfl,[.bool true],[.bool true],T2,w::ks1,?_,rfl,rfl,fun _ _=>rfl,.mk hwT2 hk2,fun i hi=>?_⟩
  ·show Gm C2.P _ _ [.tmp 6]=_;simp only[Gm,BB,Am,hl,Nat.reduceEqDiff,↓reduceIte,Nat.reduceLT]
  ·rcases List.mem_cons.1 hi with rfl|hi
   ·exact .inl (by simp)
   ·exact hks' i hi
end
def B82(b c:Bool):Option Bool:=match b with
 |true=>match c with
  |true=>some true
  |false=>some false
 |false=>some false
theorem B6p{b c:Bool}:B82 b c=some (b && c):=by cases b<;>cases c<;>rfl
theorem Co6(a b:Bool)(s t:Tx):eqD prog 29 (.agg [.bool a,.str s]) (.agg [.bool b,.str t])=B82 (a == b) (s == t):=by kernel_rfl
theorem Cqd(a b:Vl):Bo prog .neq 29 (.agg [.bool a.1,.str a.2]) (.agg [.bool b.1,.str b.2])=some (.bool (!decide (a=b))):=by
 have h:decide (a=b)=(a.1 == b.1 && a.2 == b.2):=by rw[Bool.eq_iff_iff];simp[Prod.ext_iff]
 simp only[Bo,Co6,B6p,Option.map_some,h]
theorem Cij{a b:List Vl}{i:Nat}{x y:Vl}(h:a.take i=b.take i)(hx:a[i]?=some x)(hy:b[i]?=some y):a.take (i+1)=b.take (i+1)↔x=y:=by
 rw[List.take_add_one,List.take_add_one,hx,hy,h];constructor
 ·intro h;have:=List.append_cancel_left h;simpa using this
 ·rintro rfl;rfl
def Cf6(l:List Tx):List (List D):=l.map fun t=> [.str t]
structure Cl7(cf:Ah):Prop where
 e:∀S,cf 45 [.sl [] .none] S=some (.sl [] .exact,S,[])
 c:∀t (l:List Tx) S,l.length<1000→cf 45 [.sl (Cf6 (t::l)) .none] S=some (.arr 1 (S.length+1) 0 (l.length+1) (l.length+1),S++ [.dead,.cells (Bwl (t::l))],[])
theorem Ckq(l:List Tx):(Cf6 l).all (fun r=>r.length == 1 && r.all Al)=true:=by rw[List.all_eq_true];intro r hr;obtain⟨v,_,rfl⟩:=List.mem_map.1 hr;rfl
theorem Cll(l:List Tx):(Cf6 l).length=l.length:=List.length_map ..
theorem Cj5(l:List Tx):(Cf6 l).flatten=Bwl l:=by
 induction l with
 |nil=>rfl
 |cons t l ih=>show[D.str t]++(Cf6 l).flatten=D.str t::Bwl l;rw[ih];rfl
theorem Cnl(t:Tx)(l:List Tx)(gr:Gr)(S:St)(hl:l.length<1000):C8 prog true 35 (.arr 1 S.length 0 0 0) (.sl (Cf6 (t::l)) gr) (S++ [.cells (J2 [.str []] 0)])=
  some (.arr 1 (S.length+1) 0 (l.length+1) (l.length+1),S++ [.dead,.cells (Bwl (t::l))],[S.length]):=by
 rw[show J2 [D.str []] 0= []from rfl];unfold C8;rw[Cgm];dsimp only;rw[zs9,by9];have h1:=Ckq (t::l);have h2:(Cf6 (t::l)).length=l.length+1:=Cll _;have h3:(Cf6 (t::l)).isEmpty=false:=rfl;simp only[rowsOf,h1,hz9,Bool.and_self,if_true,h3,h2,at1,set1];have e1:decide ((0+(l.length+1))*16≤Dh)=true:=decide_eq_true (by unfold Dh;omega)
 have e2:decide (0+(l.length+1)≤Dh)=true:=decide_eq_true (by unfold Dh;omega)
 rw[e1,e2,Cj5];simp
theorem Cqp(t:Tx)(l:List Tx)(gr:Gr):Bo prog .eql 35 (.sl (Cf6 (t::l)) gr) .nilsl=some (.bool false):=by show(eqD prog 35 (.sl ([.str t]::Cf6 l) gr) .nilsl).map D.bool=_;unfold eqD;rw[Ce2];rfl
theorem Clx(n:Nat)(l:List Tx)(S:St):Eu (Sl (n+1)) S (Bwl l)=some (Bwl l,S):=Cke (fun d hd st=>by obtain⟨t,_,rfl⟩:=List.mem_map.1 hd;rfl) S
theorem Cmp(l rest:List Tx):chunk 1 l.length (Bwl (l++rest))=Cf6 l:=by
 rw[Cgo _ _ (by rw[B2m,List.length_append];omega),B5g,List.take_left' (B2m l)]
 unfold Bwl Cf6;rw[List.map_map];rfl
theorem Cju{S:St}{k cap:Nat}{l rest:List Tx}(h:S[k]?=some (.cells (Bwl (l++rest)))):Sl Gu S (.arr 1 k 0 l.length cap)=some (.sl (Cf6 l) .none,S.set k (.fcells (Bwl (l++rest)))):=by rw[show Gu=7+1+1 from rfl];unfold Sl;simp only[h,Clx];unfold Kr;rw[if_pos (by rw[B2m,List.length_append];simp),List.drop_zero,Cmp]
section
variable{cf:Ah}{N:Nat}(hK:∀f,Ba (cf f))
include hK
theorem Cn0(t:Tx)(l:List Tx)(S:St)(hl0:l.length<1000):run C2 cf N 45 [.sl (Cf6 (t::l)) .none] S=some (.arr 1 (S.length+1) 0 (l.length+1) (l.length+1),S++ [.dead,.cells (Bwl (t::l))],[]):=by
 have hP:C2.P=prog:=rfl;refine Cet rfl hK func45 (bdy (by kernel_rfl)) ?_
 rw[show C2.hnd.contains 45=true from rfl];generalize he:(([.sl (Cf6 (t::l)) .none]:List D)++List.replicate (f45.ntmps - ([.sl (Cf6 (t::l)) .none]:List D).length) .undef)=e;have hl:e.length=8:=by rw[← he];rfl
 have e0:e.getD 0 .undef= .sl (Cf6 (t::l)) .none:=by rw[← he];rfl
 clear he;have q:=Cqp t l .none;have a:=Cnl t l .none S hl0;have hV:∀id∈ [S.length],S.length≤id:=by simp
 refine Bj8 ?_;obtain⟨code,hcode⟩:∃code,code=strip (bd f45):=⟨_,rfl⟩;rw[← hcode];simp only[bd,f45,strip,Dl,List.map_toArray,MC]at hcode;subst hcode
 repeat (first
  |refine A00 ?_|refine Asu ?_|refine Bkx ?_|refine Awr ?_|refine Ay7 ?_|refine Bq (by decide) ?_|refine Eg rfl rfl ?_|refine Zc hV ?_
  |((first|refine Ee rfl rfl ?_|refine Ed rfl rfl ?_|refine Bwz ?_);refine⟨_,by simp only[Bj,BB,Af,ev,Am,Ak,Ag,Gc,Ai,↓reduceIte,Nat.reduceEqDiff,Nat.reduceLT,Aj,Gn,hP,hl,e0,q,a,Cgm,zs9,zo9,Ce2];first|done|rfl,?_⟩)
  |dsimp only)
 refine⟨.inr rfl,[_],[_],_,?_,rfl,rfl,fun _ _=>rfl,?_,rfl⟩
 ·show Gm C2.P _ _ [.tmp 2]=_;simp only[Gm,BB,Am,hl,Nat.reduceEqDiff,↓reduceIte,Nat.reduceLT]
 ·simp[D8]
theorem A65(hc:Cl7 cf)(c:Nat)(s:CP)(hG:Cgg s)(S:St)(ids:List Nat)(h0:CAt c S s ids):
  ∃S' W,run C2 cf N 30 [.ptr c 0] S=some (.sl (Cf6 (s.l.map (·.1))) .none,S',W)∧∀i∈W,i∈ids:=by
 have h00:=h0;obtain⟨h,hm,hk⟩:=h0;rename_i m kd ks;have hP:C2.P=prog:=rfl;have hll:=hG.len;have hrr:=hG.room;have l1:=Ceq (off:=1) Che Cid Cin h rfl;have hcall:∃d T V T',G6 C2 cf 45 [] [] [kd] S=some (d,T,V)∧(∀i∈V,i∈c::m::ks)∧Cw T [d]=some ([.sl (Cf6 (s.l.map (·.1))) .none],T')∧S.length≤T.length∧∀i∈Dn T T',S.length≤i:=by
  unfold G6;rw[show Dm C2.P 45=true from by kernel_rfl,show C2.byRef.contains 45=false from rfl]
  have hlen:(s.l.map (·.1)).length=s.l.length:=List.length_map ..;generalize s.l.map (·.1)=keys at hk hlen;cases hk with
  |nil=>
   have hz:Cw S [.nilsl]=some ([.sl [] .none],S):=rfl;simp only[Bool.not_true,BF,hz,List.nil_append,List.append_nil,hc.e S];refine⟨.sl [] .exact,S,[],S,?_,by simp,rfl,Nat.le_refl _,fun i hi=>?_⟩
   ·rw[Du];rfl
   ·rw[Du]at hi;cases hi
  |row hkk hk0 hk1 hk2 hkc hkm=>
   rename_i k cap rest;obtain⟨t,l,rfl⟩:∃t l,keys=t::l:=by
    cases keys with
    |nil=>exact absurd rfl hk0
    |cons t l=>exact⟨_,_,rfl⟩
   have hz:Cw S [.arr 1 k 0 (t::l).length cap]=some ([.sl (Cf6 (t::l)) .none],S.set k (.fcells (Bwl (t::l++rest)))):=Ag6 (Cju hkk) Ale;have hcc:=hc.c t l (S.set k (.fcells (Bwl (t::l++rest)))) (by simp only[List.length_cons]at hlen;omega)
   rw[List.length_set]at hcc;simp only[Bool.not_true,BF,hz,List.nil_append,List.append_nil,hcc];obtain⟨T,hT⟩:∃T,T=S.set k (.fcells (Bwl (t::l++rest))):=⟨_,rfl⟩;have hTl:T.length=S.length:=by rw[hT,List.length_set]
   rw[← hT];refine⟨.arr 1 (S.length+1) 0 (l.length+1) (l.length+1),T++ [.dead,.cells (Bwl (t::l))],Dj (Dn S T) [],T++ [.dead,.fcells (Bwl (t::l))],rfl,fun i hi=>?_,?_,by simp;omega,fun i hi=>?_⟩
   ·rcases Cm.1 hi with h1|h1
    ·unfold Dn at h1;obtain⟨_,hcx⟩:=List.mem_filter.1 h1;by_cases hik:i=k
     ·subst hik;simp
     ·rw[hT,B5o hik]at hcx;cases hx:S[i]? with
      |none=>rw[hx]at hcx;simp at hcx
      |some o=>rw[hx]at hcx;cases o<;>simp at hcx
    ·cases h1
   ·refine Ag6 ?_ Ale;have h2:(T++ [Obj.dead,.cells (Bwl (t::l))])[S.length+1]?=some (.cells (Bwl ((t::l)++ []))):=by
     rw[← hTl,List.append_nil];exact at2 _ _ _
    have:=Cju (cap:=l.length+1) h2;rw[← hTl,set2,List.append_nil,hTl]at this;exact this
   ·have:=Cg1 T [.dead,.cells (Bwl (t::l))] [.dead,.fcells (Bwl (t::l))] i hi;omega
 obtain⟨d,T,V,T',hcd,hV,hz,hTl,hfz⟩:=hcall;suffices hx:Rp C2 (C2.hnd.contains 30) (C2.ords 30) cf N (fun i=>i∈c::m::ks∨S.length≤i) (bd f30) (([.ptr c 0]:List D)++List.replicate (f30.ntmps - ([.ptr c 0]:List D).length) .undef) S (fun y e' st'=>(y= .norm∨y= .ret)∧Gm C2.P e' st' f30.results.toList=some [d]∧st'=T) by
  obtain⟨y,e',st',V',h1,h2,h3,h4,rfl⟩:=hx.ex;have hrun:run C2 cf N 30 [.ptr c 0] S=finish S.length (.sl (Cf6 (s.l.map (·.1))) .none) T' (Dj (Dn st' T') V'):=by
   unfold run;rw[hP,func30];dsimp only;rw[bdy (f:=f30) (by kernel_rfl)]
   dsimp only;rw[h1];rw[hP]at h4;have hz':Ls C2 30 [d] st'=some ([.sl (Cf6 (s.l.map (·.1))) .none],T'):=hz;rcases h3 with rfl|rfl
   all_goals
    dsimp only;rw[h4];dsimp only;rw[hz'];rfl
  rw[hrun];have hW:∀i∈(Dj (Dn st' T') V').filter (· <S.length),i∈c::m::ks:=fun i hi=>by
   rw[List.mem_filter]at hi;have hlt:=of_decide_eq_true hi.2;rcases Cm.1 hi.1 with h|h
   ·have:=hfz i h;omega
   ·rcases h2 i h with h|h
    ·exact h
    ·omega
  unfold finish;dsimp only;split
  ·exact⟨_,_,rfl,hW⟩
  ·exact⟨_,_,rfl,hW⟩
 rw[show C2.hnd.contains 30=false from rfl];generalize he:(([.ptr c 0]:List D)++List.replicate (f30.ntmps - ([.ptr c 0]:List D).length) .undef)=e;have hl:e.length=10:=by rw[← he];rfl
 have e0:e.getD 0 .undef= .ptr c 0:=by rw[← he];rfl
 clear he;have hVV:∀id∈V,id∈c::m::ks∨S.length≤id:=fun id hid=> .inl (hV id hid);refine Bj8 ?_;obtain⟨code,hcode⟩:∃code,code=strip (bd f30):=⟨_,rfl⟩;rw[← hcode];simp only[bd,f30,strip,Dl,List.map_toArray,MC]at hcode;subst hcode
 repeat (first
  |refine A00 ?_|refine Asu ?_|refine Bkx ?_|refine Awr ?_|refine Ay7 ?_|refine Bq (by decide) ?_|refine Eg rfl rfl ?_|refine Zc hVV ?_
  |((first|refine Ee rfl rfl ?_|refine Ed rfl rfl ?_|refine Bwz ?_);refine⟨_,by simp only[Bj,BB,Af,ev,Am,Ak,Ag,Gc,Ai,↓reduceIte,Nat.reduceEqDiff,Nat.reduceLT,Aj,Gn,hP,hl,e0,Cf4,Cg4,D.known,l1,hcd];first|done|rfl,?_⟩)
  |dsimp only)
 refine⟨.inr rfl,?_,rfl⟩;show Gm C2.P _ _ [.tmp 2]=_;simp only[Gm,BB,Am,hl,Nat.reduceEqDiff,↓reduceIte,Nat.reduceLT]
theorem By9(a b:List Vl)(ha:a.length+5<N)(ha2:a.length<2 ^ 40)(hb2:b.length<2 ^ 40):Ao (run C2 cf N) 14 [.sl (Bow a) .none,.sl (Bow b) .none] (.bool (decide (a=b))):=fun S=>by
 have hP:C2.P=prog:=rfl;refine Bbg rfl hK func14 (bdy (by kernel_rfl)) ?_
 rw[show C2.hnd.contains 14=false from rfl];generalize he:(([.sl (Bow a) .none,.sl (Bow b) .none]:List D)++List.replicate (Tryz.f14.ntmps - ([.sl (Bow a) .none,.sl (Bow b) .none]:List D).length) .undef)=e;have hl:e.length=26:=by rw[← he];rfl
 have e0:e.getD 0 .undef= .sl (Bow a) .none:=by rw[← he];rfl
 have e1:e.getD 1 .undef= .sl (Bow b) .none:=by rw[← he];rfl
 clear he;have hln:∀(vs:List Vl) S,Ny prog 22 (.sl (Bow vs) .none) S=some (.int .i64 (vs.length:Int),.pure):=fun vs S=>by unfold Ny;rw[underlying22];simp[Chg]
 have q:=Cib 3 (a.length:Int) (b.length:Int);have hod:C2.ords 14 6=some (List.range 9,true):=by kernel_rfl
 refine Bj8 ?_;obtain⟨code,hcode⟩:∃code,code=strip (bd Tryz.f14):=⟨_,rfl⟩;rw[← hcode];simp only[bd,Tryz.f14,strip,Dl,List.map_toArray,MC]at hcode;subst hcode;by_cases hlab:a.length=b.length
 ·rw[show((a.length:Int) !=(b.length:Int))=false from by simp[hlab]]at q
  repeat (first
   |refine A00 ?_|refine Asu ?_|refine Bkx ?_|refine Awr ?_|refine Ay7 ?_|refine Bq (by decide) ?_|refine Eg rfl rfl ?_
   |((first|refine Ee rfl rfl ?_|refine Ed rfl rfl ?_|refine Bwz ?_);refine⟨_,by simp only[Bj,BB,Af,ev,Am,Ak,Ag,Gc,Ai,↓reduceIte,Nat.reduceEqDiff,Nat.reduceLT,Aj,hP,hl,e0,e1,hln,q];first|done|rfl,?_⟩)
   |dsimp only)
  refine Awv (fun n e' S'=>∃i,n=a.length - i∧i≤a.length∧S'=S∧e'.length=26∧e'.getD 0 .undef= .sl (Bow a) .none∧e'.getD 1 .undef= .sl (Bow b) .none∧e'.getD 12 .undef= .int .i64 (a.length:Int)∧e'.getD 13 .undef= .int .i64 (i:Int)∧a.take i=b.take i) a.length (by omega) ?_ ?_
  ·refine⟨0,rfl,Nat.zero_le _,rfl,?_,?_,?_,?_,?_,rfl⟩
   all_goals (simp only[BB,Am,hl,e0,e1,Nat.reduceEqDiff,↓reduceIte,Nat.reduceLT];first|done|rfl)
  clear e0 e1 hl e;rintro n e S' ⟨i,rfl,hi,rfl,hl,e0,e1,e12,e13,htk⟩;have g1:=B5p 0 (i:Int) (a.length:Int);by_cases hlt:i<a.length
  ·rw[decide_eq_true (by omega)]at g1
   obtain⟨x,hx⟩:∃x,a[i]?=some x:=⟨_,List.getElem?_eq_getElem hlt⟩;obtain⟨y,hy⟩:∃y,b[i]?=some y:=⟨_,List.getElem?_eq_getElem (by omega)⟩
   have ix:=Cls hx;have iy:=Cls hy;have lx:=Bze (.bool x.1) (.str x.2) S';have ly:=Bze (.bool y.1) (.str y.2) S';have nq:=Cqd x y;have nx:=Cij htk hx hy;have ad:Bo prog .add 3 (.int .i64 (i:Int)) (.int .i64 1)=some (.int .i64 ((i+1:Nat):Int)):=Cgf 3 (i:Int) 1 (by omega)
   replace g1:Bo prog .lss 3 (.int .i64 (i:Int)) (.int .i64 (a.length:Int))=some (.bool true):=g1;by_cases hxy:x=y
   ·rw[decide_eq_true hxy]at nq
    repeat (first
     |refine A00 ?_|refine Asu ?_|refine Bkx ?_|(refine Bji hod ?_;simp only[List.map_toArray,MC,Dl])|refine Awr ?_|refine Ay7 ?_|refine Avq ?_|refine Bq (by decide) ?_|refine Eg rfl rfl ?_
     |((first|refine Ee rfl rfl ?_|refine Ed rfl rfl ?_|refine Bwz ?_);refine⟨_,by simp only[Bj,BB,Af,ev,Am,Ak,Ag,Gc,Ai,↓reduceIte,Nat.reduceEqDiff,Nat.reduceLT,Aj,hP,hl,e0,e1,e12,e13,g1,ix,iy,lx,ly,nq,ad];first|done|rfl,?_⟩)
     |dsimp only)
    refine⟨a.length - (i+1),by omega,i+1,rfl,by omega,rfl,?_,?_,?_,?_,?_,nx.2 hxy⟩
    all_goals (simp only[BB,Am,hl,e0,e1,e12,e13,Nat.reduceEqDiff,↓reduceIte,Nat.reduceLT];first|done|rfl)
   ·rw[decide_eq_false hxy]at nq;have hne:a≠b:=fun e=>hxy (by rw[e,hy]at hx;exact(Option.some.inj hx).symm)
    rw[decide_eq_false hne]
    repeat (first
     |refine A00 ?_|refine Asu ?_|refine Bkx ?_|(refine Bji hod ?_;simp only[List.map_toArray,MC,Dl])|refine Awr ?_|refine Ay7 ?_|refine Avq ?_|refine Bq (by decide) ?_|refine Eg rfl rfl ?_
     |((first|refine Ee rfl rfl ?_|refine Ed rfl rfl ?_|refine Bwz ?_);refine⟨_,by simp only[Bj,BB,Af,ev,Am,Ak,Ag,Gc,Ai,↓reduceIte,Nat.reduceEqDiff,Nat.reduceLT,Aj,hP,hl,e0,e1,e12,e13,g1,ix,iy,lx,ly,nq,ad];first|done|rfl,?_⟩)
     |dsimp only)
    refine⟨.inr rfl,[.bool false],[.bool false],_,?_,rfl,rfl,fun _ _=>rfl,.inl rfl⟩;show Gm C2.P _ _ [.tmp 4]=_;simp only[Gm,BB,Am,hl,Nat.reduceEqDiff,↓reduceIte,Nat.reduceLT]
  ·rw[decide_eq_false (by omega)]at g1
   replace g1:Bo prog .lss 3 (.int .i64 (i:Int)) (.int .i64 (a.length:Int))=some (.bool false):=g1;have hab:a=b:=by
    rw[List.take_of_length_le (by omega),List.take_of_length_le (by omega)]at htk
    exact htk
   rw[decide_eq_true hab]
   repeat (first
    |refine A00 ?_|refine Asu ?_|refine Bkx ?_|refine Awr ?_|refine Ay7 ?_|refine Avq ?_|refine Bq (by decide) ?_|refine Eg rfl rfl ?_
    |((first|refine Ee rfl rfl ?_|refine Ed rfl rfl ?_|refine Bwz ?_);refine⟨_,by simp only[Bj,BB,Af,ev,Am,Ak,Ag,Gc,Ai,↓reduceIte,Nat.reduceEqDiff,Nat.reduceLT,Aj,hP,hl,e0,e1,e12,e13,g1];first|done|rfl,?_⟩)
    |dsimp only)
   refine⟨.inr rfl,[.bool true],[.bool true],_,?_,rfl,rfl,fun _ _=>rfl,.inl rfl⟩;show Gm C2.P _ _ [.tmp 4]=_;simp only[Gm,BB,Am,hl,Nat.reduceEqDiff,↓reduceIte,Nat.reduceLT]
 ·rw[show((a.length:Int) !=(b.length:Int))=true from bne_iff_ne.2 (by omega)]at q
  rw[decide_eq_false (fun e=>hlab (by rw[e]))]
  repeat (first
   |refine A00 ?_|refine Asu ?_|refine Bkx ?_|refine Awr ?_|refine Ay7 ?_|refine Bq (by decide) ?_|refine Eg rfl rfl ?_
   |((first|refine Ee rfl rfl ?_|refine Ed rfl rfl ?_|refine Bwz ?_);refine⟨_,by simp only[Bj,BB,Af,ev,Am,Ak,Ag,Gc,Ai,↓reduceIte,Nat.reduceEqDiff,Nat.reduceLT,Aj,hP,hl,e0,e1,hln,q];first|done|rfl,?_⟩)
   |dsimp only)
  refine⟨.inr rfl,[.bool false],[.bool false],S,?_,rfl,rfl,fun _ _=>rfl,.inl rfl⟩;show Gm C2.P _ _ [.tmp 4]=_;simp only[Gm,BB,Am,hl,Nat.reduceEqDiff,↓reduceIte,Nat.reduceLT]
end
structure OpT where
 kind:Int
 key:Tx
 vs:List Vl
def Cmv(o:OpT):List D:= [.int .i64 o.kind,.str o.key,.sl (Bow o.vs) .none]
def Cf9(l:List OpT):List (List D):=l.map Cmv
theorem Cno:Bw prog 58=some 3:=by kernel_rfl
theorem Cp4:(prog.underlying 58).isSome=true:=by kernel_rfl
theorem Cp8:Jg prog 58=true:=by kernel_rfl
theorem Cov:zeroOf prog 58=some [.int .i64 0,.str [],.nilsl]:=by kernel_rfl
theorem Cl3(b:Nat):Eh prog 58 (.ptr b 0) 0=some (.ptr b 0,.pure):=by kernel_rfl
theorem Clv(b:Nat):Eh prog 58 (.ptr b 0) 1=some (.ptr b 1,.pure):=by kernel_rfl
theorem Cmf(b:Nat):Eh prog 58 (.ptr b 0) 2=some (.ptr b 2,.pure):=by kernel_rfl
theorem Coz(a b c:D)(S:St):Fp prog 58 (.eptr [a,b,c]) S=some (.agg [a,b,c],.pure):=by
 unfold Fp;dsimp only;rw[B4e Cno Cp4 Cp8 (by simp)]
 rfl
theorem Cp7{S:St}{p:Nat}{x y z a b c:D}(h:S[p]?=some (.cells [x,y,z]))(ha:Al a=true)(hb:Al b=true)(hc:Al c=true):I4 prog 58 (.ptr p 0) (.agg [a,b,c]) S=some (.undef,S.set p (.cells [a,b,c]),[p]):=by unfold I4;simp only[h,Cno,D.cells];simp[ha,hb,hc]
theorem Cqt{ops:List OpT}{o:OpT}{i:Nat}(h:ops[i]?=some o):Cf prog 54 (.sl (Cf9 ops) .none) (.int .i64 (i:Int))=some (.eptr [.int .i64 o.kind,.str o.key,.sl (Bow o.vs) .none],.pure):=by
 unfold Cf;rw[show E5 (.int .i64 (i:Int))=some i from by simp[E5]]
 dsimp only;rw[underlying54];dsimp only;rw[show(Cf9 ops)[i]?=some (Cmv o)from by unfold Cf9;rw[List.getElem?_map,h];rfl]
 simp[Cmv,Cno]
theorem Cqu(ops:List OpT)(S:St):Ny prog 54 (.sl (Cf9 ops) .none) S=some (.int .i64 (ops.length:Int),.pure):=by unfold Ny;rw[underlying54];simp[Cf9]
theorem Co7{l:List Tx}{t:Tx}{i:Nat}(h:l[i]?=some t):Cf prog 35 (.sl (Cf6 l) .none) (.int .i64 (i:Int))=some (.eptr [.str t],.pure):=by
 unfold Cf;rw[show E5 (.int .i64 (i:Int))=some i from by simp[E5]]
 dsimp only;rw[Ce2];dsimp only;rw[show(Cf6 l)[i]?=some [.str t]from by unfold Cf6;rw[List.getElem?_map,h];rfl]
 simp[zs9]
theorem Cpj(l:List Tx)(S:St):Ny prog 35 (.sl (Cf6 l) .none) S=some (.int .i64 (l.length:Int),.pure):=by unfold Ny;rw[Ce2];simp[Cf6]
theorem Cot(b:Bool):Bo prog .neq 4 (.bool b) (.bool b)=some (.bool false):=by cases b<;>kernel_rfl
theorem Cp2(k:Tx):Bo prog .neq 9 (.str k) (.str k)=some (.bool false):=by show some (D.bool (!(k == k)))=_;rw[beq_self_eq_true];rfl
theorem Cpi(k:Tx)(S:St):Fp prog 9 (.eptr [.str k]) S=some (.str k,.pure):=by
 unfold Fp;dsimp only;rw[Br0 zs9 zu9 za9 (by simp)]
 rfl
theorem Cnb{c:Nat}{S:St}{s:CP}{ids:List Nat}(h:CAt c S s ids):∀id∈ids,id<S.length:=fun id hid=>by
 obtain⟨h1,h2,h3⟩:=h;rcases List.mem_cons.1 hid with rfl|hid
 ·exact(List.getElem?_eq_some_iff.1 h1).1
 ·rcases List.mem_cons.1 hid with rfl|hid
  ·exact(List.getElem?_eq_some_iff.1 h2).1
  ·exact h3.lt.2 id hid
theorem Cnp{w:Nat}{S:St}{s:CP}{ids:List Nat}(h:WAt w S s ids):∀id∈ids,id<S.length:=fun id hid=>by
 obtain⟨h1,h2⟩:=h;rcases List.mem_cons.1 hid with rfl|hid
 ·exact(List.getElem?_eq_some_iff.1 h1).1
 ·exact h2.lt id hid
theorem put_mem{s:CP}{k:Tx}{vs:List Vl}{e:Tx × List Vl}(he:e∈(s.put k vs).2.l):e∈s.l∨e=(k,vs):=by
 unfold CP.put at he;have key:∀e,e∈s.l++ [(k,vs)]→e∈s.l∨e=(k,vs):=fun e h=>by
  rcases List.mem_append.1 h with h|h
  ·exact .inl h
  ·exact .inr (by simpa using h)
 split at he
 ·exact .inl he
 ·split at he
  ·exact key e (List.mem_of_mem_tail he)
  ·exact key e he
theorem Chr(vs:List Vl):(Cf7 vs).length≤10:=by unfold Cf7;rw[List.length_map,List.length_take];omega
theorem Cmd{s:CP}{k:Tx}{vs:List Vl}{n:Nat}(hG:Cgg s)(hg:s.gone≤n)(hn:n<2 ^ 50)(hv:vs.length<2 ^ 30):Cgg (s.put k vs).2∧(s.put k vs).2.gone≤n+1:=by
 unfold CP.put;split
 ·exact⟨hG,Nat.le_succ_of_le hg⟩
 ·rename_i h;have hr:=hG.room;have hl:=hG.len;have hvv:∀e∈s.l++ [(k,vs)],e.2.length<2 ^ 30:=fun e he=>by
   rcases List.mem_append.1 he with h|h
   ·exact hG.val e h
   ·obtain rfl:e=(k,vs):=by simpa using h
    exact hv
  split
  ·refine⟨⟨hr,?_,by show s.gone+1<2 ^ 60;omega,fun e he=>hvv e (List.mem_of_mem_tail he)⟩,by show s.gone+1≤n+1;omega⟩
   show(s.l++ [(k,vs)]).tail.length≤s.room;rw[List.length_tail,List.length_append];simp;omega
  ·refine⟨⟨hr,?_,by show s.gone<2 ^ 60;omega,hvv⟩,by show s.gone≤n+1;omega⟩
   show(s.l++ [(k,vs)]).length≤s.room;rw[List.length_append];simp;omega
section
variable{cf:Ah}{N:Nat}(hK:∀f,Ba (cf f))
include hK
set_option maxHeartbeats 4000000 in
theorem Cpf(hN:300<N)(h9:Ao cf 9 [] (.bool true))(h11:∀(x:Int) S,cf 11 [.int .i64 x] S=some (.ptr (S.length+1) 0,S++ [.map [],.cells [.int .i64 (Cbp x:Int),.nilsl,.map S.length,.int .i64 0]],[]))
  (h27:∀(x:Int) S,cf 27 [.int .i64 x] S=some (.ptr S.length 0,S++ [.cells [.int .i64 (Cbp x:Int),.nilsl,.int .i64 0]],[]))
  (h10:∀vs:List Vl,Ao cf 10 [.sl (Bow vs) .none] (.sl (Bow (Cf7 vs)) .none))
  (hput:∀c s k (vs:List Vl),Cgg s→vs.length<2 ^ 30→Cf3 cf 12 [.ptr c 0,.str k,.sl (Bow vs) .none] (CAt c) s (.bool (s.put k vs).1) (s.put k vs).2)
  (hwput:∀w s k (vs:List Vl),Cgg s→vs.length<2 ^ 30→Cf3 cf 28 [.ptr w 0,.str k,.sl (Bow vs) .none] (WAt w) s (.bool (s.put k vs).1) (s.put k vs).2)
  (hget:∀c s k,Cgg s→B51 cf 13 [.ptr c 0,.str k] (CAt c) s (Cgt (B16 k s.l)))(hwget:∀w s k,Cgg s→B51 cf 29 [.ptr w 0,.str k] (WAt w) s (Cgt (B16 k s.l)))
  (h24:∀c s,B51 cf 24 [.ptr c 0] (CAt c) s (.int .i64 (s.l.length:Int)))(h25:∀c s,B51 cf 25 [.ptr c 0] (CAt c) s (.int .i64 (s.gone:Int)))
  (h30:∀c s,Cgg s→∀S ids,CAt c S s ids→∃S' W,cf 30 [.ptr c 0] S=some (.sl (Cf6 (s.l.map (·.1))) .none,S',W)∧∀i∈W,i∈ids)
  (h14:∀a:List Vl,a.length≤10→Ao cf 14 [.sl (Bow a) .none,.sl (Bow a) .none] (.bool true))
  (x:Int)(ops:List OpT):Ao (run C2 cf N) 7 [.int .i64 x,.sl (Cf9 ops) .none] (.bool true):=fun S=>by
 have hP:C2.P=prog:=rfl;refine Bbg rfl hK func7 (bdy (by kernel_rfl)) ?_
 rw[show C2.hnd.contains 7=false from rfl];generalize he:(([.int .i64 x,.sl (Cf9 ops) .none]:List D)++List.replicate (f7.ntmps - ([.int .i64 x,.sl (Cf9 ops) .none]:List D).length) .undef)=e;have hl:e.length=135:=by rw[← he];rfl
 have e0:e.getD 0 .undef= .int .i64 x:=by rw[← he];rfl
 have e1:e.getD 1 .undef= .sl (Cf9 ops) .none:=by rw[← he];rfl
 clear he;have hc9:∀S,G6 C2 cf 9 [] [] [] S=some (.bool true,S,[]):=fun S=>Amz (by kernel_rfl) rfl rfl (h9 S)
 obtain⟨r,hr⟩:∃r,r=Cbp x:=⟨_,rfl⟩;have hr2:r≤200:=by rw[hr];unfold Cbp;omega
 obtain⟨S1,hS1⟩:∃S1,S1=S++ [.map [],.cells [.int .i64 (r:Int),.nilsl,.map S.length,.int .i64 0]]:=⟨_,rfl⟩;have hS1l:S1.length=S.length+2:=by rw[hS1];simp
 have hc11:G6 C2 cf 11 [] [] [.int .i64 x] S=some (.ptr (S.length+1) 0,S1,[]):=by
  unfold G6;rw[show Dm C2.P 11=true from by kernel_rfl,show C2.byRef.contains 11=false from rfl]
  have hz:Cw S [.int .i64 x]=some ([.int .i64 x],S):=rfl;have:=h11 x S;rw[← hr,← hS1]at this;simp only[Bool.not_true,BF,hz,List.nil_append,List.append_nil,this];rw[Du];rfl
 obtain⟨S2,hS2⟩:∃S2,S2=S1++ [.cells [.int .i64 (r:Int),.nilsl,.int .i64 0]]:=⟨_,rfl⟩;have hS2l:S2.length=S.length+3:=by rw[hS2];simp[hS1l]
 have hc27:G6 C2 cf 27 [] [] [.int .i64 x] S1=some (.ptr (S.length+2) 0,S2,[]):=by
  unfold G6;rw[show Dm C2.P 27=true from by kernel_rfl,show C2.byRef.contains 27=false from rfl]
  have hz:Cw S1 [.int .i64 x]=some ([.int .i64 x],S1):=rfl;have:=h27 x S1;rw[← hr,← hS2,hS1l]at this;simp only[Bool.not_true,BF,hz,List.nil_append,List.append_nil,this];rw[Du];rfl
 have hatC:CAt (S.length+1) S2 ⟨r,[],0⟩ [S.length+1,S.length]:=by
  refine .mk (kd:= .nilsl) (ks:= []) ?_ ?_ .nil
  ·rw[hS2,List.getElem?_append_left (by omega),hS1]
   exact at2 _ _ _
  ·rw[hS2,List.getElem?_append_left (by omega),hS1,List.getElem?_append_right (Nat.le_refl _),Nat.sub_self]
   rfl
 have hatW:WAt (S.length+2) S2 ⟨r,[],0⟩ [S.length+2]:=by refine .mk (d:= .nilsl) (ks:= []) ?_ .nil;rw[hS2,← hS1l];exact at1 _ _
 have hodA:C2.ords 7 11=some ([0,1,2,3,5,6,7,8,4,9,10],false):=by kernel_rfl
 have hodB:C2.ords 7 15=some ([0,1,2,3,4,5,6,7,8,9,10,12,13,14,15,16,11,17,18,19,20,22,23,24,25,21,26,27],false):=by kernel_rfl
 have hodC:C2.ords 7 21=some (List.range 22,true):=by kernel_rfl
 refine Bj8 ?_;obtain⟨code,hcode⟩:∃code,code=strip (bd f7):=⟨_,rfl⟩;rw[← hcode];simp only[bd,f7,strip,Dl,List.map_toArray,MC]at hcode;subst hcode
 repeat (first
  |refine A00 ?_|refine Asu ?_|refine Bkx ?_|refine Awr ?_|refine Ay7 ?_|refine Bq (by decide) ?_|refine Eg rfl rfl ?_|refine Zc (V:= []) (by simp) ?_
  |((first|refine Ei rfl rfl rfl rfl ?_|refine Ee rfl rfl ?_|refine Ed rfl rfl ?_|refine Bwz ?_);refine⟨_,by simp only[Bj,BB,Af,ev,Am,Ak,Ag,Gc,Ai,↓reduceIte,Nat.reduceEqDiff,Nat.reduceLT,Aj,hP,hl,e0,e1,hc9,hc11,hc27];first|done|rfl,?_⟩)
  |dsimp only)
 refine Awv (fun k e' S'=>∃i s idc idw,k=120 - i∧i≤120∧i≤ops.length∧e'.length=135∧e'.getD 1 .undef= .sl (Cf9 ops) .none∧e'.getD 6 .undef= .ptr (S.length+1) 0∧e'.getD 7 .undef= .ptr (S.length+2) 0∧e'.getD 8 .undef= .int .i64 (i:Int)∧CAt (S.length+1) S' s idc∧WAt (S.length+2) S' s idw∧Cgg s∧s.gone≤i∧(∀e∈s.l,e.2.length≤10)∧(∀id∈idc,S.length≤id∧id<S'.length∧id ∉ idw)∧(∀id∈idw,S.length≤id∧id<S'.length)) 120 (by omega) ?_ ?_
 ·refine⟨0,⟨r,[],0⟩,[S.length+1,S.length],[S.length+2],rfl,by omega,by omega,?_,?_,?_,?_,?_,hatC,hatW,⟨hr2,Nat.zero_le _,by show 0<2 ^ 60;decide,by simp⟩,Nat.le_refl _,by simp,?_,?_⟩
  all_goals first
   |(simp only[BB,Am,hl,e1,Nat.reduceEqDiff,↓reduceIte,Nat.reduceLT];done)
   |(simp only[BB,Am,hl,e1,Nat.reduceEqDiff,↓reduceIte,Nat.reduceLT];rfl)
   |(intro id hid;simp only[List.mem_cons,List.not_mem_nil,or_false]at hid ⊢;omega)
 clear hatC hatW hc11 hc27 e0 e1 hl e;rintro k e S' ⟨i,s,idc,idw,rfl,hi,hi2,hl,e1,e6,e7,e8,hat,haw,hG,hgn,hten,hidc,hidw⟩;have g0:=Cqu ops;have g1:=B5p 3 (i:Int) (ops.length:Int);have g2:=B5p 3 (i:Int) 120;by_cases hlt:i<ops.length∧i<120
 ·rw[decide_eq_true (by omega)]at g1
  rw[decide_eq_true (by omega)]at g2
  obtain⟨o,ho⟩:∃o,ops[i]?=some o:=⟨_,List.getElem?_eq_getElem hlt.1⟩;have ix:=Cqt ho;have l1:=Coz (.int .i64 o.kind) (.str o.key) (.sl (Bow o.vs) .none) S';obtain⟨P,hPe⟩:∃P,P=S'++ [Obj.cells [.int .i64 o.kind,.str o.key,.sl (Bow o.vs) .none]]:=⟨_,rfl⟩;have s1:=Cp7 (S:=S'++ [.cells [.int .i64 0,.str [],.nilsl]]) (p:=S'.length) (a:= .int .i64 o.kind) (b:= .str o.key) (c:= .sl (Bow o.vs) .none) (at1 _ _) rfl rfl rfl;rw[set1,← hPe]at s1;have hPp:P[S'.length]?=some (.cells [.int .i64 o.kind,.str o.key,.sl (Bow o.vs) .none]):=by rw[hPe];exact at1 _ _
  have hPl:P.length=S'.length+1:=by rw[hPe];simp
  have l2:=Ceq (t:=22) (off:=2) Cop Cor Con hPp rfl;have l3:=Ceq (off:=0) zs3 zu3 za3 hPp rfl;have l4:=Ceq (off:=1) zs9 zu9 za9 hPp rfl;have c10:∀S,G6 C2 cf 10 [] [] [.sl (Bow o.vs) .none] S=some (.sl (Bow (Cf7 o.vs)) .none,S,[]):=fun S=>Amz (by kernel_rfl) rfl rfl (h10 o.vs S)
  have ad:Bo prog .add 3 (.int .i64 (i:Int)) (.int .i64 1)=some (.int .i64 ((i+1:Nat):Int)):=Cgf 3 (i:Int) 1 (by omega)
  have hvl:(Cf7 o.vs).length<2 ^ 30:=by have:=Chr o.vs;omega
  have hatP:CAt (S.length+1) P s idc:=(Cep _).fr _ _ _ _ hat fun j hj=>by rw[hPe,List.getElem?_append_left (hidc j hj).2.1]
  have hawP:WAt (S.length+2) P s idw:=(Cgv _).fr _ _ _ _ haw fun j hj=>by rw[hPe,List.getElem?_append_left (hidw j hj).2]
  have hVp:∀id∈ [S'.length],S.length≤id:=by have:=(Cep _).rt _ _ _ hat;intro id hid;simp at hid;omega
  have q0:=B6y 3 o.kind 0;obtain⟨s',T,idc',idw',hor,hat',haw',hG',hgn',hten',hidc',hidw',hTl,hTp⟩:∃s' T idc' idw',((o.kind == 0)=false∧s'=s∧T=P∨(o.kind == 0)=true∧∃T1 V1 V2,G6 C2 cf 12 [] [] [.ptr (S.length+1) 0,.str o.key,.sl (Bow (Cf7 o.vs)) .none] P=some (.bool (s.put o.key (Cf7 o.vs)).1,T1,V1)∧T1[S'.length]?=some (.cells [.int .i64 o.kind,.str o.key,.sl (Bow o.vs) .none])∧G6 C2 cf 28 [] [] [.ptr (S.length+2) 0,.str o.key,.sl (Bow (Cf7 o.vs)) .none] T1=some (.bool (s.put o.key (Cf7 o.vs)).1,T,V2)∧(∀id∈V1,S.length≤id∧id≠S'.length)∧(∀id∈V2,S.length≤id∧id≠S'.length))∧CAt (S.length+1) T s' idc'∧WAt (S.length+2) T s' idw'∧Cgg s'∧s'.gone≤i+1∧(∀e∈s'.l,e.2.length≤10)∧(∀id∈idc',S.length≤id∧id<T.length∧id ∉ idw')∧(∀id∈idw',S.length≤id∧id<T.length)∧P.length≤T.length∧T[S'.length]?=some (.cells [.int .i64 o.kind,.str o.key,.sl (Bow o.vs) .none]):=by
   have hcS:=(Cep _).rt _ _ _ hat;cases hk0:o.kind == 0 with
   |false=>exact⟨s,P,idc,idw,.inl ⟨rfl,rfl,rfl⟩,hatP,hawP,hG,by omega,hten,fun id hid=>⟨(hidc id hid).1,by have:=(hidc id hid).2.1;omega,(hidc id hid).2.2⟩,fun id hid=>⟨(hidw id hid).1,by have:=(hidw id hid).2;omega⟩,Nat.le_refl _,hPp⟩
   |true=>
    obtain⟨T1,V1,idc1,hcp,hV1,hat1,hidc1,hle1,hfr1⟩:=Cha (a:= []) (c:= []) (as_:= [.ptr (S.length+1) 0,.str o.key,.sl (Bow (Cf7 o.vs)) .none]) (C:=C2) hK (Cep _) (by kernel_rfl) rfl rfl (hput (S.length+1) s o.key (Cf7 o.vs) hG hvl) hatP
    have haw1:WAt (S.length+2) T1 s idw:=(Cgv _).fr _ _ _ _ hawP fun j hj=>hfr1 j (by have:=(hidw j hj).2;omega) (fun hm=>(hidc j hm).2.2 hj)
    obtain⟨T,V2,idw1,hwp,hV2,haw2,hidw1,hle2,hfr2⟩:=Cha (a:= []) (c:= []) (as_:= [.ptr (S.length+2) 0,.str o.key,.sl (Bow (Cf7 o.vs)) .none]) (C:=C2) hK (Cgv _) (by kernel_rfl) rfl rfl (hwput (S.length+2) s o.key (Cf7 o.vs) hG hvl) haw1
    have hlt1:=Cnb hat1;have hlt2:=Cnp haw2;have hcw:∀id∈idc1,id ∉ idw:=fun id hid hm=>by
     rcases hidc1 id hid with h|h
     ·exact(hidc id h).2.2 hm
     ·have:=(hidw id hm).2;omega
    have hat2:CAt (S.length+1) T (s.put o.key (Cf7 o.vs)).2 idc1:=(Cep _).fr _ _ _ _ hat1 fun j hj=>hfr2 j (hlt1 j hj) (hcw j hj);obtain⟨hG2,hg2⟩:=Cmd (k:=o.key) (vs:=Cf7 o.vs) hG hgn (by omega) hvl
    have hp1:T1[S'.length]?=some (.cells [.int .i64 o.kind,.str o.key,.sl (Bow o.vs) .none]):=by
     rw[hfr1 S'.length (by omega) (fun hm=>by have:=(hidc _ hm).2.1;omega)]
     exact hPp
    refine⟨(s.put o.key (Cf7 o.vs)).2,T,idc1,idw1,.inr ⟨rfl,T1,V1,V2,hcp,hp1,hwp,fun id hid=>?_,fun id hid=>?_⟩,hat2,haw2,hG2,hg2,fun e he=>?_,fun id hid=>⟨?_,by have:=hlt1 id hid;omega,fun hm=>?_⟩,fun id hid=>⟨?_,hlt2 id hid⟩,by omega,?_⟩
    ·have:=hidc id (hV1 id hid);exact⟨this.1,by omega⟩
    ·have:=hidw id (hV2 id hid);exact⟨this.1,by omega⟩
    ·rcases put_mem he with h|h
     ·exact hten e h
     ·rw[h];exact Chr _
    ·rcases hidc1 id hid with h|h
     ·exact(hidc id h).1
     ·omega
    ·rcases hidw1 id hm with h|h
     ·exact hcw id hid h
     ·have:=hlt1 id hid;omega
    ·rcases hidw1 id hid with h|h
     ·exact(hidw id h).1
     ·omega
    ·rw[hfr2 S'.length (by omega) (fun hm=>by have:=(hidw _ hm).2;omega)]
     exact hp1
  have l5:=Ceq (off:=1) zs9 zu9 za9 hTp rfl;have c13:=Ccn (C:=C2) (a:= []) (c:= []) (as_:= [.ptr (S.length+1) 0,.str o.key]) (by kernel_rfl) rfl rfl (hget (S.length+1) s' o.key hG') hat'
  have c29:=Ccn (C:=C2) (a:= []) (c:= []) (as_:= [.ptr (S.length+2) 0,.str o.key]) (by kernel_rfl) rfl rfl (hwget (S.length+2) s' o.key hG') haw'
  unfold Cgt at c13 c29;have n1:=Cot (B16 o.key s'.l).isSome;have hgl:((B16 o.key s'.l).getD []).length≤10:=by
   cases hg:B16 o.key s'.l with
   |none=>exact Nat.zero_le _
   |some v=>obtain⟨e,he,rfl⟩:=Ci7 hg;exact hten' e he
  have c14:∀S,G6 C2 cf 14 [] [] [.sl (Bow ((B16 o.key s'.l).getD [])) .none,.sl (Bow ((B16 o.key s'.l).getD [])) .none] S=some (.bool true,S,[]):=fun S=>Amz (by kernel_rfl) rfl rfl (h14 _ hgl S)
  have c24:=Ccn (C:=C2) (a:= []) (c:= []) (as_:= [.ptr (S.length+1) 0]) (by kernel_rfl) rfl rfl (h24 (S.length+1) s') hat'
  have c25:=Ccn (C:=C2) (a:= []) (c:= []) (as_:= [.ptr (S.length+1) 0]) (by kernel_rfl) rfl rfl (h25 (S.length+1) s') hat'
  have haw0:=haw';obtain⟨hwc,hwk⟩:=haw0;rename_i dw ksw;have lw:=Ceq (off:=1) Cj4 Cme Clt hwc rfl;have lg:=Ceq (off:=2) zs3 zu3 za3 hwc rfl;have lnw:=hwk.len Cg6 T;rw[Cf8]at lnw;have n2:=Cib 3 (s'.l.length:Int) (s'.l.length:Int);rw[bne_self_eq_false]at n2;have n3:=Cib 3 (s'.gone:Int) (s'.gone:Int);rw[bne_self_eq_false]at n3;generalize(B16 o.key s'.l).isSome=ok at c13 c29 n1;generalize Bow ((B16 o.key s'.l).getD [])=rv at c13 c29 c14;generalize(s'.gone:Int)=gz at c25 lg n3;generalize(s'.l.length:Int)=lz at c24 lnw n2;rcases hor with⟨hk0,rfl,rfl⟩|⟨hk0,T1,V1,V2,hcp,hT1,hwp,hV1,hV2⟩
  ·rw[hk0]at q0
   repeat (first
    |refine A00 ?_|refine Asu ?_|refine Bkx ?_|(refine B4n (fun _ _=>True) (fun _=>True) hodB trivial (fun B _=>?_);simp only[List.map_toArray,MC,Dl])|refine Awr ?_|refine Ay7 ?_|refine Avq ?_
    |refine Bq (by decide) ?_|refine Eg rfl rfl ?_|refine B5t ?_|refine B7v rfl rfl ?_|refine Zc (by first|exact hVp|(simp;done)) ?_
    |((first|refine Ei rfl rfl rfl rfl ?_|refine Ee rfl rfl ?_|refine Ed rfl rfl ?_|refine Ch0 rfl rfl rfl rfl ?_|refine B8g rfl rfl ?_|refine B7s rfl rfl ?_|refine Bwz ?_);refine⟨_,by simp only[Bj,BB,Af,ev,Am,Ak,Ag,Gc,Ai,↓reduceIte,Nat.reduceEqDiff,Nat.reduceLT,Aj,hP,hl,e1,e6,e7,e8,g0,g1,g2,ix,l1,Cov,s1,Cl3,Clv,Cmf,l2,l3,c10,q0,l5,c13,c29,n1,c14,c24,c25,D.known,Cgb,Ckc,lw,lg,lnw,n2,n3,ad];first|done|rfl,?_⟩)
    |dsimp only)
   refine⟨120 - (i+1),by omega,i+1,s',idc',_,rfl,by omega,by omega,?_,?_,?_,?_,?_,hat',haw',hG',hgn',hten',hidc',hidw'⟩
   all_goals (simp only[BB,Am,hl,e1,e6,e7,e8,Nat.reduceEqDiff,↓reduceIte,Nat.reduceLT];first|done|rfl)
  ·rw[hk0]at q0;have l4':=Ceq (off:=1) zs9 zu9 za9 hT1 rfl;have n0:=Cot (s.put o.key (Cf7 o.vs)).1;have hVA:∀(B:Array Nat) (i:Nat),∀id∈V1,S.length≤id∧∀j,id=S'.length→(maskAt B i).testBit j=true:=fun B i id hid=>⟨(hV1 id hid).1,fun j e=>absurd e (hV1 id hid).2⟩;have hVB:∀(B:Array Nat) (i:Nat),∀id∈V2,S.length≤id∧∀j,id=S'.length→(maskAt B i).testBit j=true:=fun B i id hid=>⟨(hV2 id hid).1,fun j e=>absurd e (hV2 id hid).2⟩;generalize(s.put o.key (Cf7 o.vs)).1=pb at hcp hwp n0
   repeat (first
    |refine A00 ?_|refine Asu ?_|refine Bkx ?_|(refine B4n (fun _ id=>id=S'.length) (fun _=>True) hodA trivial (fun B _=>?_);simp only[List.map_toArray,MC,Dl])
    |(refine B4n (fun _ _=>True) (fun _=>True) hodB trivial (fun B _=>?_);simp only[List.map_toArray,MC,Dl])|refine Awr ?_|refine Ay7 ?_|refine Avq ?_
    |refine Bq (by decide) ?_|refine Eg rfl rfl ?_|refine B5t ?_|refine B7v rfl rfl ?_|refine Zc (by first|exact hVp|exact hVA _ _|exact hVB _ _|(simp;done)) ?_
    |((first|refine Ei rfl rfl rfl rfl ?_|refine Ee rfl rfl ?_|refine Ed rfl rfl ?_|refine Ch0 rfl rfl rfl rfl ?_|refine B8g rfl rfl ?_|refine B7s rfl rfl ?_|refine Bwz ?_);refine⟨_,by simp only[Bj,BB,Af,ev,Am,Ak,Ag,Gc,Ai,↓reduceIte,Nat.reduceEqDiff,Nat.reduceLT,Aj,hP,hl,e1,e6,e7,e8,g0,g1,g2,ix,l1,Cov,s1,Cl3,Clv,Cmf,l2,l3,l4,c10,q0,hcp,l4',hwp,n0,l5,c13,c29,n1,c14,c24,c25,D.known,Cgb,Ckc,lw,lg,lnw,n2,n3,ad];first|done|rfl,?_⟩)
    |dsimp only)
   refine⟨120 - (i+1),by omega,i+1,s',idc',_,rfl,by omega,by omega,?_,?_,?_,?_,?_,hat',haw',hG',hgn',hten',hidc',hidw'⟩
   all_goals (simp only[BB,Am,hl,e1,e6,e7,e8,Nat.reduceEqDiff,↓reduceIte,Nat.reduceLT];first|done|rfl)
 ·obtain⟨S3,W3,hk3,hW3⟩:=h30 (S.length+1) s hG S' idc hat;have hkp:=hK 30 _ _ _ _ _ hk3;have c30:G6 C2 cf 30 [] [] [.ptr (S.length+1) 0] S'=some (.sl (Cf6 (s.l.map (·.1))) .none,S3,Dj (Dn S' S') W3):=by
   unfold G6;rw[show Dm C2.P 30=true from by kernel_rfl,show C2.byRef.contains 30=false from rfl]
   have hz:Cw S' [.ptr (S.length+1) 0]=some ([.ptr (S.length+1) 0],S'):=rfl;simp only[Bool.not_true,BF,hz,List.nil_append,List.append_nil,hk3];rw[if_neg (by simp[Sn,R3])]
  have hV3:∀id∈Dj (Dn S' S') W3,S.length≤id:=fun id hid=>by rw[Du]at hid;exact(hidc id (hW3 id hid)).1
  have haw3:WAt (S.length+2) S3 s idw:=(Cgv _).fr _ _ _ _ haw fun j hj=>hkp.2 j (hidw j hj).2 (fun hm=>(hidc j (hW3 j hm)).2.2 hj);obtain⟨hwc,hwk⟩:=haw3;rename_i dw ksw;have lw:=Ceq (off:=1) Cj4 Cme Clt hwc rfl;have lnw:=hwk.len Cg6 S3;rw[Cf8]at lnw;have ln:=Cpj (s.l.map (·.1)) S3;rw[List.length_map]at ln;have hsl:=hG.len;have hsr:=hG.room;have hif:(decide ((i:Int)<(ops.length:Int))=true∧decide ((i:Int)<120)=false)∨decide ((i:Int)<(ops.length:Int))=false:=by
   by_cases h1:i<ops.length
   ·exact .inl ⟨decide_eq_true (by omega),decide_eq_false (by omega)⟩
   ·exact .inr (decide_eq_false (by omega))
  rcases hif with⟨h1,h2⟩|h1
  all_goals
   rw[h1]at g1
   try rw[h2]at g2
   repeat (first
    |refine A00 ?_|refine Asu ?_|refine Bkx ?_|refine Awr ?_|refine Ay7 ?_|refine Avq ?_|refine Bq (by decide) ?_|refine Eg rfl rfl ?_|refine Zc (by first|exact hV3) ?_
    |((first|refine Ei rfl rfl rfl rfl ?_|refine Ee rfl rfl ?_|refine Ed rfl rfl ?_|refine Bwz ?_);refine⟨_,by simp only[Bj,BB,Af,ev,Am,Ak,Ag,Gc,Ai,↓reduceIte,Nat.reduceEqDiff,Nat.reduceLT,Aj,Gn,hP,hl,e1,e6,e7,e8,g0,g1,g2,c30,ln];first|done|rfl,?_⟩)
    |dsimp only)
   refine Awv (fun k e' S''=>∃j,k=s.l.length - j∧j≤s.l.length∧S''=S3∧e'.length=135∧e'.getD 7 .undef= .ptr (S.length+2) 0∧e'.getD 15 .undef= .sl (Cf6 (s.l.map (·.1))) .none∧e'.getD 100 .undef= .int .i64 (s.l.length:Int)∧e'.getD 101 .undef= .int .i64 (j:Int)) s.l.length (by omega) ?_ ?_
   ·refine⟨0,rfl,Nat.zero_le _,rfl,?_,?_,?_,?_,?_⟩
    all_goals (simp only[BB,Am,hl,e7,Nat.reduceEqDiff,↓reduceIte,Nat.reduceLT];first|done|rfl)
   rintro k e S'' ⟨j,rfl,hj,rfl,hl,e7,e15,e100,e101⟩;have g3:=B5p 3 (j:Int) (s.l.length:Int);by_cases hlj:j<s.l.length
   ·rw[decide_eq_true (by omega)]at g3
    obtain⟨p,hp⟩:∃p,s.l[j]?=some p:=⟨_,List.getElem?_eq_getElem hlj⟩;have g4:=Ckb 3 (j:Int) (s.l.length:Int);rw[decide_eq_false (by omega)]at g4
    have ixl:=Co7 (l:=s.l.map (·.1)) (t:=p.1) (i:=j) (by rw[List.getElem?_map,hp];rfl)
    have ixw:=hwk.at_ (P:=prog) Cg6 Cle (i:=j) (r:=Ch6 p) (by unfold B6l;rw[List.getElem?_map,hp];rfl) rfl
    replace ixw:Cf prog 60 dw (.int .i64 (j:Int))=some (.eptr [.str p.1,.sl (Bow p.2) .none],.pure):=ixw;have fa0:=Clr (.str p.1) (.sl (Bow p.2) .none);have la:=Cm5 p.1 (.sl (Bow p.2) .none) S'';have lb:=Cpi p.1 S'';have nn:=Cp2 p.1;have ad:Bo prog .add 3 (.int .i64 (j:Int)) (.int .i64 1)=some (.int .i64 ((j+1:Nat):Int)):=Cgf 3 (j:Int) 1 (by omega)
    repeat (first
     |refine A00 ?_|refine Asu ?_|refine Bkx ?_|(refine Bji hodC ?_;simp only[List.map_toArray,MC,Dl])|refine Awr ?_|refine Ay7 ?_|refine Avq ?_|refine Bq (by decide) ?_|refine Eg rfl rfl ?_
     |((first|refine Ei rfl rfl rfl rfl ?_|refine Ee rfl rfl ?_|refine Ed rfl rfl ?_|refine Bwz ?_);refine⟨_,by simp only[Bj,BB,Af,ev,Am,Ak,Ag,Gc,Ai,↓reduceIte,Nat.reduceEqDiff,Nat.reduceLT,Aj,Gn,hP,hl,e7,e15,e100,e101,g3,D.known,Cgb,lw,lnw,g4,ixl,ixw,fa0,la,lb,nn,ad];first|done|rfl,?_⟩)
     |dsimp only)
    refine⟨s.l.length - (j+1),by omega,j+1,rfl,by omega,rfl,?_,?_,?_,?_,?_⟩
    all_goals (simp only[BB,Am,hl,e7,e15,e100,e101,Nat.reduceEqDiff,↓reduceIte,Nat.reduceLT];first|done|rfl)
   ·rw[decide_eq_false (by omega)]at g3
    have q:=B6y 3 (s.l.length:Int) (s.l.length:Int);rw[beq_self_eq_true]at q
    repeat (first
     |refine A00 ?_|refine Asu ?_|refine Bkx ?_|refine Awr ?_|refine Ay7 ?_|refine Avq ?_|refine Bq (by decide) ?_|refine Eg rfl rfl ?_
     |((first|refine Ei rfl rfl rfl rfl ?_|refine Ee rfl rfl ?_|refine Ed rfl rfl ?_|refine Bwz ?_);refine⟨_,by simp only[Bj,BB,Af,ev,Am,Ak,Ag,Gc,Ai,↓reduceIte,Nat.reduceEqDiff,Nat.reduceLT,Aj,Gn,hP,hl,e7,e15,e100,e101,g3,ln,D.known,Cgb,lw,lnw,q];first|done|rfl,?_⟩)
     |dsimp only)
    refine⟨.inr rfl,[.bool true],[.bool true],_,?_,rfl,rfl,fun _ _=>rfl,.inl rfl⟩;show Gm C2.P _ _ [.tmp 4]=_;simp only[Gm,BB,Am,hl,Nat.reduceEqDiff,↓reduceIte,Nat.reduceLT]
end
end Go.Vam
namespace Go.Vam
open Go.Proofs
def Cgu(P:Program):Nat→TypeId→Bool
 |0,_=>false
 |n+1,t=>match P.underlying t with
  |some .bool|some (.int _)|some .string=>true
  |some (.slice e)=>decide (0<P.cellsOf e) && Cgu P n e
  |some (.struct fs)=>decide (P.cellsOf t=fs.size) && (List.range fs.size).all fun i=>match fs[i]? with
   |some f=>decide (f.offset=i) && decide (P.cellsOf f.type=1) && Cgu P n f.type
   |none=>false
  |_=>false
def TyD(P:Program):Nat→TypeId→List D→Prop
 |0,_,_=>False
 |n+1,t,ds=>match P.underlying t with
  |some .bool=>∃b,ds= [.bool b]
  |some (.int k)=>∃z,ds= [.int k z]∧(Lit.int k z).wf=true
  |some .string=>∃s:List UInt8,ds= [.str s]∧s.length≤maxLen
  |some (.slice e)=>∃rows:List (List D),ds= [.sl rows .none]∧rows.length≤maxLen∧∀r∈rows,r.length=P.cellsOf e∧TyD P n e r
  |some (.struct fs)=>ds.length=fs.size∧∀(i:Nat) (f:Field) (d:D),fs[i]?=some f→ds[i]?=some d→TyD P n f.type [d]
  |_=>False
structure VRl(g:G)(ds:List D)(cs:List Value):Prop where
 len:ds.length=cs.length
 at_:∀(j:Nat) (d:D) (v:Value),ds[j]?=some d→cs[j]?=some v→VR g d v
theorem Cg7{α:Type}:∀(n:Nat) (P:Nat→α→Prop),(∀i,i<n→∃a,P i a)→∃l:List α,l.length=n∧∀(i:Nat) (a:α),l[i]?=some a→P i a
 |0,P,_=>⟨[],rfl,fun i a h=>by simp at h⟩
 |n+1,P,h=>by
  obtain⟨l,h1,h2⟩:=Cg7 n P fun i hi=>h i (by omega)
  obtain⟨a,ha⟩:=h n (by omega)
  refine⟨l++ [a],by simp[h1],fun i b hb=>?_⟩
  by_cases hi:i<l.length
  ·rw[List.getElem?_append_left hi]at hb;exact h2 i b hb
  ·rw[List.getElem?_append_right (by omega)]at hb
   have:i - l.length=0:=by
    cases hk:i - l.length with
    |zero=>rfl
    |succ k=>rw[hk]at hb;simp at hb
   rw[this]at hb;simp at hb;subst hb
   rwa [show i=n from by omega]
section
variable{H:Type}{enc:TypeId × Value→H}{P:Program}{w:World}{base:Nat}{spare:Nat→Bool}{held:Bool}
theorem Cgs{g:G}{d:D}{v:Value}(h:VR g d v):VRl g [d] [v]:=⟨rfl,fun j d' v' hj hv=>by
 cases j with
 |zero=>simp at hj hv;subst hj;subst hv;exact h
 |succ j=>simp at hj⟩
theorem Cit{a:Addr}{n:Nat}{v:Value}(h:w.cell? (a.add n)=some v):(a.add n).spot=none∧w.cell? ⟨a.block,a.off+n,none⟩=some v:=by
 have hs:(a.add n).spot=none:=by
  unfold World.cell? at h;split at h
  ·split at h
   ·cases h
   ·rename_i hn;simpa using hn
  ·cases h
 refine⟨hs,?_⟩;have:a.add n=⟨a.block,a.off+n,none⟩:=by
  unfold Addr.add at hs ⊢;split
  ·rename_i h0;rw[if_pos h0]at hs;subst h0;cases a;simp at hs;subst hs;rfl
  ·rfl
 rwa [this]at h
theorem Cgq:∀(m:Nat) (t:TypeId) (fuel:Nat) (cs:List Value) (x:DataW H × List MemPlace),Cgu P m t=true→DataW.trod enc P w base spare held fuel t cs=some x→∃ds,TyD P m t ds∧VRl (gA w) ds cs
 |0,_,_,_,_,h,_=>by cases h
 |m+1,t,fuel,cs,x,hp,h=>by
  unfold Cgu at hp;unfold TyD;split at hp
  ·rename_i ht;obtain⟨b,rfl,_⟩:=DataW.trod_bool ht h;exact⟨_,⟨b,rfl⟩,Cgs (.bool b)⟩
  ·rename_i k ht;obtain⟨z,rfl,_,hw⟩:=DataW.trod_int ht h;exact⟨_,⟨z,rfl,hw⟩,Cgs (.int k z)⟩
  ·rename_i ht;obtain⟨s,rfl,_,hw⟩:=DataW.trod_string ht h;exact⟨_,⟨s.data.toList,rfl,by simpa using hw⟩,Cgs (.str s)⟩
  ·rename_i e ht;rw[Bool.and_eq_true,decide_eq_true_eq]at hp;obtain⟨hc0,hp⟩:=hp;rcases DataW.trod_slice ht h with⟨rfl,_⟩|⟨a,len,cap,elems,rest,n,_,rfl,_,hb,hl,hm,hlen,hel,hsp,hns⟩
   ·exact⟨[.sl [] .none],⟨[],rfl,Nat.zero_le _,fun r hr=>by cases hr⟩,Cgs (.slNil (by simp))⟩
   ·have each:∀i,i<len→∃r:List D,∃cs':List Value,w.cells? base (a.add (i*P.cellsOf e)) (P.cellsOf e)=some cs'∧TyD P m e r∧VRl (gA w) r cs':=by
     intro i hi;have h1:=hel i hi;obtain⟨y,hy⟩:∃y,elems[i]?=some y:=⟨_,List.getElem?_eq_getElem (by omega)⟩
     rw[hy,Option.bind_eq_some_iff]at h1;obtain⟨cs',h2,h3⟩:=h1;obtain⟨r,h4,h5⟩:=Cgq m e n cs' y hp h3;exact⟨r,cs',h2,h4,h5⟩
    obtain⟨rows,hrl,hrows⟩:=Cg7 len (fun i r=>∃cs':List Value,w.cells? base (a.add (i*P.cellsOf e)) (P.cellsOf e)=some cs'∧TyD P m e r∧VRl (gA w) r cs') each;have hrow:∀r∈rows,r.length=P.cellsOf e∧TyD P m e r:=fun r hr=>by obtain⟨i,hi⟩:=List.mem_iff_getElem?.1 hr;obtain⟨cs',h2,h4,h5⟩:=hrows i r hi;exact⟨by rw[h5.len];exact(World.cells?_some h2).2.1,h4⟩
    refine⟨[.sl rows .none],⟨rows,rfl,by rw[hrl];omega,hrow⟩,Cgs ?_⟩
    by_cases h0:len=0
    ·subst h0;obtain rfl:rows= []:=List.eq_nil_of_length_eq_zero hrl;exact .slEmp (by simp) (by simp)
    ·have hcell:∀(i:Nat) (r:List D) (j:Nat) (d:D),rows[i]?=some r→r[j]?=some d→∃v,w.cell? ((a.add (i*P.cellsOf e)).add j)=some v∧VR (gA w) d v:=by
      intro i r j d hi hj;obtain⟨cs',h2,h4,h5⟩:=hrows i r hi;obtain⟨_,h6,h7⟩:=World.cells?_some h2;have hjl:j<cs'.length:=by rw[← h5.len];exact(List.getElem?_eq_some_iff.1 hj).1
      exact⟨cs'[j],by rw[h7 j (by omega),List.getElem?_eq_getElem hjl],h5.at_ j d _ hj (List.getElem?_eq_getElem hjl)⟩
     have hflat:∀(i:Nat) (r:List D) (j:Nat) (d:D),rows[i]?=some r→r[j]?=some d→∃v,w.cell? ⟨a.block,a.off+i*P.cellsOf e+j,none⟩=some v∧VR (gA w) d v:=by
      intro i r j d hi hj;obtain⟨v,h1,h2⟩:=hcell i r j d hi hj;refine⟨v,?_,h2⟩;have h3:=(Cit h1).2;have e1:(a.add (i*P.cellsOf e)).block=a.block:=by unfold Addr.add;split<;>rfl
      have e2:(a.add (i*P.cellsOf e)).off=a.off+i*P.cellsOf e:=by
       unfold Addr.add;split
       ·rename_i hz;rw[hz];rfl
       ·rfl
      rw[e1,e2]at h3;exact h3
     have hspot:a.spot=none:=by
      obtain⟨r0,hr0⟩:∃r,rows[0]?=some r:=⟨_,List.getElem?_eq_getElem (by omega)⟩
      obtain⟨d0,hd0⟩:∃d,r0[0]?=some d:=⟨_,List.getElem?_eq_getElem (by rw[(hrow r0 (List.mem_of_getElem? hr0)).1];omega)⟩
      obtain⟨v,h1,_⟩:=hcell 0 r0 0 d0 hr0 hd0;have:=(Cit h1).1;simpa[Addr.add]using this
     have ha:a=⟨a.block,a.off,none⟩:=by cases a;simp at hspot;subst hspot;rfl
     rw[ha,← hrl];refine .sl (sz:=P.cellsOf e) (fun r hr=>(hrow r hr).1) (fun i r j d hi hj=>?_) (fun i r j d v hi hj hv=>?_) (by omega) trivial
     ·obtain⟨v,h1,_⟩:=hflat i r j d hi hj;exact⟨v,h1⟩
     ·obtain⟨v',h1,h2⟩:=hflat i r j d hi hj;rw[show(gA w).I a.block (a.off+i*P.cellsOf e+j)=w.cell? ⟨a.block,a.off+i*P.cellsOf e+j,none⟩from rfl,h1]at hv;cases hv;exact h2
  ·rename_i fs ht;rw[Bool.and_eq_true,decide_eq_true_eq,List.all_eq_true]at hp;obtain⟨hc,hf⟩:=hp;obtain⟨xs,n,_,_,hcl,hxl,hx⟩:=DataW.trod_struct ht h;have hfld:∀(i:Nat) (f:Field),fs[i]?=some f→f.offset=i∧P.cellsOf f.type=1∧Cgu P m f.type=true:=fun i f hi=>by
    have hlt:i<fs.size:=(Array.getElem?_eq_some_iff.1 hi).1;have:=hf i (List.mem_range.2 hlt);rw[hi]at this;simp only[Bool.and_eq_true,decide_eq_true_eq]at this;exact⟨this.1.1,this.1.2,this.2⟩
   have each:∀i,i<fs.size→∃d:D,∀f,fs[i]?=some f→TyD P m f.type [d]∧∃v,cs[i]?=some v∧VR (gA w) d v:=by
    intro i hi;obtain⟨f,hfi⟩:∃f,fs[i]?=some f:=⟨_,Array.getElem?_eq_getElem hi⟩;obtain⟨h1,h2,h3⟩:=hfld i f hfi;obtain⟨y,hy⟩:∃y,xs[i]?=some y:=⟨_,List.getElem?_eq_getElem (by omega)⟩
    have h4:=hx i f hfi;rw[hy,h1,h2]at h4;obtain⟨v,hv⟩:∃v,cs[i]?=some v:=⟨_,List.getElem?_eq_getElem (by omega)⟩
    have h5:(cs.drop i).take 1= [v]:=by
     have hlt:i<cs.length:=by omega
     rw[List.drop_eq_getElem_cons hlt];rw[List.getElem?_eq_getElem hlt]at hv;cases hv;rfl
    rw[h5]at h4;obtain⟨ds,h6,h7⟩:=Cgq m f.type n [v] y h3 h4;obtain⟨d,rfl⟩:∃d,ds= [d]:=List.length_eq_one_iff.1 (by simpa using h7.len)
    refine⟨d,fun f' hf'=>?_⟩;rw[hfi]at hf';cases hf';exact⟨h6,v,hv,h7.at_ 0 d v rfl rfl⟩
   obtain⟨ds,hdl,hds⟩:=Cg7 fs.size (fun i d=>∀f,fs[i]?=some f→TyD P m f.type [d]∧∃v,cs[i]?=some v∧VR (gA w) d v) each;refine⟨ds,⟨hdl,fun i f d hi hd=>(hds i d hd f hi).1⟩,by omega,fun j d v hj hv=>?_⟩
   obtain⟨f,hfi⟩:∃f,fs[j]?=some f:=⟨_,Array.getElem?_eq_getElem (by rw[← hdl];exact(List.getElem?_eq_some_iff.1 hj).1)⟩
   obtain⟨_,v',h1,h2⟩:=hds j d hj f hfi;rw[hv]at h1;cases h1;exact h2
  ·cases hp
end
end Go.Vam
namespace Go.Vam
open Go.Proofs Go.Proofs.Tryz Go.RowKit
section
variable(hK:∀n f,Ba (CC n f))
include hK
theorem c45(n:Nat):Cl7 (CC (n+1)):= {
 e S:=nC (g:=Cck 45 Mx) rfl rfl
 c t l S hl:=nC (g:=Cck 45 Mx) rfl (Cn0 (N:=2000) (hK n) t l S hl)}
theorem c29(n w:Nat)(s:CP)(k:Tx)(hG:Cgg s):B51 (CC (n+1)) 29 [.ptr w 0,.str k] (WAt w) s (Cgt (B16 k s.l)):=rC rfl (Bbd (hK _) (by decide) w s k hG)
theorem c28(n w:Nat)(s:CP)(k:Tx)(vs:List Vl)(hG:Cgg s)(hv:vs.length<2 ^ 30):Cf3 (CC (n+2)) 28 [.ptr w 0,.str k,.sl (Bow vs) .none] (WAt w) s (.bool (s.put k vs).1) (s.put k vs).2:=by
 by_cases h:s.room=0∨(B16 k s.l).isSome=true
 ·rw[Cgh h];exact tC rfl (Cj2 (hK _) w s k vs (c29 hK n w s k hG) h)
 ·have h1:s.room≠0:=fun e=>h (.inl e);have h2:B16 k s.l=none:=by
   cases hg:B16 k s.l with
   |none=>rfl
   |some v=>exact absurd (.inr (by rw[hg];rfl)) h
  have h3:(s.put k vs).1=true:=by rw[Cgl h1 h2];split<;>rfl
  rw[h3];exact tC rfl (Ck9 (hK _) w s k vs hG hv (c29 hK n w s k hG) h1 h2)
theorem c30(n c:Nat)(s:CP)(hG:Cgg s)(S:St)(ids:List Nat)(h:CAt c S s ids):∃S' W,CC (n+2) 30 [.ptr c 0] S=some (.sl (Cf6 (s.l.map (·.1))) .none,S',W)∧∀i∈W,i∈ids:=by obtain⟨S',W,h1,h2⟩:=A65 (N:=2000) (hK (n+1)) (c45 hK n) c s hG S ids h;exact⟨S',W,(Qd rfl).trans h1,h2⟩
theorem Coh(x:Int)(ops:List OpT):Ao (CC 10) 7 [.int .i64 x,.sl (Cf9 ops) .none] (.bool true):=
 pC rfl (Cpf (hK _) (by decide) (c9 8) (fun x S=>(Qd rfl).trans (A8a (hK 8) x S)) (fun x S=>(Qd rfl).trans (A7s (hK 8) x S)) (fun vs=>pC rfl (A7z (hK 8) (by decide) vs)) (fun c s k vs hG hv=>c12 hK 6 c s k vs hG hv) (fun w s k vs hG hv=>c28 hK 7 w s k vs hG hv)
  (fun c s k hG=>c13 hK 7 c s k hG) (fun w s k hG=>c29 hK 8 w s k hG) (fun c s=>rC rfl (Cjy (hK 8) c s)) (fun c s=>rC rfl (Ciz (hK 8) c s)) (fun c s hG S ids h=>c30 hK 7 c s hG S ids h)
  (fun a ha=>pC rfl (by have:=By9 (N:=2000) (hK 8) a a (by omega) (by omega) (by omega);rwa [decide_eq_true rfl]at this)) x ops)
end
theorem Cj9{α:Type}{f:α→List D}:∀(rows:List (List D)),(∀r∈rows,∃a,r=f a)→∃l:List α,rows=l.map f
 | [],_=>⟨[],rfl⟩
 |r::rows,h=>by
  obtain⟨a,rfl⟩:=h r (by simp)
  obtain⟨l,rfl⟩:=Cj9 rows fun r hr=>h r (by simp[hr])
  exact⟨a::l,rfl⟩
theorem tyB{n:Nat}{ds:List D}(h:TyD prog (n+1) 4 ds):∃b,ds= [.bool b]:=by unfold TyD at h;rw[underlying4]at h;exact h
theorem tyI{n:Nat}{ds:List D}(h:TyD prog (n+1) 3 ds):∃z,ds= [.int .i64 z]:=by unfold TyD at h;rw[underlying3]at h;obtain⟨z,h,_⟩:=h;exact⟨z,h⟩
theorem tyS{n:Nat}{ds:List D}(h:TyD prog (n+1) 9 ds):∃s,ds= [.str s]:=by unfold TyD at h;rw[underlying9]at h;obtain⟨z,h,_⟩:=h;exact⟨z,h⟩
theorem Cn6{ds:List D}(h:ds.length=2):∃a b,ds= [a,b]:=by
 match ds,h with
 | [a,b],_=>exact⟨a,b,rfl⟩
theorem Cly{ds:List D}(h:ds.length=3):∃a b c,ds= [a,b,c]:=by
 match ds,h with
 | [a,b,c],_=>exact⟨a,b,c,rfl⟩
theorem tyV{n:Nat}{ds:List D}(h:TyD prog (n+3) 22 ds):∃vs:List Vl,ds= [.sl (Bow vs) .none]:=by
 unfold TyD at h;rw[underlying22]at h;obtain⟨rows,rfl,_,h⟩:=h;obtain⟨vs,rfl⟩:=Cj9 (f:=Cdo) rows fun r hr=>by obtain⟨_,h2⟩:=h r hr;unfold TyD at h2;rw[underlying29]at h2;obtain⟨h3,h4⟩:=h2;obtain⟨a,b,rfl⟩:=Cn6 h3;obtain⟨x,hx⟩:=tyB (h4 0 _ a rfl rfl);obtain⟨y,hy⟩:=tyS (h4 1 _ b rfl rfl);cases hx;cases hy;exact⟨(x,y),rfl⟩
 exact⟨vs,rfl⟩
theorem tyO{n:Nat}{ds:List D}(h:TyD prog (n+5) 54 ds):∃ops:List OpT,ds= [.sl (Cf9 ops) .none]:=by
 unfold TyD at h;rw[underlying54]at h;obtain⟨rows,rfl,_,h⟩:=h;obtain⟨ops,rfl⟩:=Cj9 (f:=Cmv) rows fun r hr=>by obtain⟨_,h2⟩:=h r hr;unfold TyD at h2;rw[underlying58]at h2;obtain⟨h3,h4⟩:=h2;obtain⟨a,b,c,rfl⟩:=Cly h3;obtain⟨x,hx⟩:=tyI (h4 0 _ a rfl rfl);obtain⟨y,hy⟩:=tyS (h4 1 _ b rfl rfl);obtain⟨z,hz⟩:=tyV (h4 2 _ c rfl rfl);cases hx;cases hy;cases hz;exact⟨⟨x,y,z⟩,rfl⟩
 exact⟨ops,rfl⟩
theorem Cmu:Cgu prog 5 54=true:=by kernel_rfl
theorem Aps.same{W W':World}(h:Aps W W'){p:MemPlace}(hp:p.block<W.heap.size):W.sameAt W' p:=by
 cases p with
 |cell b o=>exact World.cell?_of_block (w:=W) (h.up b hp)
 |map b=>exact h.up b hp
theorem Cm7{W:World}{H:Type}{enc:TypeId × Value→H}{spare:Nat→Bool}{held:Bool}(hm:∃m,W.cell? ⟨1,0,none⟩=some (.int .i64 m))(ht:Lib.TabIs prog W "internal/strconv.uint64pow10" .u64 Lib.pow10Tab)(x:Int)(a:Option Addr)(len cap:Nat){d:DataW H}{ps:List MemPlace}
  (hd:DataW.Trod enc prog W 0 spare held 54 (.slice a len cap) d ps):Calls prog 7 #[.int .i64 x,.slice a len cap] W fun e W'=>e= .returned (.bool true)∧Aps W W':=by
 obtain⟨fuel,hf⟩:=hd;obtain⟨ds,h1,h2⟩:=Cgq 5 54 fuel _ _ Cmu hf;obtain⟨ops,rfl⟩:=tyO (n:=0) h1;have hv:VR (gA W) (.sl (Cf9 ops) .none) (.slice a len cap):=h2.at_ 0 _ _ rfl rfl;have hO:=Cip (β:=Akm W) hm (Bfn W ht);have hA:F8 (gA W) [.int .i64 x,.sl (Cf9 ops) .none] #[.int .i64 x,.slice a len cap]:=⟨rfl,fun j d v h h'=>by
  match j with
  |0=>cases h;cases h';exact .int _ _
  |1=>cases h;cases h';exact hv
  |j+2=>cases h⟩
 refine(((Ckt hO 2000 10).just 7) _ _ _ _ _ (Coh (fun n=>(Ckt hO 2000 n).keeps) x ops []) (gA W) W _ rfl (Bhy W) hA).mono ?_;rintro e W' ⟨r,g',rfl,hv,_,hst,_⟩;cases hv;exact⟨rfl,hst.os,hst.out,fun i hi=>hst.fr i hi fun id hid=>by cases hid⟩
end Go.Vam
