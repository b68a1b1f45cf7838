/-
  The reference's words, walked.
-/
import Derived.Test.YtcdogmjbnlmgeaaGreatDoorVce
set_option linter.unusedSimpArgs false
set_option linter.unusedVariables false
set_option linter.unusedSectionVars false
set_option maxRecDepth 1000000
namespace Go.Vam
open Go.Proofs Go.Proofs.Tryz
theorem Yp{P:Program}{t:TypeId}{a b:List UInt8}(h:a.length+b.length<2000000):(Av.bin .add t (.str a) (.str b)).sem P=some (.str (a++b)):=by simp only[Av.sem,Bo,Af1];rw[if_pos (by omega)]
def Ig(b:UInt8):Bool:=De b && !(b == 47)
theorem Agj(b:UInt8):Ig b=true↔((97:Int)≤(b.toNat:Int)∧(b.toNat:Int)≤122)∨((65:Int)≤(b.toNat:Int)∧(b.toNat:Int)≤90)∨((48:Int)≤(b.toNat:Int)∧(b.toNat:Int)≤57)∨(b.toNat:Int)=46∨(b.toNat:Int)=95∨(b.toNat:Int)=45:=by unfold Ig;rw[Bool.and_eq_true,Ag9,Bool.not_eq_true',beq_eq_false_iff_ne,ne_eq,← UInt8.toNat_inj];simp only[UInt8.toNat_ofNat];omega
theorem Zr(b:UInt8):(Ig b || b == 47)=De b:=by
 unfold Ig;cases h:b == 47 with
 |false=>simp
 |true=>rw[beq_iff_eq]at h;rw[h];rfl
def Al4(n:Nat):Bool:=if decide (48≤n) && decide (n≤57)then Gv Ic (UInt8.ofNat n) == (n:Int) - 48 else if decide (97≤n) && decide (n≤102)then Gv Ic (UInt8.ofNat n) == (n:Int) - 87 else Gv Ic (UInt8.ofNat n) == -1
theorem Azx:(List.range 256).all Al4=true:=by kernel_rfl
theorem Ba2(b:UInt8):Al4 b.toNat=true:=by have:=List.all_eq_true.1 Azx b.toNat (List.mem_range.2 b.toNat_lt);exact this
section
variable{cf:Ah}{N:Nat}(hK:∀f,Ba (cf f))
include hK in
theorem A2i(b:UInt8):Ao (run C1 cf N) 115 [.int .u8 (b.toNat:Int)] (.bool (Ig b)):=by
 refine Cg hK func115 (bdy (by kernel_rfl)) rfl rfl rfl (Bda _) ?_
 simp only[Aa,Ac,Lx,Afx,En,Ab,decide_eq_true_eq,beq_iff_eq];have key:∀{x:Bool},(x=true↔Ig b=true)→Ck (.bool (Ig b)) [.bool x]:=fun {x} h=>Qk (by rw[Bool.eq_iff_iff.2 h])
 have hn:=Agj b
 repeat' split
 all_goals (refine key ?_;rw[hn];simp only[beq_iff_eq,true_iff];try omega)
include hK in
theorem A4o(b:UInt8):Ao (run C1 cf N) 178 [.int .u8 (b.toNat:Int)] (.int .i64 (Gv Ic b)):=by
 refine Cg hK func178 (bdy (by kernel_rfl)) rfl rfl rfl (Bdx _) ?_
 have hb:=b.toNat_lt;have hx:=Ba2 b;unfold Al4 at hx;rw[UInt8.ofNat_toNat]at hx;have hcv:∀n:Int,0≤n→n<256→(Av.conv 5 3 (.int .u8 n)).sem prog=some (.int .i64 n):=fun n h1 h2=>by simp only[Av.sem,Dr,Afl,show prog.underlying 5=some (.int .u8)from underlying5,Et];rw[Go.IntWalk.i64_in _ (by omega)]
 simp only[Aa,Ac,Lx,Afx,Ack];have t1:∀{n:Int},Gv Ic b=n→Ck (.int .i64 (Gv Ic b)) [.int .i64 n]:=fun {n} h=>by rw[h];exact Bf rfl
 by_cases h1:(48:Int)≤(b.toNat:Int)∧(b.toNat:Int)≤57
 ·rw[if_pos (by simp;omega)]at hx
  simp only[h1.1,h1.2,decide_true,if_true];rw[Go.IntWalk.u8_in _ (by omega)]
  simp only[hcv _ (show 0≤(b.toNat:Int) - 48 by omega) (by omega),Ab]
  exact t1 (by simpa using hx)
 ·rw[if_neg (by simp;omega)]at hx
  have hno:¬ ((97:Int)≤(b.toNat:Int)∧(b.toNat:Int)≤102)→Gv Ic b= -1:=fun h=>by
   rw[if_neg (by simp;omega)]at hx
   simpa using hx
  have hyes:(97:Int)≤(b.toNat:Int)∧(b.toNat:Int)≤102→Gv Ic b=(b.toNat:Int) - 87:=fun h=>by
   rw[if_pos (by simp;omega)]at hx
   simpa using hx
  have hrest:wp prog cf N (fun rs os=>Ck (.int .i64 (Gv Ic b)) rs) (.ite (.bool (decide ((97:Int)≤(b.toNat:Int)))) (.bind (.bin .leq 5 (.int .u8 (b.toNat:Int)) (.int .u8 102)) fun x4=> .ite x4 (.bind (.bin .sub 5 (.int .u8 (b.toNat:Int)) (.int .u8 97)) fun x5=> .bind (.conv 5 3 x5) fun x6=> .bind (.bin .add 3 x6 (.int .i64 10)) fun x7=> .leaf [x7] []) (.leaf [(.int .i64 (-1))] [])) (.leaf [(.int .i64 (-1))] [])) []:=by
   simp only[Aa,Ac,Afx,Ack,Ab];by_cases h2:(97:Int)≤(b.toNat:Int)
   ·simp only[h2,decide_true,if_true];by_cases h3:(b.toNat:Int)≤102
    ·simp only[h3,decide_true,if_true];rw[Go.IntWalk.u8_in _ (by omega)]
     simp only[hcv _ (show 0≤(b.toNat:Int) - 97 by omega) (by omega),Bt]
     rw[Go.IntWalk.i64_in _ (by omega)]
     exact t1 (by rw[hyes ⟨h2,h3⟩];omega)
    ·simp only[h3,decide_false,BF];exact t1 (hno (by omega))
   ·simp only[h2,decide_false,BF];exact t1 (hno (by omega))
  simp only[Aa,Ac,Afx,Ack]at hrest;by_cases h2:(48:Int)≤(b.toNat:Int)
  ·have h3:¬ (b.toNat:Int)≤57:=fun h=>h1 ⟨h2,h⟩;simp only[h2,h3,decide_true,decide_false,Bool.false_eq_true,if_true,if_false];simpa only[decide_eq_true_eq]using hrest
  ·simp only[h2,decide_false,BF];simpa only[decide_eq_true_eq]using hrest
theorem F5{s:List UInt8}{i:Nat}{b:UInt8}(h:s[i]?=some b):s.drop i=b::s.drop (i+1):=by obtain⟨hi,he⟩:=List.getElem?_eq_some_iff.mp h;rw[List.drop_eq_getElem_cons hi,he]
def txR(R:Option (List UInt8 × Nat)):D:=match R with
 |some (t,e)=> .tup [.str t,.int .i64 (e:Int),.bool true]
 |none=> .tup [.str [],.int .i64 0,.bool false]
theorem Axq{a b c:D}(ha:R3 a=true)(hb:R3 b=true)(hc:R3 c=true):Ck (.tup [a,b,c]) [a,b,c]:=by
 refine⟨?_,[a,b,c],?_,rfl⟩
 ·cases a<;>first|(cases ha;done)|(cases b<;>first|(cases hb;done)|(cases c<;>first|rfl|cases hc))
 ·cases a<;>first|(cases ha;done)|(cases b<;>first|(cases hb;done)|(cases c<;>first|rfl|cases hc))
def TrI(s:List UInt8)(R:Option (List UInt8 × Nat))(m a:Nat)(ds:List D):Prop:=a=0∧∃(i:Nat) (acc:List UInt8) (x y z:D),i≤s.length∧s.length - i<m∧acc.length≤i∧(Dv m (s.drop i)).map (fun p=>(acc++p.1,i+p.2))=R∧ds= [x,y,z,.str acc,.int .i64 (i:Int)]
variable(h178:∀b:UInt8,Ao cf 178 [.int .u8 (b.toNat:Int)] (.int .i64 (Gv Ic b)))
include hK h178 in
theorem A23(s:List UInt8)(at_:Nat)(ha:at_≤s.length)(hs:s.length<900)(hN:1000<N):
  Ao (run C1 cf N) 116 [.str s,.int .i64 (at_:Int)] (txR ((Dv (s.length - at_+1) (s.drop at_)).map fun p=>(p.1,at_+p.2))):=by
 refine Cg hK func116 (bdy (by kernel_rfl)) rfl rfl rfl (Bdb _ _) ?_
 generalize hR:(Dv (s.length - at_+1) (s.drop at_)).map (fun p=>(p.1,at_+p.2))=R;refine wp_loop (TrI s R) (s.length - at_+1) (by omega) ⟨rfl,at_,[],_,_,_,ha,by omega,Nat.zero_le _,by simpa using hR,rfl⟩ ?_
 rintro m a ds ⟨rfl,i,acc,x,y,z,hi,hm,hacc,ht,rfl⟩;cases m with
 |zero=>omega
 |succ m=>
 have hbad:R=none→Ck (txR R) [.str [],.int .i64 0,.bool false]:=fun h=>by rw[h];exact Axq rfl rfl rfl
 simp only[Ca,hv,tails,List.tail_cons,List.headD_cons,Aa,Fa,Da,Vz,Ac];by_cases hlt:i<s.length
 ·obtain⟨c,hb⟩:∃c,s[i]?=some c:=⟨_,List.getElem?_eq_getElem hlt⟩;have hd:s.drop i=c::s.drop (i+1):=by
   rw[Kb hlt];congr 1;have:=List.getElem?_eq_getElem hlt;rw[hb]at this;simpa using this.symm
  rw[hd]at ht;have e34:((c.toNat:Int) == 34)=(c == 34):=Be c 34;have e92:((c.toNat:Int) == 92)=(c == 92):=Be c 92;have hw1:IntKind.i64.wrap ((i:Int)+1)=((i+1:Nat):Int):=wrapN (by omega)
  simp only[hlt,decide_true,if_true,D5 hb,En,e34,Aa,Ac];cases h34:c == 34 with
  |true=>simp only[if_true,Bt,hw1,Ab];rw[← ht];simp only[Dv,h34,if_true,Option.map_some,txR,List.append_nil];exact Axq rfl rfl rfl
  |false=>
  simp only[BF];have hj:∀LQ':List D→List (List D)→Prop,LQ' [.bool (decide ((c.toNat:Int)<32) || decide (126<(c.toNat:Int)))] []→wp prog cf N LQ' (.bind (.bin .lss 5 (.int .u8 (c.toNat:Int)) (.int .u8 32)) fun x7=> .ite x7 (.leaf [(.bool true)] []) (.bind (.bin .gtr 5 (.int .u8 (c.toNat:Int)) (.int .u8 126)) fun x8=> .leaf [x8] [])) []:=fun LQ' h=>by
   simp only[Aa,Ac,Da,Jt,Ab];cases h32:decide ((c.toNat:Int)<32)with
   |true=>rw[h32]at h;simpa using h
   |false=>rw[h32]at h;simpa using h
  refine Nc hj ?_;simp only[Ac];cases h92:c == 92 with
  |false=>
   cases hc:(decide ((c.toNat:Int)<32) || decide (126<(c.toNat:Int)))with
   |true=>simp only[if_true,Ab];refine hbad ?_;rw[← ht];simp only[Dv,h34,h92,hc,BF,if_true,Option.map_none]
   |false=>
    simp only[BF,Aa,Nn,Ac];rw[show((c.toNat:Int) !=92)=true from by rw[bne,e92,h92];rfl]
    have hsl:(s.take (i+1)).drop i= [c]:=by rw[List.drop_take,Nat.add_sub_cancel_left,hd];rfl
    simp only[if_true,Bt,hw1,O0 (show i≤i+1 by omega) (show i+1≤s.length by omega),hsl]
    rw[Yp (by simp only[List.length_cons,List.length_nil];omega)]
    simp only[Az];refine⟨m,Nat.lt_succ_self m,rfl,i+1,acc++ [c],x,y,z,hlt,by omega,by simp;omega,?_,rfl⟩
    rw[← ht];simp only[Dv,h34,h92,hc,BF,Option.map_map];congr 1
    ·funext p;simp;omega
  |true=>
   have hc:(decide ((c.toNat:Int)<32) || decide (126<(c.toNat:Int)))=false:=by rw[beq_iff_eq]at h92;rw[h92];rfl
   rw[hc];simp only[BF,Aa,Nn,Ac];rw[show((c.toNat:Int) !=92)=false from by rw[bne,e92,h92];rfl]
   have htl:∀{o:Option (List UInt8 × Nat)},(match Ht (s.drop (i+1))with
     |none=>none
     |some (d,k)=>(Dv m ((s.drop (i+1)).drop k)).map fun p=>(d::p.1,1+k+p.2))=o→o.map (fun p=>(acc++p.1,i+p.2))=R:=fun {o} ho=>by
    rw[← ht,← ho];simp only[Dv,h34,h92,BF,if_true];rfl
   have hnone:Ht (s.drop (i+1))=none→R=none:=fun he=>by
    have:=htl (o:=none) (by rw[he])
    simpa using this.symm
   have hsome:∀{d:UInt8} {k:Nat},Ht (s.drop (i+1))=some (d,k)→(Dv m (s.drop (i+1+k))).map (fun p=>((acc++ [d])++p.1,(i+1+k)+p.2))=R:=fun {d k} he=>by
    have:=htl (o:=(Dv m ((s.drop (i+1)).drop k)).map fun p=>(d::p.1,1+k+p.2)) (by rw[he])
    rw[← this,List.drop_drop,Option.map_map];congr 1
    ·funext p;simp;omega
   simp only[BF,Aa,Ac,Fa,Bt,hw1,Lx];by_cases hl1:i+1<s.length
   ·obtain⟨d,hbd⟩:∃d,s[i+1]?=some d:=⟨_,List.getElem?_eq_getElem hl1⟩;have hd1:s.drop (i+1)=d::s.drop (i+1+1):=by
     rw[Kb hl1];congr 1;have:=List.getElem?_eq_getElem hl1;rw[hbd]at this;simpa using this.symm
    have g1:decide ((s.length:Int)≤((i+1:Nat):Int))=false:=decide_eq_false (by omega)
    have e110:((d.toNat:Int) == 110)=(d == 110):=Be d 110;have e116:((d.toNat:Int) == 116)=(d == 116):=Be d 116;have e92':((d.toNat:Int) == 92)=(d == 92):=Be d 92;have e34':((d.toNat:Int) == 34)=(d == 34):=Be d 34;have e120:((d.toNat:Int) == 120)=(d == 120):=Be d 120;have hw2:IntKind.i64.wrap (((i+1:Nat):Int)+1)=((i+1+1:Nat):Int):=wrapN (by omega)
    have hsl:(s.take (i+1+1)).drop (i+1)= [d]:=by rw[List.drop_take,Nat.add_sub_cancel_left,hd1];rfl
    have hal:acc.length<1000:=by omega
    have hgo:∀(b:UInt8) (k:Nat) (T:Tree),Ht (s.drop (i+1))=some (b,k)→T= .again 0 0 [x,y,z,.str (acc++ [b]),.int .i64 ((i+1+k:Nat):Int)]→wp prog cf N (fun rs os=>Ck (txR R) rs) T (List.take 0 ([]:List (Nat→List D→Prop))++ [fun a' ds'=>∃n',n'<m+1∧TrI s R n' a' ds']):=fun b k T he hT=>by have hkk:=Adr he;rw[List.length_drop]at hkk;rw[hT,Az];exact⟨m,Nat.lt_succ_self m,rfl,i+1+k,acc++ [b],x,y,z,by omega,by omega,by simp;omega,hsome he,rfl⟩
    simp only[g1,BF,D5 hbd,En,e110,Aa,Ac];have he0:=hd1;cases h110:d == 110 with
    |true=>
     simp only[if_true,Yp (show acc.length+ [10].length<2000000 by simp;omega),Bt,hw2]
     exact hgo 10 1 _ (by rw[hd1];simp only[Ht,h110,if_true]) rfl
    |false=>
    simp only[BF,e116];cases h116:d == 116 with
    |true=>
     simp only[if_true,Yp (show acc.length+ [9].length<2000000 by simp;omega),hw2,Bt]
     exact hgo 9 1 _ (by rw[hd1];simp only[Ht,h110,h116,Bool.false_eq_true,if_true,if_false]) rfl
    |false=>
    simp only[BF,e92'];cases h92':d == 92 with
    |true=>
     simp only[if_true,Bt,hw2,O0 (show i+1≤i+1+1 by omega) (show i+1+1≤s.length by omega),hsl,Yp (show acc.length+ [d].length<2000000 by simp;omega)]
     exact hgo d 1 _ (by rw[hd1];simp only[Ht,h110,h116,h92',Bool.false_eq_true,if_true,if_false]) rfl
    |false=>
    simp only[BF,e34'];cases h34':d == 34 with
    |true=>
     simp only[if_true,Bt,hw2,O0 (show i+1≤i+1+1 by omega) (show i+1+1≤s.length by omega),hsl,Yp (show acc.length+ [d].length<2000000 by simp;omega)]
     exact hgo d 1 _ (by rw[hd1];simp only[Ht,h110,h116,h92',h34',Bool.false_eq_true,if_true,if_false]) rfl
    |false=>
    simp only[BF,e120];cases h120:d == 120 with
    |false=>simp only[BF,Ab];refine hbad (hnone ?_);rw[hd1];simp only[Ht,h110,h116,h92',h34',h120,BF]
    |true=>
     have hw3:IntKind.i64.wrap (((i+1:Nat):Int)+2)=((i+1+2:Nat):Int):=by
      rw[Go.IntWalk.i64_in _ (by omega)]
      omega
     simp only[if_true,Bt,hw3];by_cases hl3:i+1+2<s.length
     ·obtain⟨p,hp⟩:∃p,s[i+1+1]?=some p:=⟨_,List.getElem?_eq_getElem (by omega)⟩
      obtain⟨q,hq⟩:∃q,s[i+1+2]?=some q:=⟨_,List.getElem?_eq_getElem hl3⟩;have hd2:s.drop (i+1)=d::p::q::s.drop (i+1+2+1):=by rw[hd1,F5 hp,show i+1+1+1=i+1+2 from rfl,F5 hq]
      have hesc:Ht (s.drop (i+1))=if Ic.contains p && Ic.contains q then some (UInt8.ofNat (16*Ih p+Ih q),3)else none:=by rw[hd2];simp only[Ht,h110,h116,h92',h34',h120,Bool.false_eq_true,if_true,if_false]
      have g3:decide ((s.length:Int)≤((i+1+2:Nat):Int))=false:=decide_eq_false (by omega)
      simp only[Fa,Lx,Ac,g3,BF,Aa,Bt,hw2,D5 hp];refine Aw rfl (h178 p) ?_;have hneg:∀b:UInt8,decide (Gv Ic b<0)=!Ic.contains b:=fun b=>by
       rw[← O8];by_cases h:Gv Ic b<0
       ·simp[h]
       ·have:0≤Gv Ic b:=by omega
        simp[this]
      simp only[Aa,Da,hneg,Ac];cases hcp:Ic.contains p with
      |false=>simp only[Bool.not_false,if_true,Ab];exact hbad (hnone (by rw[hesc,hcp];rfl))
      |true=>
       simp only[Bool.not_true,BF,Bt,hw3,D5 hq];refine Aw rfl (h178 q) ?_;simp only[Aa,Da,hneg,Ac];cases hcq:Ic.contains q with
       |false=>simp only[Bool.not_false,if_true,Ab];exact hbad (hnone (by rw[hesc,hcp,hcq];rfl))
       |true=>
        have la:=Aa1 p;have lb:=Aa1 q;simp only[Bool.not_true,BF,Bt,hw2,hw3,D5 hp,D5 hq];refine Aw rfl (h178 p) ?_;simp only[Aa,Av1,Uj hcp];refine Aw rfl (h178 q) ?_;simp only[Aa,Bt,Uj hcq];rw[Go.IntWalk.i64_in ((Ih p:Int)*16) (by omega),Go.IntWalk.i64_in ((Ih p:Int)*16+(Ih q:Int)) (by omega)]
        have hcv:(Av.conv 3 5 (.int .i64 ((Ih p:Int)*16+(Ih q:Int)))).sem prog=some (.int .u8 ((UInt8.ofNat (16*Ih p+Ih q)).toNat:Int)):=by
         simp only[Av.sem,Dr,Afl,show prog.underlying 5=some (.int .u8)from underlying5,Et];rw[Go.IntWalk.u8_in _ (by omega)]
         have:(UInt8.ofNat (16*Ih p+Ih q)).toNat=16*Ih p+Ih q:=by rw[UInt8.toNat_ofNat'];omega
         rw[this];simp only[Option.some.injEq,D.int.injEq,true_and];omega
        rw[hcv];have hcv2:=Akb [UInt8.ofNat (16*Ih p+Ih q)] .exact;simp only[bR,MC]at hcv2;simp only[show ∀n:Int,(Av.slim (.int .u8 n)).sem prog=some (.int .u8 n)from fun _=>rfl,A9,Al,if_true,hcv2];rw[Yp (by simp only[List.length_cons,List.length_nil];omega)]
        have hw4:IntKind.i64.wrap (((i+1+2:Nat):Int)+1)=((i+1+3:Nat):Int):=by
         rw[Go.IntWalk.i64_in _ (by omega)]
         omega
        simp only[hw3,hw4];exact hgo _ 3 _ (by rw[hesc,hcp,hcq];rfl) rfl
     ·have g3:decide ((s.length:Int)≤((i+1+2:Nat):Int))=true:=decide_eq_true (by omega)
      simp only[Fa,Lx,Aa,Ac,g3,if_true,Ab];refine hbad (hnone ?_);have hle:(s.drop (i+1+1)).length≤1:=by rw[List.length_drop];omega
      rw[hd1]
      match hsd:s.drop (i+1+1),hle with
      | [],_=>simp only[Ht,h110,h116,h92',h34',h120,Bool.false_eq_true,if_true,if_false]
      | [a],_=>simp only[Ht,h110,h116,h92',h34',h120,Bool.false_eq_true,if_true,if_false]
      |a::b::_,hle=>simp at hle
   ·have g1:decide ((s.length:Int)≤((i+1:Nat):Int))=true:=decide_eq_true (by omega)
    simp only[g1,if_true,Ab];refine hbad (hnone ?_);rw[List.drop_eq_nil_of_le (by omega)]
    rfl
 ·simp only[hlt,decide_false,BF,Ab];refine hbad ?_;have:i=s.length:=by omega
  subst this;rw[← ht];simp[Dv]
end
theorem Af8:∀(n n':Nat) (s:List UInt8) (i:Nat),s.length - i<n→s.length - i<n'→M6 n s i=M6 n' s i
 |0,_,_,_,h,_=>absurd h (Nat.not_lt_zero _)
 |_+1,0,_,_,_,h=>absurd h (Nat.not_lt_zero _)
 |n+1,n'+1,s,i,h,h'=>by
  unfold M6;by_cases hlt:i<s.length
  ·simp only[hlt,if_true];cases hw:Fq s i with
   |none=>rfl
   |some p=>obtain⟨w,e⟩:=p;have:=(Mq hlt hw).1;simp only;rw[Af8 n n' s (e+Db false (s.drop e)) (by omega) (by omega)]
  ·simp only[hlt,if_false]
def K6(s:List UInt8)(i:Nat):Except Nat (List Wd):=M6 (s.length+1) s (i+Db false (s.drop i))
theorem Aw9(s:List UInt8):Y8 s=K6 s 0:=by simp[Y8,K6]
theorem Auv(s:List UInt8):K6 s s.length= .ok []:=by simp[K6,M6,Db]
theorem Aei{s:List UInt8}{i:Nat}{b:UInt8}(h:s[i]?=some b)(hb:Iw b=true):K6 s i=K6 s (i+1):=by unfold K6;rw[F5 h];simp only[Db,hb,if_true];rw[show i+(1+Db false (s.drop (i+1)))=i+1+Db false (s.drop (i+1))from by omega]
theorem Ak8{s:List UInt8}{i k:Nat}{b:UInt8}(h:s[i]?=some b)(hb:(b == 35)=true)(hk:i+Db true (s.drop i)=k+Db false (s.drop k)):K6 s i=K6 s k:=by have h35:b=35:=beq_iff_eq.1 hb;subst h35;unfold K6;rw[← hk,F5 h];rfl
def Atd(i:Nat)(o:Option (Wd × Nat))(f:Nat→Except Nat (List Wd)):Except Nat (List Wd):=match o with
 |none=> .error i
 |some (w,e)=>Nk [w] (f e)
theorem Asr{s:List UInt8}{i:Nat}{b:UInt8}(h:s[i]?=some b)(hb:Iw b=false)(h35:(b == 35)=false):K6 s i=Atd i (Fq s i) (K6 s):=by
 have hlt:i<s.length:=(List.getElem?_eq_some_iff.1 h).1;have hz:Db false (s.drop i)=0:=by rw[F5 h];simp only[Db,hb,h35,BF]
 unfold K6;rw[hz,show i+0=i from rfl];rw[M6];simp only[hlt,if_true,Atd];cases hw:Fq s i with
 |none=>rfl
 |some p=>
  obtain⟨w,e⟩:=p;have:=(Mq hlt hw).1;simp only;rw[Af8 s.length (s.length+1) s (e+Db false (s.drop e)) (by omega) (by omega)]
  rfl
theorem Am2(acc:List Wd)(w:Wd)(o:Except Nat (List Wd)):Nk acc (Nk [w] o)=Nk (acc++ [w]) o:=by
 cases o with
 |error j=>rfl
 |ok l=>simp[Nk]
theorem Arv(o:Except Nat (List Wd)):Nk [] o=o:=by cases o<;>rfl
theorem Abu(s:List UInt8):s.drop s.length= []:=by simp
section
variable{cf:Ah}{N:Nat}{LQ:List D→List (List D)→Prop}{F:Nat→List D→Prop}
theorem Alj(s:List UInt8)(i:Nat)(hi:i≤s.length)(hs:s.length<900)(hN:1000<N){R1 R2:List (D × D)}(hR1:∀p∈R1,p.1=p.2)(hR2:∀p∈R2,p.1=p.2)(K:D→Tree)
  (hk:∀(k:Nat) (G:Nat→List D→Prop),i≤k→k≤s.length→(k=s.length∨s[k]?=some 10)→i+Db true (s.drop i)=k+Db false (s.drop k)→wp prog cf N LQ (K (.int .i64 (k:Int))) [F,G]):
  wp prog cf N LQ (.loop 1 0 [.int .i64 (i:Int)] (Ca [fun x7=>
   .joi (
    .bind (.ln 9 (.str s)) fun x8=>
    .bind (.bin .lss 3 (hv x7 0) x8) fun x9=>
    .ite x9 (
     .bind (.idx 9 (.str s) (hv x7 0)) fun x10=>
     .bind (.bin .neq 5 x10 (.int .u8 10)) fun x11=>
     .leaf [x11] []) (
     .leaf [(.bool false)] [])) fun x8=>
    .ite x8 (
    .bind (.bin .add 3 (hv x7 0) (.int .i64 1)) fun x9=>
    .req R1 (
    .again 1 0 [x9])) (
    .req R2 (K (hv x7 0)))])) [F]:=by
 refine wp_loop (fun m a ds=>a=0∧∃k:Nat,ds= [.int .i64 (k:Int)]∧i≤k∧k≤s.length∧k+Db true (s.drop k)=i+Db true (s.drop i)∧m=s.length - k) (s.length - i) (by omega) ⟨rfl,i,rfl,Nat.le_refl _,hi,rfl,rfl⟩ ?_
 rintro m a ds ⟨rfl,k,rfl,hik,hk2,htk,rfl⟩;simp only[Ca,hv,tails,List.headD_cons];by_cases hlk:k<s.length
 ·obtain⟨c,hc⟩:∃c,s[k]?=some c:=⟨_,List.getElem?_eq_getElem hlk⟩;refine Nc (d:= .bool (!(c == 10))) (fun LQ' h=>?_) ?_
  ·simp only[Aa,Fa,Da,Vz,Ac,hlk,decide_true,if_true,D5 hc,Nn,Ab];rw[show((c.toNat:Int) !=10)=!(c == 10)from by rw[bne,show((c.toNat:Int) == 10)=(c == 10)from Be c 10]]
   exact h
  ·simp only[Ac];cases h10:c == 10 with
   |false=>
    simp only[Bool.not_false,if_true,Aa,Bt,wrapN (show k<1000000 by omega),Bc,Az]
    refine⟨hR1,_,?_,rfl,k+1,rfl,by omega,hlk,?_,rfl⟩
    ·omega
    ·rw[← htk,F5 hc];simp only[Db,h10,BF];omega
   |true=>simp only[Bool.not_true,BF,Bc];have hc10:c=10:=beq_iff_eq.1 h10;subst hc10;refine⟨hR2,hk k _ hik hk2 (.inr hc) ?_⟩;rw[← htk,F5 hc];rfl
 ·have hke:k=s.length:=by omega
  subst hke;refine Nc (d:= .bool false) (fun LQ' h=>?_) ?_
  ·simp only[Aa,Fa,Da,Vz,Ac,hlk,decide_false,BF,Ab];exact h
  ·simp only[Ac,BF,Bc];refine⟨hR2,hk _ _ hik hk2 (.inl rfl) ?_⟩;rw[← htk,Abu];rfl
variable(h115:∀b:UInt8,Ao cf 115 [.int .u8 (b.toNat:Int)] (.bool (Ig b)))
include h115 in
theorem Xz(s:List UInt8)(i:Nat)(hi:i≤s.length)(hs:s.length<900)(hN:1000<N){R1 R2:List (D × D)}(hR1:∀p∈R1,p.1=p.2)(hR2:∀p∈R2,p.1=p.2)(K:D→Tree)
  (hk:∀(G:Nat→List D→Prop),wp prog cf N LQ (K (.int .i64 ((i+D7 (s.drop i):Nat):Int))) [F,G]):
  wp prog cf N LQ (.loop 1 0 [.int .i64 (i:Int)] (Ca [fun x8=>
    .bind (.ln 9 (.str s)) fun x9=>
    .bind (.bin .lss 3 (hv x8 0) x9) fun x10=>
    .ite x10 (
     .bind (.idx 9 (.str s) (hv x8 0)) fun x11=>
     .call 115 [] [x11] [] fun x12=>
     .ite x12 (
     .bind (.bin .add 3 (hv x8 0) (.int .i64 1)) fun x13=>
     .req R1 (
     .again 1 0 [x13])) (
     .bind (.idx 9 (.str s) (hv x8 0)) fun x13=>
     .bind (.bin .eql 5 x13 (.int .u8 47)) fun x14=>
     .ite x14 (
      .bind (.bin .add 3 (hv x8 0) (.int .i64 1)) fun x15=>
      .req R2 (
      .again 1 0 [x15])) (
      K (hv x8 0)))) (
     K (hv x8 0))])) [F]:=by
 refine wp_loop (fun m a ds=>a=0∧∃k:Nat,ds= [.int .i64 (k:Int)]∧i≤k∧k≤s.length∧k+D7 (s.drop k)=i+D7 (s.drop i)∧m=s.length - k) (s.length - i) (by omega) ⟨rfl,i,rfl,Nat.le_refl _,hi,rfl,rfl⟩ ?_
 rintro m a ds ⟨rfl,k,rfl,hik,hk2,htk,rfl⟩;simp only[Ca,hv,tails,List.headD_cons,Aa,Fa,Da,Vz,Ac];by_cases hlk:k<s.length
 ·obtain⟨c,hc⟩:∃c,s[k]?=some c:=⟨_,List.getElem?_eq_getElem hlk⟩;simp only[hlk,decide_true,if_true,D5 hc];refine Aw rfl (h115 c) ?_;have hgo:De c=true→∀R:List (D × D),(∀p∈R,p.1=p.2)→wp prog cf N LQ (.req R (.again 1 0 [.int .i64 ((k+1:Nat):Int)])) (List.take 1 [F]++ [fun a' ds'=>∃n',n'<s.length - k∧a'=0∧∃k:Nat,ds'= [.int .i64 (k:Int)]∧i≤k∧k≤s.length∧k+D7 (s.drop k)=i+D7 (s.drop i)∧n'=s.length - k]):=fun hl R hR=>by
   simp only[Bc,Az];refine⟨hR,_,?_,rfl,k+1,rfl,by omega,hlk,?_,rfl⟩
   ·omega
   ·rw[← htk,F5 hc];simp only[D7,hl,if_true];omega
  simp only[Ac];have hsl:=Zr c;cases hsg:Ig c with
  |true=>
   simp only[if_true,Aa,Bt,wrapN (show k<1000000 by omega)]
   exact hgo (by rw[← hsl,hsg];rfl) R1 hR1
  |false=>
   simp only[BF,Aa,D5 hc,En,Ac];rw[show((c.toNat:Int) == 47)=(c == 47)from Be c 47];rw[hsg,Bool.false_or]at hsl;cases h47:c == 47 with
   |true=>
    simp only[if_true,Bt,wrapN (show k<1000000 by omega)]
    exact hgo (by rw[← hsl,h47]) R2 hR2
   |false=>
    simp only[BF];have hkk:k=i+D7 (s.drop i):=by rw[← htk,F5 hc];simp only[D7,← hsl,h47,BF,Nat.add_zero]
    have h2:∀G,wp prog cf N LQ (K (.int .i64 (k:Int))) [F,G]:=fun G=>by
     have:=hk G
     rwa [← hkk]at this
    exact h2 _
 ·have hke:k=s.length:=by omega
  subst hke;simp only[hlk,decide_false,BF];have hkk:s.length=i+D7 (s.drop i):=by rw[← htk,Abu];rfl
  have h2:∀G,wp prog cf N LQ (K (.int .i64 (s.length:Int))) [F,G]:=fun G=>by
   have:=hk G
   rwa [← hkk]at this
  exact h2 _
theorem Ala(b:UInt8):∀LQ':List D→List (List D)→Prop,LQ' [.bool (Iw b)] []→wp prog cf N LQ' (.bind (.bin .eql 5 (.int .u8 (b.toNat:Int)) (.int .u8 32)) fun x5=>
   .ite x5 (
   .leaf [(.bool true)] []) (
   .bind (.bin .eql 5 (.int .u8 (b.toNat:Int)) (.int .u8 9)) fun x6=>
   .ite x6 (
    .leaf [(.bool true)] []) (
    .bind (.bin .eql 5 (.int .u8 (b.toNat:Int)) (.int .u8 10)) fun x7=>
    .ite x7 (
    .leaf [(.bool true)] []) (
    .bind (.bin .eql 5 (.int .u8 (b.toNat:Int)) (.int .u8 13)) fun x8=>
    .leaf [x8] [])))) []:=fun LQ' h=>by
 have e1:((b.toNat:Int) == 32)=(b == 32):=Be b 32;have e2:((b.toNat:Int) == 9)=(b == 9):=Be b 9;have e3:((b.toNat:Int) == 10)=(b == 10):=Be b 10;have e4:((b.toNat:Int) == 13)=(b == 13):=Be b 13;simp only[Aa,Ac,En,e1,e2,e3,e4,Ab];unfold Iw at h;generalize(b == 32)=c1 at h ⊢;generalize(b == 9)=c2 at h ⊢;generalize(b == 10)=c3 at h ⊢;generalize(b == 13)=c4 at h ⊢;cases c1<;>cases c2<;>cases c3<;>exact h
theorem Alf(b:UInt8):∀LQ':List D→List (List D)→Prop,LQ' [.bool (O5.contains b)] []→wp prog cf N LQ' (.bind (.bin .eql 5 (.int .u8 (b.toNat:Int)) (.int .u8 123)) fun x0=> .ite x0 (.leaf [(.bool true)] []) (.bind (.bin .eql 5 (.int .u8 (b.toNat:Int)) (.int .u8 125)) fun x1=> .ite x1 (.leaf [(.bool true)] []) (.bind (.bin .eql 5 (.int .u8 (b.toNat:Int)) (.int .u8 44)) fun x2=> .ite x2 (.leaf [(.bool true)] []) (.bind (.bin .eql 5 (.int .u8 (b.toNat:Int)) (.int .u8 59)) fun x3=> .ite x3 (.leaf [(.bool true)] []) (.bind (.bin .eql 5 (.int .u8 (b.toNat:Int)) (.int .u8 61)) fun x4=> .ite x4 (.leaf [(.bool true)] []) (.bind (.bin .eql 5 (.int .u8 (b.toNat:Int)) (.int .u8 40)) fun x5=> .ite x5 (.leaf [(.bool true)] []) (.bind (.bin .eql 5 (.int .u8 (b.toNat:Int)) (.int .u8 41)) fun x6=> .ite x6 (.leaf [(.bool true)] []) (.bind (.bin .eql 5 (.int .u8 (b.toNat:Int)) (.int .u8 43)) fun x7=> .ite x7 (.leaf [(.bool true)] []) (.bind (.bin .eql 5 (.int .u8 (b.toNat:Int)) (.int .u8 94)) fun x8=> .ite x8 (.leaf [(.bool true)] []) (.bind (.bin .eql 5 (.int .u8 (b.toNat:Int)) (.int .u8 58)) fun x9=> .ite x9 (.leaf [(.bool true)] []) (.bind (.bin .eql 5 (.int .u8 (b.toNat:Int)) (.int .u8 36)) fun x10=> .leaf [x10] []))))))))))) []:=fun LQ' h=>by
 have e0:((b.toNat:Int) == 123)=(b == 123):=Be b 123;have e1:((b.toNat:Int) == 125)=(b == 125):=Be b 125;have e2:((b.toNat:Int) == 44)=(b == 44):=Be b 44;have e3:((b.toNat:Int) == 59)=(b == 59):=Be b 59;have e4:((b.toNat:Int) == 61)=(b == 61):=Be b 61;have e5:((b.toNat:Int) == 40)=(b == 40):=Be b 40;have e6:((b.toNat:Int) == 41)=(b == 41):=Be b 41;have e7:((b.toNat:Int) == 43)=(b == 43):=Be b 43;have e8:((b.toNat:Int) == 94)=(b == 94):=Be b 94;have e9:((b.toNat:Int) == 58)=(b == 58):=Be b 58;have e10:((b.toNat:Int) == 36)=(b == 36):=Be b 36;simp only[Aa,Ac,En,e0,e1,e2,e3,e4,e5,e6,e7,e8,e9,e10,Ab];simp only[O5,List.contains_cons,List.contains_nil,Bool.or_false]at h;generalize(b == 123)=c0 at h ⊢;generalize(b == 125)=c1 at h ⊢;generalize(b == 44)=c2 at h ⊢;generalize(b == 59)=c3 at h ⊢;generalize(b == 61)=c4 at h ⊢;generalize(b == 40)=c5 at h ⊢;generalize(b == 41)=c6 at h ⊢;generalize(b == 43)=c7 at h ⊢;generalize(b == 94)=c8 at h ⊢;generalize(b == 58)=c9 at h ⊢;generalize(b == 36)=c10 at h ⊢;cases c0
 rotate_left
 ·exact h
 simp only[Bool.false_or,BF]at h ⊢;cases c1
 rotate_left
 ·exact h
 simp only[Bool.false_or,BF]at h ⊢;cases c2
 rotate_left
 ·exact h
 simp only[Bool.false_or,BF]at h ⊢;cases c3
 rotate_left
 ·exact h
 simp only[Bool.false_or,BF]at h ⊢;cases c4
 rotate_left
 ·exact h
 simp only[Bool.false_or,BF]at h ⊢;cases c5
 rotate_left
 ·exact h
 simp only[Bool.false_or,BF]at h ⊢;cases c6
 rotate_left
 ·exact h
 simp only[Bool.false_or,BF]at h ⊢;cases c7
 rotate_left
 ·exact h
 simp only[Bool.false_or,BF]at h ⊢;cases c8
 rotate_left
 ·exact h
 simp only[Bool.false_or,BF]at h ⊢;cases c9
 rotate_left
 ·exact h
 simp only[Bool.false_or,BF]at h ⊢;exact h
def Bb6(s:List UInt8)(R:Except Nat (List Wd))(m a:Nat)(ds:List D):Prop:=∃(i:Nat) (acc:List Wd) (x:D),i≤s.length∧s.length - i<m∧acc.length≤i∧Nk acc (K6 s i)=R∧((a=0∧acc= []∧ds= [x,.int .i64 (i:Int)])∨(a=1∧acc≠ []∧∃g gr,ds= [x,.sl (acc.map Ci) gr,g,.int .i64 (i:Int)]))
variable(hK:∀f,Ba (cf f))
 (h116:∀(s:List UInt8) (i:Nat),i≤s.length→s.length<900→Ao cf 116 [.str s,.int .i64 (i:Int)] (txR ((Dv (s.length - i+1) (s.drop i)).map fun p=>(p.1,i+p.2))))
include hK h115 h116 in
theorem A72(s:List UInt8)(hs:s.length<900)(hN:1000<N):Ao (run C1 cf N) 61 [.str s] (Uy s.length (Y8 s)):=by
 refine Cg hK func61 (bdy (by kernel_rfl)) rfl rfl rfl (Bhl _) ?_
 rw[Aw9];generalize hR:K6 s 0=R;simp only[Bc];refine⟨by simp,?_⟩
 refine wp_loop (Bb6 s R) (s.length+1) (by omega) ⟨0,[],.nilsl,Nat.zero_le _,by omega,Nat.zero_le _,by rw[Arv,hR],.inl ⟨rfl,rfl,rfl⟩⟩ ?_
 rintro m a ds ⟨i,acc,x,hi,hm,hacc,ht,hds⟩;cases m with
 |zero=>omega
 |succ m=>
 by_cases hlt:i<s.length
 ·obtain⟨b,hb⟩:∃b,s[i]?=some b:=⟨_,List.getElem?_eq_getElem hlt⟩;have hw1:IntKind.i64.wrap ((i:Int)+1)=((i+1:Nat):Int):=wrapN (by omega)
  have e35:((b.toNat:Int) == 35)=(b == 35):=Be b 35;have e34:((b.toNat:Int) == 34)=(b == 34):=Be b 34;have e47:((b.toNat:Int) == 47)=(b == 47):=Be b 47;have hsl1:(s.take (i+1)).drop i= [b]:=by
   rw[Uf (by rw[List.length_drop];omega),F5 hb]
   rfl
  have hlle:=Aaz (s.drop i);rw[List.length_drop]at hlle;have hword:Iw b=false→(b == 35)=false→Nk acc (Atd i (Fq s i) (K6 s))=R:=fun h1 h2=>by rw[← ht,Asr hb h1 h2]
  have hnone:Iw b=false→(b == 35)=false→Fq s i=none→R= .error i:=fun h1 h2 h3=>by rw[← hword h1 h2,h3];rfl
  have hsome:∀{w:Wd} {e:Nat},Iw b=false→(b == 35)=false→Fq s i=some (w,e)→Nk (acc++ [w]) (K6 s e)=R:=fun {w e} h1 h2 h3=>by rw[← hword h1 h2,h3];exact(Am2 _ _ _).symm
  have hlet:D7 (s.drop i)≠0→Fq s i=some (⟨1,i,(s.take (i+D7 (s.drop i))).drop i⟩,i+D7 (s.drop i)):=fun h=>by unfold Fq;rw[if_pos h,Uf (by rw[List.length_drop];exact hlle)]
  have hpos:De b=true→D7 (s.drop i)≠0:=fun h=>by rw[F5 hb];simp only[D7,h,if_true];omega
  have hnlet:De b=false→D7 (s.drop i)=0:=fun h=>by rw[F5 hb];simp only[D7,h,BF]
  have htext:De b=false→(b == 34)=true→Fq s i=((Dv (s.length - (i+1)+1) (s.drop (i+1))).map fun p=>(p.1,(i+1)+p.2)).map fun p=>(⟨2,i,p.1⟩,p.2):=fun h1 h2=>by
   unfold Fq;rw[if_neg (by rw[hnlet h1];simp),hb]
   simp only[h2,if_true,Option.map_map];rfl
  have hsign:De b=false→(b == 34)=false→Fq s i=if O5.contains b then some (⟨3,i,[b]⟩,i+1)else none:=fun h1 h2=>by
   unfold Fq;rw[if_neg (by rw[hnlet h1];simp),hb]
   simp only[h2,BF]
  have hsl:=Zr b;rcases hds with⟨rfl,rfl,rfl⟩|⟨rfl,hne,g,gr,rfl⟩
  ·simp only[Ca,hv,tails,List.tail_cons,List.headD_cons,Aa,Fa,Da,Vz,Ac,hlt,decide_true,if_true,D5 hb];have happ:∀(k:Nat) (z:Int) (hz:z=(k:Int)) (q:Nat) (t:List UInt8),(Av.app 59 .nilsl (.sl [[.int .i64 z,.int .i64 (q:Int),.str t]] .exact)).sem prog=some (.sl (([]++ [(⟨k,q,t⟩:Wd)]).map Ci) .none):=fun k z hz q t=>by subst hz;exact X7 ⟨k,q,t⟩
   refine Nc (Ala b) ?_;simp only[Ac];cases hbl:Iw b with
   |true=>simp only[if_true,Aa,Bt,hw1,Bc,Az];exact⟨by simp,m,Nat.lt_succ_self m,i+1,[],x,hlt,by omega,by simp,by rw[← Aei hb hbl];exact ht,.inl ⟨rfl,rfl,rfl⟩⟩
   |false=>
   simp only[BF,Aa,En,e35,Ac];cases h35:b == 35 with
   |true=>
    simp only[if_true,Bc];refine⟨by simp,Alj s i hi hs hN (by simp) (by simp) (fun d=> .again 0 0 [x,d]) fun k G hk1 hk2 hk3 hk4=>?_⟩
    simp only[Az];have hki:i≠k:=by
     rintro rfl;rcases hk3 with h|h
     ·omega
     ·rw[hb]at h;cases h;cases h35
    exact⟨m,Nat.lt_succ_self m,k,[],x,hk2,by omega,by simp,by rw[← Ak8 hb h35 hk4];exact ht,.inl ⟨rfl,rfl,rfl⟩⟩
   |false=>
   simp only[BF];have hlw:De b=true→∀G:Nat→List D→Prop,wp prog cf N (fun rs os=>Ck (Uy s.length R) rs) ((fun d=> .bind (.slc 9 (.str s) (some (.int .i64 (i:Int))) (some d) none) fun x15=> .bind (.cell (.int .i64 (i:Int))) fun x16=> .bind (.cell x15) fun x17=> .bind (.slm x16) fun x18=> .bind (.slm x17) fun x19=> .bind (.app 59 .nilsl (.sl [[(.int .i64 1),x18,x19]] .exact)) fun x20=> .req [((.int .i64 0),(.int .i64 0)),((.int .i64 0),(.int .i64 0)),((.int .i64 0),(.int .i64 0))] (.again 0 1 [x,x20,(.int .i64 0),d]):D→Tree) (.int .i64 ((i+D7 (s.drop i):Nat):Int))) [fun a' ds'=>∃n',n'<m+1∧Bb6 s R n' a' ds',G]:=fun hl G=>by
    have h1:=hpos hl;have hw:=hsome hbl h35 (hlet h1);have happ1:=happ 1 1 rfl i ((s.take (i+D7 (s.drop i))).drop i);simp only[Aa,O0 (show i≤i+D7 (s.drop i) by omega) (show i+D7 (s.drop i)≤s.length by omega),A9,Al,if_true,Jj,Ot,Bc]
    rw[happ1];simp only[Az];exact⟨by simp,m,Nat.lt_succ_self m,i+D7 (s.drop i),[]++ [_],x,by omega,by omega,by simp;omega,hw,.inr ⟨rfl,by simp,_,_,rfl⟩⟩
   refine Aw rfl (h115 b) ?_;simp only[Ac];cases hsg:Ig b with
   |true=>
    simp only[if_true,Bc];have hl:De b=true:=by rw[← hsl,hsg];rfl
    exact⟨by simp,Xz h115 s i hi hs hN (by simp) (by simp) (fun d=> .bind (.slc 9 (.str s) (some (.int .i64 (i:Int))) (some d) none) fun x15=> .bind (.cell (.int .i64 (i:Int))) fun x16=> .bind (.cell x15) fun x17=> .bind (.slm x16) fun x18=> .bind (.slm x17) fun x19=> .bind (.app 59 .nilsl (.sl [[(.int .i64 1),x18,x19]] .exact)) fun x20=> .req [((.int .i64 0),(.int .i64 0)),((.int .i64 0),(.int .i64 0)),((.int .i64 0),(.int .i64 0))] (.again 0 1 [x,x20,(.int .i64 0),d])) (hlw hl)⟩
   |false=>
   rw[hsg,Bool.false_or]at hsl;simp only[BF,Aa,En,e47,Ac];cases h47:b == 47 with
   |true=>
    simp only[if_true,Bc];have hl:De b=true:=by rw[← hsl,h47]
    exact⟨by simp,Xz h115 s i hi hs hN (by simp) (by simp) (fun d=> .bind (.slc 9 (.str s) (some (.int .i64 (i:Int))) (some d) none) fun x15=> .bind (.cell (.int .i64 (i:Int))) fun x16=> .bind (.cell x15) fun x17=> .bind (.slm x16) fun x18=> .bind (.slm x17) fun x19=> .bind (.app 59 .nilsl (.sl [[(.int .i64 1),x18,x19]] .exact)) fun x20=> .req [((.int .i64 0),(.int .i64 0)),((.int .i64 0),(.int .i64 0)),((.int .i64 0),(.int .i64 0))] (.again 0 1 [x,x20,(.int .i64 0),d])) (hlw hl)⟩
   |false=>
   have hl:De b=false:=by rw[← hsl,h47]
   simp only[BF,e34];cases h34:b == 34 with
   |true=>
    simp only[if_true,Bt,hw1];refine Aw rfl (h116 s (i+1) (by omega) hs) ?_
    have hwt:=htext hl h34;generalize hT:(Dv (s.length - (i+1)+1) (s.drop (i+1))).map (fun p=>(p.1,(i+1)+p.2))=T at hwt ⊢;cases T with
    |none=>
     simp only[txR,Aa,Hg,GC,K5,Bool.not_false,Ac,if_true,A9,Al,Ae,Ab];rw[hnone hbl h35 (by rw[hwt];rfl)]
     exact⟨rfl,Pm⟩
    |some p=>
     obtain⟨t,e⟩:=p;have hwd:Fq s i=some (⟨2,i,t⟩,e):=by rw[hwt];rfl
     have hw:=hsome hbl h35 hwd;have hadv:=Mq hlt hwd;have happ1:=happ 2 2 rfl i t;simp only[txR,Aa,Hg,GC,K5,Bool.not_true,BF,Ac,if_true,A9,Al,Jj,Ot,Bc];rw[happ1];simp only[Az];exact⟨by simp,m,Nat.lt_succ_self m,e,[]++ [_],x,hadv.2,by omega,by simp;omega,hw,.inr ⟨rfl,by simp,_,_,rfl⟩⟩
   |false=>
   have hws:=hsign hl h34;simp only[BF];refine Nc (Alf b) ?_;simp only[Ac];cases hsn:O5.contains b with
   |true=>
    have hwd:Fq s i=some (⟨3,i,[b]⟩,i+1):=by rw[hws,hsn];rfl
    have hw:=hsome hbl h35 hwd;have happ1:=happ 3 3 rfl i [b];simp only[if_true,Aa,Bt,hw1,O0 (show i≤i+1 by omega) (show i+1≤s.length by omega),hsl1,A9,Al,Jj,Ot,Bc]
    rw[happ1];simp only[Az];exact⟨by simp,m,Nat.lt_succ_self m,i+1,[]++ [_],x,by omega,by omega,by simp<;>omega,hw,.inr ⟨rfl,by simp,_,_,rfl⟩⟩
   |false=>
    simp only[BF,Aa,A9,Al,if_true,Ae,Ab];rw[hnone hbl h35 (by rw[hws,hsn];rfl)]
    exact⟨rfl,Pm⟩
  ·simp only[Ca,hv,tails,List.tail_cons,List.headD_cons,Aa,Fa,Da,Vz,Ac,hlt,decide_true,if_true,D5 hb];have happ:∀(k:Nat) (z:Int) (hz:z=(k:Int)) (q:Nat) (t:List UInt8),(Av.app1 59 (.sl (acc.map Ci) gr) (.sl [[.int .i64 z,.int .i64 (q:Int),.str t]] .exact)).sem prog=some (.sl ((acc++ [(⟨k,q,t⟩:Wd)]).map Ci) .none):=fun k z hz q t=>by subst hz;exact Aa3 acc ⟨k,q,t⟩ gr hne (by omega)
   refine Nc (Ala b) ?_;simp only[Ac];cases hbl:Iw b with
   |true=>simp only[if_true,Aa,Bt,hw1,Bc,Az];exact⟨by simp,m,Nat.lt_succ_self m,i+1,acc,x,hlt,by omega,by omega,by rw[← Aei hb hbl];exact ht,.inr ⟨rfl,hne,_,_,rfl⟩⟩
   |false=>
   simp only[BF,Aa,En,e35,Ac];cases h35:b == 35 with
   |true=>
    simp only[if_true,Bc];refine⟨by simp,Alj s i hi hs hN (by simp) (by simp) (fun d=> .again 0 1 [x,.sl (acc.map Ci) gr,.int .i64 ((gD g:Nat):Int),d]) fun k G hk1 hk2 hk3 hk4=>?_⟩
    simp only[Az];have hki:i≠k:=by
     rintro rfl;rcases hk3 with h|h
     ·omega
     ·rw[hb]at h;cases h;cases h35
    exact⟨m,Nat.lt_succ_self m,k,acc,x,hk2,by omega,by omega,by rw[← Ak8 hb h35 hk4];exact ht,.inr ⟨rfl,hne,_,_,rfl⟩⟩
   |false=>
   simp only[BF];have hlw:De b=true→∀G:Nat→List D→Prop,wp prog cf N (fun rs os=>Ck (Uy s.length R) rs) ((fun d=> .bind (.slc 9 (.str s) (some (.int .i64 (i:Int))) (some d) none) fun x15=> .bind (.cell (.int .i64 (i:Int))) fun x16=> .bind (.cell x15) fun x17=> .bind (.slm x16) fun x18=> .bind (.slm x17) fun x19=> .req [((.int .i64 (((gD g):Nat):Int)),(.int .i64 (((gD g):Nat):Int)))] (.bind (.app1 59 (.sl (acc.map Ci) gr) (.sl [[(.int .i64 1),x18,x19]] .exact)) fun x20=> .req [((.int .i64 (((gD g+1):Nat):Int)),(.int .i64 (((gD g+1):Nat):Int))),((.int .i64 0),(.int .i64 0)),((.int .i64 0),(.int .i64 0))] (.again 0 1 [x,x20,(.int .i64 (((gD g+1):Nat):Int)),d])):D→Tree) (.int .i64 ((i+D7 (s.drop i):Nat):Int))) [fun a' ds'=>∃n',n'<m+1∧Bb6 s R n' a' ds',G]:=fun hl G=>by
    have h1:=hpos hl;have hw:=hsome hbl h35 (hlet h1);have happ1:=happ 1 1 rfl i ((s.take (i+D7 (s.drop i))).drop i);simp only[Aa,O0 (show i≤i+D7 (s.drop i) by omega) (show i+D7 (s.drop i)≤s.length by omega),A9,Al,if_true,Jj,Ot,Bc]
    refine⟨by simp,?_⟩
    rw[happ1];simp only[Az];exact⟨by simp,m,Nat.lt_succ_self m,i+D7 (s.drop i),acc++ [_],x,by omega,by omega,by simp;omega,hw,.inr ⟨rfl,by simp,_,_,rfl⟩⟩
   refine Aw rfl (h115 b) ?_;simp only[Ac];cases hsg:Ig b with
   |true=>
    simp only[if_true,Bc];have hl:De b=true:=by rw[← hsl,hsg];rfl
    exact⟨by simp,Xz h115 s i hi hs hN (by simp) (by simp) (fun d=> .bind (.slc 9 (.str s) (some (.int .i64 (i:Int))) (some d) none) fun x15=> .bind (.cell (.int .i64 (i:Int))) fun x16=> .bind (.cell x15) fun x17=> .bind (.slm x16) fun x18=> .bind (.slm x17) fun x19=> .req [((.int .i64 (((gD g):Nat):Int)),(.int .i64 (((gD g):Nat):Int)))] (.bind (.app1 59 (.sl (acc.map Ci) gr) (.sl [[(.int .i64 1),x18,x19]] .exact)) fun x20=> .req [((.int .i64 (((gD g+1):Nat):Int)),(.int .i64 (((gD g+1):Nat):Int))),((.int .i64 0),(.int .i64 0)),((.int .i64 0),(.int .i64 0))] (.again 0 1 [x,x20,(.int .i64 (((gD g+1):Nat):Int)),d]))) (hlw hl)⟩
   |false=>
   rw[hsg,Bool.false_or]at hsl;simp only[BF,Aa,En,e47,Ac];cases h47:b == 47 with
   |true=>
    simp only[if_true,Bc];have hl:De b=true:=by rw[← hsl,h47]
    exact⟨by simp,Xz h115 s i hi hs hN (by simp) (by simp) (fun d=> .bind (.slc 9 (.str s) (some (.int .i64 (i:Int))) (some d) none) fun x15=> .bind (.cell (.int .i64 (i:Int))) fun x16=> .bind (.cell x15) fun x17=> .bind (.slm x16) fun x18=> .bind (.slm x17) fun x19=> .req [((.int .i64 (((gD g):Nat):Int)),(.int .i64 (((gD g):Nat):Int)))] (.bind (.app1 59 (.sl (acc.map Ci) gr) (.sl [[(.int .i64 1),x18,x19]] .exact)) fun x20=> .req [((.int .i64 (((gD g+1):Nat):Int)),(.int .i64 (((gD g+1):Nat):Int))),((.int .i64 0),(.int .i64 0)),((.int .i64 0),(.int .i64 0))] (.again 0 1 [x,x20,(.int .i64 (((gD g+1):Nat):Int)),d]))) (hlw hl)⟩
   |false=>
   have hl:De b=false:=by rw[← hsl,h47]
   simp only[BF,e34];cases h34:b == 34 with
   |true=>
    simp only[if_true,Bt,hw1];refine Aw rfl (h116 s (i+1) (by omega) hs) ?_
    have hwt:=htext hl h34;generalize hT:(Dv (s.length - (i+1)+1) (s.drop (i+1))).map (fun p=>(p.1,(i+1)+p.2))=T at hwt ⊢;cases T with
    |none=>
     simp only[txR,Aa,Hg,GC,K5,Bool.not_false,Ac,if_true,A9,Al,Ae,Ab];rw[hnone hbl h35 (by rw[hwt];rfl)]
     exact⟨rfl,Pm⟩
    |some p=>
     obtain⟨t,e⟩:=p;have hwd:Fq s i=some (⟨2,i,t⟩,e):=by rw[hwt];rfl
     have hw:=hsome hbl h35 hwd;have hadv:=Mq hlt hwd;have happ1:=happ 2 2 rfl i t;simp only[txR,Aa,Hg,GC,K5,Bool.not_true,BF,Ac,if_true,A9,Al,Jj,Ot,Bc];refine⟨by simp,?_⟩
     rw[happ1];simp only[Az];exact⟨by simp,m,Nat.lt_succ_self m,e,acc++ [_],x,hadv.2,by omega,by simp;omega,hw,.inr ⟨rfl,by simp,_,_,rfl⟩⟩
   |false=>
   have hws:=hsign hl h34;simp only[BF];refine Nc (Alf b) ?_;simp only[Ac];cases hsn:O5.contains b with
   |true=>
    have hwd:Fq s i=some (⟨3,i,[b]⟩,i+1):=by rw[hws,hsn];rfl
    have hw:=hsome hbl h35 hwd;have happ1:=happ 3 3 rfl i [b];simp only[if_true,Aa,Bt,hw1,O0 (show i≤i+1 by omega) (show i+1≤s.length by omega),hsl1,A9,Al,Jj,Ot,Bc]
    refine⟨by simp,?_⟩
    rw[happ1];simp only[Az];exact⟨by simp,m,Nat.lt_succ_self m,i+1,acc++ [_],x,by omega,by omega,by simp<;>omega,hw,.inr ⟨rfl,by simp,_,_,rfl⟩⟩
   |false=>
    simp only[BF,Aa,A9,Al,if_true,Ae,Ab];rw[hnone hbl h35 (by rw[hws,hsn];rfl)]
    exact⟨rfl,Pm⟩
 ·have hie:i=s.length:=by omega
  subst hie;have hR2:R= .ok acc:=by rw[← ht,Auv];simp[Nk]
  have hend:Dt s.length acc=(acc++ [Nq s.length]).map Ci:=by simp[Dt]
  rcases hds with⟨rfl,rfl,rfl⟩|⟨rfl,hne,g,gr,rfl⟩
  ·simp only[Ca,hv,tails,List.tail_cons,List.headD_cons,Aa,Fa,Da,Vz,Ac,hlt,decide_false,BF,A9,Al,if_true,Jj];have happ:=X7 (Nq s.length);simp only[Ci,Nq]at happ;rw[show(Av.app 59 .nilsl (.sl [[.int .i64 4,.int .i64 (s.length:Int),.str []]] .exact)).sem prog=some (.sl ([Nq s.length].map Ci) .none)from happ];simp only[Ab];rw[hR2];exact Aa0 (g:= .none) rfl
  ·simp only[Ca,hv,tails,List.tail_cons,List.headD_cons,Aa,Fa,Da,Vz,Ac,hlt,decide_false,BF,A9,Al,if_true,Jj,Bc];have happ:=Aa3 acc (Nq s.length) gr hne (by omega)
   simp only[Ci,Nq]at happ;rw[show(Av.app1 59 (.sl (acc.map Ci) gr) (.sl [[.int .i64 4,.int .i64 (s.length:Int),.str []]] .exact)).sem prog=some (.sl ((acc++ [Nq s.length]).map Ci) .none)from happ];simp only[Ab];rw[hR2];refine⟨by simp,Aa0 (g:= .none) ?_⟩
   rw[hend];rfl
end
end Go.Vam
