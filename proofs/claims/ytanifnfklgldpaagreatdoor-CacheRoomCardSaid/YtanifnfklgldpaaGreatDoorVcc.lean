/-
  CacheRoom's function answers true.
-/
import Derived.Test.YtanifnfklgldpaaGreatDoorVcb
set_option linter.unusedSimpArgs false
set_option linter.unusedVariables false
set_option linter.unusedSectionVars false
set_option maxRecDepth 1000000
namespace Go.Vam
open Go.Proofs Go.Proofs.Tryz
def B0h(i:Nat):Tx:= [UInt8.ofNat (97+i / 26),UInt8.ofNat (97+i % 26)]
theorem Ch8(n:Nat)(hn:n≤260):∀a b,a<n→b<n→B0h a=B0h b→a=b:=fun a b ha hb h=>by unfold B0h at h;injection h with h1 h2;injection h2 with h2 _;have e1:=congrArg UInt8.toNat h1;have e2:=congrArg UInt8.toNat h2;simp only[UInt8.toNat_ofNat']at e1 e2;omega
theorem Ck8(t:TypeId)(a b:Nat)(hb:b≠0)(ha:a<2 ^ 60):Bo prog .quo t (.int .i64 (a:Int)) (.int .i64 (b:Int))=some (.int .i64 ((a / b:Nat):Int)):=by
 show Ai (Op.intDiv .quo .i64 a b)=_;unfold Op.intDiv;rw[if_neg (by omega)]
 show some (D.int .i64 (IntKind.i64.wrap (Int.tdiv a b)))=_;have h:Int.tdiv a b=((a / b:Nat):Int):=(Int.ofNat_tdiv a b).symm;have h2:a / b≤a:=Nat.div_le_self a b;have key:∀z:Nat,z≤a→IntKind.i64.wrap (z:Int)=z:=fun z hz=>Go.IntWalk.i64_in _ (by omega)
 rw[h,key _ h2]
theorem Ckk(t:TypeId)(a b:Nat)(hb:b≠0)(hb2:b<2 ^ 60):Bo prog .rem t (.int .i64 (a:Int)) (.int .i64 (b:Int))=some (.int .i64 ((a % b:Nat):Int)):=by
 show Ai (Op.intDiv .rem .i64 a b)=_;unfold Op.intDiv;rw[if_neg (by omega)]
 have h:Int.tmod a b=((a % b:Nat):Int):=(Int.ofNat_tmod a b).symm;show some (D.int .i64 (Int.tmod a b))=_;rw[h]
theorem Ch7(t:TypeId)(x:Int)(m:Int)(hm:m≠0):Bo prog .rem t (.int .i64 x) (.int .i64 m)=some (.int .i64 (x.tmod m)):=by show Ai (Op.intDiv .rem .i64 x m)=_;unfold Op.intDiv;rw[if_neg hm];rfl
theorem Cl4(x m:Int)(hm:0<m):∃i:Nat,(i:Int)<m∧(x.tmod m+m).tmod m=(i:Int)∧ -m≤x.tmod m∧x.tmod m≤m:=by
 have h1: -m<x.tmod m:=Int.lt_tmod_of_pos x hm;have h2:x.tmod m<m:=Int.tmod_lt_of_pos x hm;have h3:0≤(x.tmod m+m).tmod m:=Int.tmod_nonneg _ (by omega)
 have h4:(x.tmod m+m).tmod m<m:=Int.tmod_lt_of_pos _ hm;exact⟨((x.tmod m+m).tmod m).toNat,by omega,by omega,by omega,by omega⟩
theorem mn2(a b:Nat):Om Abk (.int .i64 (a:Int)) [.int .i64 (b:Int)]=some (.int .i64 ((min a b:Nat):Int)):=by
 show(match Abk (.int .i64 (a:Int)) (.int .i64 (b:Int))with|some c=>Om Abk c []|none=>none)=_
 unfold Abk;simp only[if_true,Om];congr 2;split<;>omega
theorem mx0(z:Int):Om Ab0 (.int .i64 0) [.int .i64 z]=some (.int .i64 ((z.toNat:Nat):Int)):=by
 show(match Ab0 (.int .i64 0) (.int .i64 z)with|some c=>Om Ab0 c []|none=>none)=_
 unfold Ab0;simp only[if_true,Om];congr 2;split<;>omega
theorem Cko(a b:D):List.take 2 (List.take (0*2) (J2 [D.bool false,D.str []] 1)++(D.agg [a,b]).cells++List.drop (0*2+2) (J2 [D.bool false,D.str []] 1))= [a,b]:=rfl
theorem Ciu(a b:D):List.take 2 (List.take (0*2) (J2 [D.bool false,D.str []] 1)++ [a,b]++List.drop (0*2+2) (J2 [D.bool false,D.str []] 1))= [a,b]:=rfl
theorem Ck3(n:Nat)(h:n<256)(S:St):Dr prog 3 5 (.int .i64 (n:Int)) S=some (.int .u8 (n:Int),.pure):=by
 unfold Dr;rw[underlying3,underlying5];show some (D.int .u8 (IntKind.u8.wrap n),Fx.pure)=_;have:IntKind.u8.wrap n=n:=by show((n:Int) % 256)=n;omega
 rw[this]
theorem Cl2:Cx prog 99=some 5:=by kernel_rfl
theorem zs5:Bw prog 5=some 1:=by kernel_rfl
theorem zo5:zeroOf prog 5=some [.int .u8 0]:=by kernel_rfl
theorem Cmk(a b:Nat)(S:St):Dr prog 99 9 (.sl [[.int .u8 (a:Int)],[.int .u8 (b:Int)]] .exact) S=some (.str [UInt8.ofNat a,UInt8.ofNat b],.pure):=by unfold Dr;rw[underlying99,underlying9];dsimp only;rw[underlying5];simp[Ip,toByte]
theorem Cl0(a b:D)(ha:a.cells= [a])(hb:b.cells= [b]):I8 (fun i=>some (i*1,1)) (J2 [D.int .u8 0] 2) [(0,a),(1,b)]=if a.known && b.known then some [a,b]else none:=by cases ka:a.known<;>cases kb:b.known<;>simp[I8,J2,ha,hb,ka,kb]
section
variable{cf:Ah}{N:Nat}(hK:∀f,Ba (cf f))
include hK
theorem Buo(i:Nat)(hi:i<260):Ao (run C2 cf N) 18 [.int .i64 (i:Int)] (.str (B0h i)):=fun S=>by
 have hP:C2.P=prog:=rfl;refine Bbg rfl hK func18 (bdy (by kernel_rfl)) ?_
 rw[show C2.hnd.contains 18=false from rfl];generalize he:(([.int .i64 (i:Int)]:List D)++List.replicate (f18.ntmps - ([.int .i64 (i:Int)]:List D).length) .undef)=e;have hl:e.length=13:=by rw[← he];rfl
 have e0:e.getD 0 .undef= .int .i64 (i:Int):=by rw[← he];rfl
 clear he;have q1:Bo prog .quo 3 (.int .i64 (i:Int)) (.int .i64 26)=some (.int .i64 ((i / 26:Nat):Int)):=Ck8 3 i 26 (by decide) (by omega)
 have q2:Bo prog .rem 3 (.int .i64 (i:Int)) (.int .i64 26)=some (.int .i64 ((i % 26:Nat):Int)):=Ckk 3 i 26 (by decide) (by decide)
 have a1:Bo prog .add 3 (.int .i64 97) (.int .i64 ((i / 26:Nat):Int))=some (.int .i64 ((97+i / 26:Nat):Int)):=by
  rw[Cgf 3 97 _ (by omega)]
  congr 2
 have a2:Bo prog .add 3 (.int .i64 97) (.int .i64 ((i % 26:Nat):Int))=some (.int .i64 ((97+i % 26:Nat):Int)):=by
  rw[Cgf 3 97 _ (by omega)]
  congr 2
 have c1:=Ck3 (97+i / 26) (by omega)
 have c2:=Ck3 (97+i % 26) (by omega)
 have c3:=Cmk (97+i / 26) (97+i % 26);have k1:=Cl0 (.int .u8 ((97+i / 26:Nat):Int)) (.int .u8 ((97+i % 26:Nat):Int)) rfl rfl;have sp:Fs S [(0,.int .u8 ((97+i / 26:Nat):Int)),(1,.int .u8 ((97+i % 26:Nat):Int))]=some [(0,.int .u8 ((97+i / 26:Nat):Int)),(1,.int .u8 ((97+i % 26:Nat):Int))]:=rfl;obtain⟨x,hx⟩:∃x,x=((97+i / 26:Nat):Int):=⟨_,rfl⟩;obtain⟨y,hy⟩:∃y,y=((97+i % 26:Nat):Int):=⟨_,rfl⟩;rw[← hx]at a1 c1 c3 k1 sp;rw[← hy]at a2 c2 c3 k1 sp;refine Bj8 ?_;obtain⟨code,hcode⟩:∃code,code=strip (bd f18):=⟨_,rfl⟩;rw[← hcode];simp only[bd,f18,strip,Dl,List.map_toArray,MC]at hcode;subst hcode
 repeat (first
  |refine A00 ?_|refine Asu ?_|refine Bkx ?_|refine Awr ?_|refine Ay7 ?_|refine Bq (by decide) ?_|refine Eg rfl rfl ?_
  |((first|refine Ee rfl rfl ?_|refine Ed rfl rfl ?_|refine Bwz ?_);refine⟨_,by simp only[Bj,BB,Af,ev,Am,Ak,Ag,Gc,Ai,↓reduceIte,Nat.reduceEqDiff,Nat.reduceLT,Aj,hP,hl,e0,q1,q2,a1,a2,c1,c2,Cl2,zs5,zo5,sp,k1,D.known,chunk,c3];first|done|rfl,?_⟩)
  |dsimp only)
 refine⟨.inr rfl,[.str (B0h i)],[.str (B0h i)],S,?_,rfl,rfl,fun _ _=>rfl,.inl rfl⟩;show Gm C2.P _ _ [.tmp 2]=_;simp only[Gm,BB,Am,hl,Nat.reduceEqDiff,↓reduceIte,Nat.reduceLT];rw[hx,hy,Int.toNat_natCast,Int.toNat_natCast];rfl
theorem Ci3(b:Bool):Ao (run C2 cf N) 26 [.bool b] (.int .i64 (if b then 1 else 0)):=fun S=>by
 have hP:C2.P=prog:=rfl;refine Bbg rfl hK func26 (bdy (by kernel_rfl)) ?_
 rw[show C2.hnd.contains 26=false from rfl];generalize he:(([.bool b]:List D)++List.replicate (Tryz.f26.ntmps - ([.bool b]:List D).length) .undef)=e;have hl:e.length=4:=by rw[← he];rfl
 have e0:e.getD 0 .undef= .bool b:=by rw[← he];rfl
 clear he;refine Bj8 ?_;obtain⟨code,hcode⟩:∃code,code=strip (bd Tryz.f26):=⟨_,rfl⟩;rw[← hcode];simp only[bd,Tryz.f26,strip,Dl,List.map_toArray,MC]at hcode;subst hcode;cases b
 all_goals
  repeat (first
   |refine A00 ?_|refine Asu ?_|refine Bkx ?_|refine Awr ?_|refine Ay7 ?_|refine Bq (by decide) ?_|refine Eg rfl rfl ?_
   |((first|refine Ee rfl rfl ?_|refine Ed rfl rfl ?_|refine Bwz ?_);refine⟨_,by simp only[Bj,BB,Af,ev,Am,Ak,Ag,Gc,Ai,↓reduceIte,Nat.reduceEqDiff,Nat.reduceLT,Aj,hP,hl,e0];first|done|rfl,?_⟩)
   |dsimp only)
 ·refine⟨.inr rfl,[.int .i64 0],[.int .i64 0],S,?_,rfl,rfl,fun _ _=>rfl,.inl rfl⟩;show Gm C2.P _ _ [.tmp 2]=_;simp only[Gm,BB,Am,hl,Nat.reduceEqDiff,↓reduceIte,Nat.reduceLT]
 ·refine⟨.inr rfl,[.int .i64 1],[.int .i64 1],S,?_,rfl,rfl,fun _ _=>rfl,.inl rfl⟩;show Gm C2.P _ _ [.tmp 2]=_;simp only[Gm,BB,Am,hl,Nat.reduceEqDiff,↓reduceIte,Nat.reduceLT]
def Cbp(x:Int):Nat:=min x.toNat 200
theorem A8a(x:Int)(S:St):run C2 cf N 11 [.int .i64 x] S=some (.ptr (S.length+1) 0,S++ [.map [],.cells [.int .i64 (Cbp x:Int),.nilsl,.map S.length,.int .i64 0]],[]):=by
 have hP:C2.P=prog:=rfl;refine Cet rfl hK func11 (bdy (by kernel_rfl)) ?_
 rw[show C2.hnd.contains 11=false from rfl];generalize he:(([.int .i64 x]:List D)++List.replicate (f11.ntmps - ([.int .i64 x]:List D).length) .undef)=e;have hl:e.length=9:=by rw[← he];rfl
 have e0:e.getD 0 .undef= .int .i64 x:=by rw[← he];rfl
 clear he;have m1:Om Ab0 (.int .i64 x) [.int .i64 0]=some (.int .i64 (if x<0 then 0 else x)):=by
  show(match Ab0 (.int .i64 x) (.int .i64 0)with|some c=>Om Ab0 c []|none=>none)=_
  unfold Ab0;simp[Om]
 have m2:Om Abk (.int .i64 (if x<0 then 0 else x)) [.int .i64 200]=some (.int .i64 (Cbp x:Int)):=by
  show(match Abk (.int .i64 (if x<0 then 0 else x)) (.int .i64 200)with|some c=>Om Abk c []|none=>none)=_
  unfold Abk;simp only[if_true,Om];congr 2;unfold Cbp;split<;>split<;>omega
 generalize(if x<0 then(0:Int)else x)=z at m1 m2;generalize((Cbp x:Nat):Int)=r at m2;have b1:Adc prog 90 [(0,.int .i64 r),(2,.map S.length)]=some (.agg [.int .i64 r,.nilsl,.map S.length,.int .i64 0]):=by kernel_rfl
 refine Bj8 ?_;obtain⟨code,hcode⟩:∃code,code=strip (bd f11):=⟨_,rfl⟩;rw[← hcode];simp only[bd,f11,strip,Dl,List.map_toArray,MC]at hcode;subst hcode
 repeat (first
  |refine A00 ?_|refine Asu ?_|refine Bkx ?_|refine Awr ?_|refine Ay7 ?_|refine Bq (by decide) ?_|refine Eg rfl rfl ?_
  |((first|refine Ee rfl rfl ?_|refine Ed rfl rfl ?_|refine Bwz ?_);refine⟨_,by simp only[Bj,BB,Af,ev,Am,Ak,Ag,Gc,Ai,↓reduceIte,Nat.reduceEqDiff,Nat.reduceLT,Aj,hP,hl,e0,m1,m2,Cig,b1,D.known,D.cells];first|done|rfl,?_⟩)
  |dsimp only)
 have hlen:(S++ [Obj.map []]).length=S.length+1:=by simp
 refine⟨.inr rfl,[.ptr (S++ [Obj.map []]).length 0],[.ptr (S++ [Obj.map []]).length 0],_,?_,rfl,by rw[hlen];rfl,fun _ _=>rfl,?_,?_⟩
 ·show Gm C2.P _ _ [.tmp 2]=_;simp only[Gm,BB,Am,hl,Nat.reduceEqDiff,↓reduceIte,Nat.reduceLT]
 ·simp[D8]
 ·simp
end
theorem Ckw(k:Tx):Adc prog 29 [(0,.bool true),(1,.str k)]=some (.agg [.bool true,.str k]):=by kernel_rfl
theorem Cla(k:Tx)(S:St):Fs S [(0,.agg [.bool true,.str k])]=some [(0,.agg [.bool true,.str k])]:=rfl
theorem nb4(b:Bool):Bo prog .neq 4 (.bool b) (.bool b)=some (.bool false):=by cases b<;>kernel_rfl
theorem ns9(k:Tx):Bo prog .neq 9 (.str k) (.str k)=some (.bool false):=by show some (D.bool (!(k == k)))=_;rw[beq_self_eq_true];rfl
theorem Cj7(rows:List (List D))(S:St):Ny prog 22 (.sl rows .none) S=some (.int .i64 (rows.length:Int),.pure):=by unfold Ny;rw[underlying22]
theorem Cl6(r:List D)(l:List (List D))(h:r.length=2):Cf prog 22 (.sl (r::l) .none) (.int .i64 0)=some (.eptr r,.pure):=by unfold Cf;rw[show E5 (.int .i64 0)=some 0 from rfl];dsimp only;rw[underlying22];simp[h,Chu]
theorem Cjq(a b:D):Eh prog 29 (.eptr [a,b]) 1=some (.eptr [b],.pure):=by kernel_rfl
theorem Clz(k:Tx)(S:St):Fp prog 9 (.eptr [.str k]) S=some (.str k,.pure):=by
 unfold Fp;dsimp only;rw[Br0 zs9 zu9 za9 (by simp)]
 rfl
theorem Cf1{i r:Nat}(hi:i≤260)(hr:r≤200):Cgg (By0 B0h r i):= {
 room:=by rw[B32];exact hr
 len:=by rw[Cct,B32];omega
 gone:=by rw[B8x];split<;>omega
 val e he:=by obtain⟨j,_,_,rfl⟩:=Cc4 he;show 1<2 ^ 30;decide}
section
variable{cf:Ah}{N:Nat}(hK:∀f,Ba (cf f))
include hK
set_option maxHeartbeats 4000000 in
theorem Bvp(hN:300<N)(h9:Ao cf 9 [] (.bool true))(h11:∀(x:Int) S,cf 11 [.int .i64 x] S=some (.ptr (S.length+1) 0,S++ [.map [],.cells [.int .i64 (Cbp x:Int),.nilsl,.map S.length,.int .i64 0]],[]))
  (h18:∀i:Nat,i<260→Ao cf 18 [.int .i64 (i:Int)] (.str (B0h i)))
  (hput:∀c s k (vs:List Vl),Cgg s→vs.length<2 ^ 30→Cf3 cf 12 [.ptr c 0,.str k,.sl (Bow vs) .none] (CAt c) s (.bool (s.put k vs).1) (s.put k vs).2)
  (hget:∀c s k,Cgg s→B51 cf 13 [.ptr c 0,.str k] (CAt c) s (Cgt (B16 k s.l)))(h24:∀c s,B51 cf 24 [.ptr c 0] (CAt c) s (.int .i64 (s.l.length:Int)))(h25:∀c s,B51 cf 25 [.ptr c 0] (CAt c) s (.int .i64 (s.gone:Int)))
  (h26:∀b:Bool,Ao cf 26 [.bool b] (.int .i64 (if b then 1 else 0)))(x n:Int):Ao (run C2 cf N) 6 [.int .i64 x,.int .i64 n] (.bool true):=fun S=>by
 have hP:C2.P=prog:=rfl;refine Bbg rfl hK func6 (bdy (by kernel_rfl)) ?_
 rw[show C2.hnd.contains 6=false from rfl];generalize he:(([.int .i64 x,.int .i64 n]:List D)++List.replicate (Tryz.f6.ntmps - ([.int .i64 x,.int .i64 n]:List D).length) .undef)=e;have hl:e.length=106:=by rw[← he];rfl
 have e0:e.getD 0 .undef= .int .i64 x:=by rw[← he];rfl
 have e1:e.getD 1 .undef= .int .i64 n:=by rw[← he];rfl
 clear he;have hc9:∀S,G6 C2 cf 9 [] [] [] S=some (.bool true,S,[]):=fun S=>Amz (by kernel_rfl) rfl rfl (h9 S)
 obtain⟨n0,hn0,hn1,hn2,hn3⟩:=Cl4 n 260 (by decide)
 have hn260:n0<260:=by omega
 have q1:=Ch7 3 n 260 (by decide)
 have q2:=Cgf 3 (n.tmod 260) 260 (by omega)
 have q3:=Ch7 3 (n.tmod 260+260) 260 (by decide)
 rw[hn1]at q3;have m1:Om Abk (.int .i64 x) [.int .i64 200]=some (.int .i64 (if(200:Int)<x then 200 else x)):=rfl;have m2:=mx0 (if(200:Int)<x then 200 else x);rw[show(if(200:Int)<x then 200 else x).toNat=Cbp x from by unfold Cbp;split<;>omega]at m2
 obtain⟨r,hr⟩:∃r,r=Cbp x:=⟨_,rfl⟩;have hr2:r≤200:=by rw[hr];unfold Cbp;omega
 have hc11:G6 C2 cf 11 [] [] [.int .i64 x] S=some (.ptr (S.length+1) 0,S++ [.map [],.cells [.int .i64 (r:Int),.nilsl,.map S.length,.int .i64 0]],[]):=by
  unfold G6;rw[show Dm C2.P 11=true from by kernel_rfl,show C2.byRef.contains 11=false from rfl]
  have hz:Cw S [.int .i64 x]=some ([.int .i64 x],S):=rfl;have:=h11 x S;rw[← hr]at this;simp only[Bool.not_true,BF,hz,List.nil_append,List.append_nil,this];rw[Du];rfl
 rw[← hr]at m2;have hat0:CAt (S.length+1) (S++ [.map [],.cells [.int .i64 (r:Int),.nilsl,.map S.length,.int .i64 0]]) (By0 B0h r 0) [S.length+1,S.length]:=by
  have h0:By0 B0h r 0=⟨r,[],0⟩:=by
   unfold By0;split
   ·rename_i h;rw[h]
   ·simp
  rw[h0];refine .mk (kd:= .nilsl) (ks:= []) (at2 _ _ _) ?_ .nil;rw[List.getElem?_append_right (Nat.le_refl _),Nat.sub_self];rfl
 have inj:=Ch8 n0 (by omega)
 have hodF:C2.ords 6 18=some (List.range 25,false):=by kernel_rfl
 refine Bj8 ?_;obtain⟨code,hcode⟩:∃code,code=strip (bd Tryz.f6):=⟨_,rfl⟩;rw[← hcode];simp only[bd,Tryz.f6,strip,Dl,List.map_toArray,MC]at hcode;subst hcode
 repeat (first
  |refine A00 ?_|refine Asu ?_|refine Bkx ?_|refine Awr ?_|refine Ay7 ?_|refine Bq (by decide) ?_|refine Eg rfl rfl ?_|refine Zc (V:= []) (by simp) ?_
  |((first|refine Ei rfl rfl rfl rfl ?_|refine Ee rfl rfl ?_|refine Ed rfl rfl ?_|refine Bwz ?_);refine⟨_,by simp only[Bj,BB,Af,ev,Am,Ak,Ag,Gc,Ai,↓reduceIte,Nat.reduceEqDiff,Nat.reduceLT,Aj,hP,hl,e0,e1,hc9,q1,q2,q3,m1,m2,hc11];first|done|rfl,?_⟩)
  |dsimp only)
 refine Awv (fun k e' S'=>∃i ids,k=n0 - i∧i≤n0∧e'.length=106∧e'.getD 1 .undef= .int .i64 (n0:Int)∧e'.getD 6 .undef= .int .i64 (r:Int)∧e'.getD 7 .undef= .ptr (S.length+1) 0∧e'.getD 8 .undef= .int .i64 (i:Int)∧CAt (S.length+1) S' (By0 B0h r i) ids∧∀id∈ids,S.length≤id) n0 (by omega) ?_ ?_
 ·refine⟨0,[S.length+1,S.length],rfl,Nat.zero_le _,?_,?_,?_,?_,?_,hat0,by simp⟩
  all_goals (simp only[BB,Am,hl,Nat.reduceEqDiff,↓reduceIte,Nat.reduceLT];first|done|rfl)
 clear hat0 hc11 e0 e1 hl e;rintro k e S' ⟨i,ids,rfl,hi,hl,e1,e6,e7,e8,hat,hids⟩;have hG:=Cf1 (i:=i) (r:=r) (by omega) hr2
 have g1:=B5p 3 (i:Int) (n0:Int);by_cases hlt:i<n0
 ·rw[decide_eq_true (by omega)]at g1
  have c18:∀S,G6 C2 cf 18 [] [] [.int .i64 (i:Int)] S=some (.str (B0h i),S,[]):=fun S=>Amz (by kernel_rfl) rfl rfl (h18 i (by omega) S)
  have hp1:=hput (S.length+1) (By0 B0h r i) (B0h i) [(true,B0h i)] hG (by show 1<2 ^ 30;decide)
  rw[Chk inj hlt]at hp1;obtain⟨S1,V1,ids1,hcp,hV1,hat1,hids1,hle1,_⟩:=Cha (a:= []) (c:= []) (as_:= [.ptr (S.length+1) 0,.str (B0h i),.sl [[.bool true,.str (B0h i)]] .exact]) (C:=C2) hK (Cep _) (by kernel_rfl) rfl rfl hp1 hat
  have hids1':∀id∈ids1,S.length≤id:=fun id hid=>by
   rcases hids1 id hid with h|h
   ·exact hids id h
   ·have:=(Cep (S.length+1)).rt _ _ _ hat;omega
  have hVV1:∀id∈V1,S.length≤id:=fun id hid=>hids id (hV1 id hid);have g2:=Chs 3 (r:Int) 0;have ad:Bo prog .add 3 (.int .i64 (i:Int)) (.int .i64 1)=some (.int .i64 ((i+1:Nat):Int)):=Cgf 3 (i:Int) 1 (by omega)
  have nn:=nb4 (decide (0<r));by_cases hr0:0<r
  ·rw[decide_eq_true (by omega)]at g2
   rw[decide_eq_true hr0]at hcp nn;have hp2:=hput (S.length+1) (By0 B0h r (i+1)) (B0h i) [] (Cf1 (by omega) hr2) (by show 0<2 ^ 30;decide)
   rw[Cg0 inj hlt]at hp2;obtain⟨S2,V2,ids2,hcp2,hV2,hat2,hids2,hle2,_⟩:=Cha (a:= []) (c:= []) (as_:= [.ptr (S.length+1) 0,.str (B0h i),.nilsl]) (C:=C2) hK (Cep _) (by kernel_rfl) rfl rfl hp2 hat1
   have hids2':∀id∈ids2,S.length≤id:=fun id hid=>by
    rcases hids2 id hid with h|h
    ·exact hids1' id h
    ·have:=(Cep (S.length+1)).rt _ _ _ hat1;omega
   have hVV2:∀id∈V2,S.length≤id:=fun id hid=>hids1' id (hV2 id hid)
   repeat (first
    |refine A00 ?_|refine Asu ?_|refine Bkx ?_|refine Awr ?_|refine Ay7 ?_|refine Avq ?_|refine Bq (by decide) ?_|refine Eg rfl rfl ?_|refine Zc (by first|exact hVV1|exact hVV2|(simp;done)) ?_
    |((first|refine Ei rfl rfl rfl rfl ?_|refine Ee rfl rfl ?_|refine Ed rfl rfl ?_|refine Bwz ?_);refine⟨_,by simp only[Bj,BB,Af,ev,Am,Ak,Ag,Gc,Ai,↓reduceIte,Nat.reduceEqDiff,Nat.reduceLT,Aj,hP,hl,e1,e6,e7,e8,g1,c18,Ckw,Cih,Chu,Ci1,Cla,Cko,Ciu,chunk,hcp,g2,nn,hcp2,ad];first|done|rfl,?_⟩)
    |dsimp only)
   refine⟨n0 - (i+1),by omega,i+1,ids2,rfl,by omega,?_,?_,?_,?_,?_,hat2,hids2'⟩
   all_goals (simp only[BB,Am,hl,e1,e6,e7,e8,Nat.reduceEqDiff,↓reduceIte,Nat.reduceLT];first|done|rfl)
  ·rw[decide_eq_false (by omega)]at g2
   rw[decide_eq_false hr0]at hcp nn
   repeat (first
    |refine A00 ?_|refine Asu ?_|refine Bkx ?_|refine Awr ?_|refine Ay7 ?_|refine Avq ?_|refine Bq (by decide) ?_|refine Eg rfl rfl ?_|refine Zc (by first|exact hVV1|(simp;done)) ?_
    |((first|refine Ei rfl rfl rfl rfl ?_|refine Ee rfl rfl ?_|refine Ed rfl rfl ?_|refine Bwz ?_);refine⟨_,by simp only[Bj,BB,Af,ev,Am,Ak,Ag,Gc,Ai,↓reduceIte,Nat.reduceEqDiff,Nat.reduceLT,Aj,hP,hl,e1,e6,e7,e8,g1,c18,Ckw,Cih,Chu,Ci1,Cla,Cko,Ciu,chunk,hcp,g2,nn,ad];first|done|rfl,?_⟩)
    |dsimp only)
   refine⟨n0 - (i+1),by omega,i+1,ids1,rfl,by omega,?_,?_,?_,?_,?_,hat1,hids1'⟩
   all_goals (simp only[BB,Am,hl,e1,e6,e7,e8,Nat.reduceEqDiff,↓reduceIte,Nat.reduceLT];first|done|rfl)
 ·obtain rfl:i=n0:=by omega
  rw[decide_eq_false (by omega)]at g1
  have c24:G6 C2 cf 24 [] [] [.ptr (S.length+1) 0] S'=some (.int .i64 ((min i r:Nat):Int),S',[]):=by have:=h24 (S.length+1) (By0 B0h r i);rw[Cct]at this;exact Ccn (by kernel_rfl) rfl rfl this hat
  have c25:G6 C2 cf 25 [] [] [.ptr (S.length+1) 0] S'=some (.int .i64 (((if r=0 then 0 else i - r:Nat)):Int),S',[]):=by have:=h25 (S.length+1) (By0 B0h r i);rw[B8x]at this;exact Ccn (by kernel_rfl) rfl rfl this hat
  have c26:∀S,G6 C2 cf 26 [] [] [.bool (decide (0<r))] S=some (.int .i64 (if decide (0<r)then 1 else 0),S,[]):=fun S=>Amz (by kernel_rfl) rfl rfl (h26 _ S)
  have m3:=mn2 i r;have n1:=Cib 3 ((min i r:Nat):Int) ((min i r:Nat):Int);rw[bne_self_eq_false]at n1;have g2:Bo prog .gtr 3 (.int .i64 (r:Int)) (.int .i64 0)=some (.bool (decide (0<r))):=by rw[Chs];congr 2;simp
  have s1:=Civ 3 (i:Int) (r:Int) (by omega)
  have m4:=mx0 ((i:Int) - (r:Int));have m5:Bo prog .mul 3 (.int .i64 (if decide (0<r)then 1 else 0)) (.int .i64 ((((i:Int) - (r:Int)).toNat:Nat):Int))=some (.int .i64 (((if r=0 then 0 else i - r:Nat)):Int)):=by
   by_cases h0:r=0
   ·rw[if_neg (by simp[h0]),if_pos h0,Ciw _ _ _ (by omega)]
    simp
   ·rw[if_pos (by simp;omega),if_neg h0,Ciw _ _ _ (by omega)]
    congr 2;omega
  have n2:=Cib 3 (((if r=0 then 0 else i - r:Nat)):Int) (((if r=0 then 0 else i - r:Nat)):Int);rw[bne_self_eq_false]at n2;generalize(((if r=0 then 0 else i - r:Nat)):Int)=gz at c25 m5 n2;generalize(if decide (0<r)then(1:Int)else 0)=bz at c26 m5;generalize((((i:Int) - (r:Int)).toNat:Nat):Int)=sz at m4 m5
  repeat (first
   |refine A00 ?_|refine Asu ?_|refine Bkx ?_|refine Awr ?_|refine Ay7 ?_|refine Avq ?_|refine Bq (by decide) ?_|refine Eg rfl rfl ?_|refine Zc (V:= []) (by simp) ?_
   |((first|refine Ei rfl rfl rfl rfl ?_|refine Ee rfl rfl ?_|refine Ed rfl rfl ?_|refine Bwz ?_);refine⟨_,by simp only[Bj,BB,Af,ev,Am,Ak,Ag,Gc,Ai,↓reduceIte,Nat.reduceEqDiff,Nat.reduceLT,Aj,hP,hl,e1,e6,e7,e8,g1,c24,c25,c26,m3,n1,g2,s1,m4,m5,n2];first|done|rfl,?_⟩)
   |dsimp only)
  refine Awv (fun k e' S''=>∃j,k=i - j∧j≤i∧S''=S'∧e'.length=106∧e'.getD 1 .undef= .int .i64 (i:Int)∧e'.getD 7 .undef= .ptr (S.length+1) 0∧e'.getD 9 .undef= .int .i64 (j:Int)) i (by omega) ?_ ?_
  ·refine⟨0,rfl,Nat.zero_le _,rfl,?_,?_,?_,?_⟩
   all_goals (simp only[BB,Am,hl,e1,e7,Nat.reduceEqDiff,↓reduceIte,Nat.reduceLT];first|done|rfl)
  clear c25 c26 m3 n1 g2 s1 m4 m5 n2 g1 e1 e6 e7 e8 hl e;rintro k e S'' ⟨j,rfl,hj,rfl,hl,e1,e7,e9⟩;have g1:=B5p 3 (j:Int) (i:Int);by_cases hlj:j<i
  ·rw[decide_eq_true (by omega)]at g1
   have c18:∀S,G6 C2 cf 18 [] [] [.int .i64 (j:Int)] S=some (.str (B0h j),S,[]):=fun S=>Amz (by kernel_rfl) rfl rfl (h18 j (by omega) S)
   have hgt:=hget (S.length+1) (By0 B0h r i) (B0h j) hG;rw[Ces inj (Nat.le_refl _) hlj]at hgt;have c13:=Ccn (C:=C2) (a:= []) (c:= []) (as_:= [.ptr (S.length+1) 0,.str (B0h j)]) (by kernel_rfl) rfl rfl hgt hat
   have s1:=Civ 3 (i:Int) ((min i r:Nat):Int) (by omega)
   have g2:=Ckb 3 (j:Int) ((i:Int) - ((min i r:Nat):Int));have ad:Bo prog .add 3 (.int .i64 (j:Int)) (.int .i64 1)=some (.int .i64 ((j+1:Nat):Int)):=Cgf 3 (j:Int) 1 (by omega)
   by_cases hin:j<i∧i≤j+r∧r≠0
   ·rw[if_pos hin]at c13;rw[decide_eq_true (by omega)]at g2
    have nn:=nb4 true;have ln:=Cj7 (Bow [(true,B0h j)]) S'';have n1:=Cib 3 1 1;have ix:=Cl6 (Cdo (true,B0h j)) [] rfl;have fa:=Cjq (.bool true) (.str (B0h j));have ld:=Clz (B0h j) S'';have ne:=ns9 (B0h j);replace c13:G6 C2 cf 13 [] [] [.ptr (S.length+1) 0,.str (B0h j)] S''=some (.tup [.sl [[.bool true,.str (B0h j)]] .none,.bool true],S'',[]):=c13;replace ln:Ny prog 22 (.sl [[.bool true,.str (B0h j)]] .none) S''=some (.int .i64 1,.pure):=ln;replace ix:Cf prog 22 (.sl [[.bool true,.str (B0h j)]] .none) (.int .i64 0)=some (.eptr [.bool true,.str (B0h j)],.pure):=ix;replace n1:Bo prog .neq 3 (.int .i64 1) (.int .i64 1)=some (.bool false):=n1
    repeat (first
     |refine A00 ?_|refine Asu ?_|refine Bkx ?_|(refine B4n (fun _ _=>True) (fun _=>True) hodF trivial (fun B _=>?_);simp only[List.map_toArray,MC,Dl,List.range,List.range.loop])|refine Awr ?_|refine Ay7 ?_|refine Avq ?_
     |refine Bq (by decide) ?_|refine Eg rfl rfl ?_|refine B5t ?_|refine B7v rfl rfl ?_|refine Zc (by simp) ?_
     |((first|refine Ei rfl rfl rfl rfl ?_|refine Ee rfl rfl ?_|refine Ed rfl rfl ?_|refine Ch0 rfl rfl rfl rfl ?_|refine B8g rfl rfl ?_|refine B7s rfl rfl ?_|refine Bwz ?_);refine⟨_,by simp only[Bj,BB,Af,ev,Am,Ak,Ag,Gc,Ai,↓reduceIte,Nat.reduceEqDiff,Nat.reduceLT,Aj,hP,hl,e1,e7,e9,g1,c18,c13,c24,s1,g2,nn,ln,n1,ix,fa,ld,ne,ad];first|done|rfl,?_⟩)
     |dsimp only)
    refine⟨i - (j+1),by omega,j+1,rfl,by omega,rfl,?_,?_,?_,?_⟩
    all_goals (simp only[BB,Am,hl,e1,e7,e9,Nat.reduceEqDiff,↓reduceIte,Nat.reduceLT];first|done|rfl)
   ·rw[if_neg hin]at c13;rw[decide_eq_false (by omega)]at g2
    have nn:=nb4 false;replace c13:G6 C2 cf 13 [] [] [.ptr (S.length+1) 0,.str (B0h j)] S''=some (.tup [.sl [] .none,.bool false],S'',[]):=c13
    repeat (first
     |refine A00 ?_|refine Asu ?_|refine Bkx ?_|(refine B4n (fun _ _=>True) (fun _=>True) hodF trivial (fun B _=>?_);simp only[List.map_toArray,MC,Dl,List.range,List.range.loop])|refine Awr ?_|refine Ay7 ?_|refine Avq ?_
     |refine Bq (by decide) ?_|refine Eg rfl rfl ?_|refine B5t ?_|refine B7v rfl rfl ?_|refine Zc (by simp) ?_
     |((first|refine Ei rfl rfl rfl rfl ?_|refine Ee rfl rfl ?_|refine Ed rfl rfl ?_|refine Ch0 rfl rfl rfl rfl ?_|refine B8g rfl rfl ?_|refine B7s rfl rfl ?_|refine Bwz ?_);refine⟨_,by simp only[Bj,BB,Af,ev,Am,Ak,Ag,Gc,Ai,↓reduceIte,Nat.reduceEqDiff,Nat.reduceLT,Aj,hP,hl,e1,e7,e9,g1,c18,c13,c24,s1,g2,nn,ad];first|done|rfl,?_⟩)
     |dsimp only)
    refine⟨i - (j+1),by omega,j+1,rfl,by omega,rfl,?_,?_,?_,?_⟩
    all_goals (simp only[BB,Am,hl,e1,e7,e9,Nat.reduceEqDiff,↓reduceIte,Nat.reduceLT];first|done|rfl)
  ·rw[decide_eq_false (by omega)]at g1
   repeat (first
    |refine A00 ?_|refine Asu ?_|refine Bkx ?_|refine Awr ?_|refine Ay7 ?_|refine Avq ?_|refine Bq (by decide) ?_|refine Eg rfl rfl ?_|refine Zc (V:= []) (by simp) ?_
    |((first|refine Ei rfl rfl rfl rfl ?_|refine Ee rfl rfl ?_|refine Ed rfl rfl ?_|refine Bwz ?_);refine⟨_,by simp only[Bj,BB,Af,ev,Am,Ak,Ag,Gc,Ai,↓reduceIte,Nat.reduceEqDiff,Nat.reduceLT,Aj,hP,hl,e1,e7,e9,g1];first|done|rfl,?_⟩)
    |dsimp only)
   refine⟨.inr rfl,[.bool true],[.bool true],_,?_,rfl,rfl,fun _ _=>rfl,.inl rfl⟩;show Gm C2.P _ _ [.tmp 4]=_;simp only[Gm,BB,Am,hl,Nat.reduceEqDiff,↓reduceIte,Nat.reduceLT]
end
end Go.Vam
namespace Go.Vam
open Go.Proofs Go.Proofs.Tryz Go.RowKit
section
variable(hK:∀n f,Ba (CC n f))
theorem pC{n:Nat}{f:FuncId}{xs:List D}{v:D}(h:Cgj f=none)(hp:Ao (run C2 (CC n) 2000) f xs v):Ao (CC (n+1)) f xs v:=fun st=>by rw[show CC (n+1) f xs st=run C2 (CC n) 2000 f xs st from Qd h];exact hp st
theorem rC{n:Nat}{f:FuncId}{xs:List D}{v:D}{σ:Type}{At:St→σ→List Nat→Prop}{s:σ}(h:Cgj f=none)(hp:B51 (run C2 (CC n) 2000) f xs At s v):B51 (CC (n+1)) f xs At s v:=fun S ids h0=>by rw[show CC (n+1) f xs S=run C2 (CC n) 2000 f xs S from Qd h];exact hp S ids h0
theorem tC{n:Nat}{f:FuncId}{xs:List D}{v:D}{σ:Type}{At:St→σ→List Nat→Prop}{s s':σ}(h:Cgj f=none)(hp:Cf3 (run C2 (CC n) 2000) f xs At s v s'):Cf3 (CC (n+1)) f xs At s v s':=fun S ids h0=>by rw[show CC (n+1) f xs S=run C2 (CC n) 2000 f xs S from Qd h];exact hp S ids h0
theorem nC{n:Nat}{f:FuncId}{g:Bz}{xs:List D}{S:St}{r:Option (D × St × Cb)}(h:Cgj f=some g)(hv:g (CC n) xs S=r):CC (n+1) f xs S=r:=by
 show(match Cgj f with|some g=>g (CC n) xs S|none=>run C2 (CC n) 2000 f xs S)=_
 rw[h];exact hv
theorem c9(n:Nat):Ao (CC (n+1)) 9 [] (.bool true):=fun S=>nC (g:=Im Np) rfl rfl
include hK
theorem c43(n:Nat):Cgk (CC (n+1)):= {
 n S:=nC (g:=Cck 43 B5v) rfl (Cic (N:=2000) (hK n) S)
 e S:=nC (g:=Cck 43 B5v) rfl rfl
 c v l S hl:=nC (g:=Cck 43 B5v) rfl (Buk (N:=2000) (hK n) v l S hl)}
theorem c44(n:Nat):Clb (CC (n+1)):= {
 d h h1 h2 h0 hb:=by obtain⟨W,r,h3,h4⟩:=Cjj (N:=2000) (hK n) h h1 h2 h0 hb;exact⟨W,r,(Qd rfl).trans h3,h4⟩}
theorem c13(n c:Nat)(s:CP)(k:Tx)(hG:Cgg s):B51 (CC (n+2)) 13 [.ptr c 0,.str k] (CAt c) s (Cgt (B16 k s.l)):=rC rfl (Bym (hK _) (c43 hK n) c s k hG.val)
theorem c12(n c:Nat)(s:CP)(k:Tx)(vs:List Vl)(hG:Cgg s)(hv:vs.length<2 ^ 30):Cf3 (CC (n+3)) 12 [.ptr c 0,.str k,.sl (Bow vs) .none] (CAt c) s (.bool (s.put k vs).1) (s.put k vs).2:=by
 by_cases h:s.room=0∨(B16 k s.l).isSome=true
 ·rw[Cgh h];exact tC rfl (Chd (hK _) c s k vs (c13 hK n c s k hG) h)
 ·have h1:s.room≠0:=fun e=>h (.inl e);have h2:B16 k s.l=none:=by
   cases hg:B16 k s.l with
   |none=>rfl
   |some v=>exact absurd (.inr (by rw[hg];rfl)) h
  have h3:(s.put k vs).1=true:=by rw[Cgl h1 h2];split<;>rfl
  rw[h3];exact tC rfl (Ch1 (hK _) c s k vs hG hv (c43 hK (n+1)) (c44 hK (n+1)) (c13 hK n c s k hG) h1 h2)
theorem Bvk(x n:Int):Ao (CC 10) 6 [.int .i64 x,.int .i64 n] (.bool true):=
 pC rfl (Bvp (hK _) (by decide) (c9 8) (fun x S=>(Qd rfl).trans (A8a (hK 8) x S)) (fun i hi=>pC rfl (Buo (hK 8) i hi)) (fun c s k vs hG hv=>c12 hK 6 c s k vs hG hv) (fun c s k hG=>c13 hK 7 c s k hG) (fun c s=>rC rfl (Cjy (hK 8) c s)) (fun c s=>rC rfl (Ciz (hK 8) c s)) (fun b=>pC rfl (Ci3 (hK 8) b)) x n)
end
theorem Bwe{W:World}(hm:∃m,W.cell? ⟨1,0,none⟩=some (.int .i64 m))(ht:Lib.TabIs prog W "internal/strconv.uint64pow10" .u64 Lib.pow10Tab)(x n:Int):
  Calls prog 6 #[.int .i64 x,.int .i64 n] W fun e W'=>e= .returned (.bool true)∧Aps W W':=by
 have hO:=Cip (β:=Akm W) hm (Bfn W ht);have hA:F8 (gA W) [.int .i64 x,.int .i64 n] #[.int .i64 x,.int .i64 n]:=⟨rfl,fun j d v h h'=>by
  match j with
  |0=>cases h;cases h';exact .int _ _
  |1=>cases h;cases h';exact .int _ _
  |j+2=>cases h⟩
 refine(((Ckt hO 2000 10).just 6) _ _ _ _ _ (Bvk (fun n=>(Ckt hO 2000 n).keeps) x n []) (gA W) W _ rfl (Bhy W) hA).mono ?_;rintro e W' ⟨r,g',rfl,hv,_,hst,_⟩;cases hv;exact⟨rfl,hst.os,hst.out,fun i hi=>hst.fr i hi fun id hid=>by cases hid⟩
end Go.Vam
