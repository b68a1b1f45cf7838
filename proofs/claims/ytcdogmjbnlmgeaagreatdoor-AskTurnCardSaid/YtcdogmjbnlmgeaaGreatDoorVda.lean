/- P. -/
import Derived.Test.YtcdogmjbnlmgeaaGreatDoorVci
noncomputable section
set_option maxRecDepth 1000000
namespace Go.Vam
open Go.Proofs Go.Proofs.Tryz
section
variable{C:Eo}{hh:Bool}{od:Nat→Option (List Nat × Bool)}{cf:Ah}{N:Nat}{Pw:Nat→Prop}{e:Env}{st st':St}{Q:Ex→Env→St→Prop}{R:Env→St→Prop}{ops:Array Oper}{l:List Nat}
theorem Bni{c:Operand}{a b:Code}(h:∃d,ev e c=d∧match d with
  | .bool true=>ExO C hh od cf N Pw a e st Q
  | .bool false=>ExO C hh od cf N Pw b e st Q
  |_=>False):ExO C hh od cf N Pw (.cond c a b) e st Q:=by
 obtain⟨d,hc,h⟩:=h;cases d with
 |bool b=>cases b<;>first|exact Ak5 hc h|exact Afn hc h
 |_=>exact h.elim
theorem Blq{id:Nat}(hod:od id=some (l,true))(h:Adn C hh cf Pw ops l e st (fun e' st'=>Q .norm e' st')):ExO C hh od cf N Pw (.region id ops true) e st Q:=by
 obtain⟨e',st',V,h1,h2,h3⟩:=h.ex [] (by simp)
 refine⟨⟨.norm,e',st',V,?_,h2,h3⟩⟩;unfold exec region;rw[if_pos rfl,hod];dsimp only;rw[h1]
structure Bbe(C:Eo)(hh:Bool)(cf:Ah)(Pw:Nat→Prop)(ops:Array Oper)(i:Nat)(l:List Nat)(e:Env)(st:St)(R:Env→St→Prop):Prop where
 ex:(∀o,ops.toList[i]?=some o→Ct o ops e=some true)→Adn C hh cf Pw ops (i::l) e st R
theorem Bn3{i:Nat}{o:Oper}(ho':ops.toList[i]?=some o)(hg:o.guard=none)(h:Bbe C hh cf Pw ops i l e st R):Adn C hh cf Pw ops (i::l) e st R:=
 h.ex (fun o' ho=>by obtain rfl:=Option.some.inj (ho'.symm.trans ho);exact H7 hg)
theorem toL{i:Nat}{o:Oper}(ho':ops.toList[i]?=some o):ops[i]?=some o:=by rw[← Array.getElem?_toList];exact ho'
theorem Bnn{i:Nat}{o:Oper}(ho':ops.toList[i]?=some o)(hl:loud o=false)
  (h:∃r,Af C.P hh o (ev e) st=some r∧match r with
   |(v,.rd _)=>Adn C hh cf Pw ops l (Am e o.dst v) st R
   |(v,.al ob)=>Adn C hh cf Pw ops l (Am e o.dst v) (st++ [ob]) R):Bbe C hh cf Pw ops i l e st R:=
 ⟨fun hw=>by
  obtain⟨⟨v,y⟩,hq,h⟩:=h;cases y with
  |rd ids=>exact Baz (toL ho') (hw o ho') hl hq h
  |al ob=>exact A8d (toL ho') (hw o ho') hl hq h⟩
theorem Bnt{i:Nat}{o:Oper}(ho':ops.toList[i]?=some o)(hl:loud o=true)
  (h:∃r,Bj C hh cf o (ev e) st=some r∧match r with
   |(v,st',V)=>VOk Pw V (Adn C hh cf Pw ops l (Am e o.dst v) st' R)):Bbe C hh cf Pw ops i l e st R:=
 ⟨fun hw=>by obtain⟨⟨v,st',V⟩,hs,h⟩:=h;exact Bct (toL ho') (hw o ho') hl hs h.1 h.2⟩
theorem Bm5{i:Nat}{o:Oper}{j:Nat}{w:Bool}{p:Oper}{t:Tmp}(ho':ops.toList[i]?=some o)(hg:o.guard=some (j,w))(hp':ops.toList[j]?=some p)(ht:p.dst=some t)
  (h:∃d,e.getD t .undef=d∧match d,w with
   | .bool true,true=>Bbe C hh cf Pw ops i l e st R
   | .bool false,false=>Bbe C hh cf Pw ops i l e st R
   | .bool true,false=>Adn C hh cf Pw ops l (Am e o.dst (.tup [])) st R
   | .bool false,true=>Adn C hh cf Pw ops l (Am e o.dst (.tup [])) st R
   | .tup [],_=>Adn C hh cf Pw ops l (Am e o.dst (.tup [])) st R
   |_,_=>False):Adn C hh cf Pw ops (i::l) e st R:=by
 obtain⟨d,he,h⟩:=h;have hT:∀hw:Ct o ops e=some true,Bbe C hh cf Pw ops i l e st R→Adn C hh cf Pw ops (i::l) e st R:=fun hw hT=>hT.ex (fun o' ho=>by obtain rfl:=Option.some.inj (ho'.symm.trans ho);exact hw)
 cases d with
 |bool b=>cases b<;>cases w<;>first|exact hT (Avv hg hp' ht he) h|exact A3j (toL ho') (Avc hg hp' ht he) h
 |tup l=>
  cases l with
  |nil=>exact A3j (toL ho') (A9s hg hp' ht he) h
  |cons=>cases w<;>exact h.elim
 |_=>cases w<;>exact h.elim
end
theorem Bj9{cf:Ah}{N:Nat}{f:FuncId}{fn:Func}{c:Code}{args:List D}{st:St}{b:Bool}(hfn:prog.funcs[f]?=some fn)(hb:fn.body=some c)(hh:C1.hnd.contains f=false)(hk:C1.keepArr.contains f=false)(hk2:C1.keepNil.contains f=false)
  (h:ExO C1 false (C1.ords f) cf N (fun id=>st.length≤id) c (args++List.replicate (fn.ntmps - args.length) .undef) st (fun y e' st'=>y= .ret∧Gm C1.P e' st' fn.results.toList=some [.bool b]∧∃more,st'=st++more)):run C1 cf N f args st=some (.bool b,st,[]):=by
 obtain⟨y,e',st',V,h1,h2,rfl,h3,more,rfl⟩:=h.ex;have hfil:V.filter (· <st.length)= []:=by rw[List.filter_eq_nil_iff];intro id hid;have:=h2 id hid;simp;omega
 have hfin:finish st.length (.bool b) (st++more) V=some (.bool b,st,[]):=by rw[Rm rfl hfil];simp
 unfold run;have hP:C1.P=prog:=rfl;rw[hP,hfn];dsimp only;rw[hb];dsimp only;rw[hh,h1];dsimp only;rw[hP]at h3;rw[h3];dsimp only;have hz:Ls C1 f [.bool b] (st++more)=some ([.bool b],st++more):=by unfold Ls;rw[hk,hk2];rfl
 rw[hz];dsimp only;rw[Du];exact hfin
theorem Ap3:∀l:List UInt8,Ip (bytesD l)=some l
 | []=>rfl
 |b::l=>by have h:=Ap3 l;unfold bytesD at h ⊢;rw[List.map_cons,Ip,h];simp[toByte]
theorem Bii:prog.underlying 39=some (.slice 5):=underlying39
theorem Blt:prog.underlying 5=some (.int .u8):=underlying5
theorem Bc6:Bw prog 5=some 1:=by kernel_rfl
theorem Bnd:Jg prog 5=false:=by kernel_rfl
theorem cv9{t:List UInt8}(ht:t.length≤1000)(st:St):Dr prog 9 39 (.str t) st=some (.arr 1 st.length 0 t.length t.length,.al (.cells (bytesD t))):=by
 unfold Dr;rw[A9e,Bii];simp only[Blt,Bc6];have:t.length≤Dh:=by unfold Dh;omega
 simp[this]
theorem Bn1{id n k:Nat}(hk:k<n):Cf prog 39 (.arr 1 id 0 n n) (.int .i64 (k:Int))=some (.ptr id k,.pure):=by unfold Cf;rw[Ash,Bii];simp[Bc6,hk]
theorem ld5{st:St}{id k:Nat}{cs:List D}{x:D}(h:st[id]?=some (.cells cs))(hx:cs[k]?=some x)(hc:x.cells= [x]):Fp prog 5 (.ptr id k) st=some (x,.rd [id]):=by
 obtain⟨hk,hx2⟩:=List.getElem?_eq_some_iff.1 hx;unfold Fp Dk;simp only[h,Bc6,Bnd];have h1:(cs.drop k).take 1= [x]:=by rw[List.drop_eq_getElem_cons hk,hx2];rfl
 simp[h1,hk];exact⟨by omega,hx2⟩
theorem st5{st:St}{id k:Nat}{t:List UInt8}(c:UInt8)(h:st[id]?=some (.cells (bytesD t)))(hk:k<t.length):I4 prog 5 (.ptr id k) (.int .u8 (c.toNat:Int)) st=some (.undef,st.set id (.cells (bytesD (t.set k c))),[id]):=by
 have hl:(bytesD t).length=t.length:=by simp[bytesD]
 have h2:(bytesD t).take k++ [D.int .u8 (c.toNat:Int)]++(bytesD t).drop (k+1)=bytesD (t.set k c):=by
  unfold bytesD;rw[List.map_set,List.set_eq_take_append_cons_drop,if_pos (by simpa using hk)]
  simp
 unfold I4;simp only[h,Bc6];rw[show(D.int .u8 (c.toNat:Int)).cells= [D.int .u8 (c.toNat:Int)]from rfl];have h3:k+1≤(bytesD t).length:=by omega
 simp only[List.length_cons,List.length_nil,h3,h2];simp[Al]
theorem Bn2{st:St}{id:Nat}{t:List UInt8}{n:Nat}(hn:n=t.length)(h:st[id]?=some (.cells (bytesD t))):Dr prog 39 9 (.arr 1 id 0 n n) st=some (.str t,.rd [id]):=by
 have hl:(bytesD t).length=t.length:=by simp[bytesD]
 unfold Dr;rw[Bii,A9e];simp only[Blt,h];rw[if_pos (by omega),List.drop_zero,List.take_of_length_le (by omega),Ap3]
 rfl
theorem slA{t:List UInt8}{k:Nat}(hk:k≤t.length):Lu prog 9 (.str t) none (some k) none=some (.str (t.take k),.pure):=by unfold Lu;rw[A9e];simp[hk]
theorem slB{t:List UInt8}{k:Nat}(hk:k≤t.length):Lu prog 9 (.str t) (some k) none none=some (.str (t.drop k),.pure):=by unfold Lu;rw[A9e];simp[hk]
theorem Bom(t:List UInt8)(st:St):Ny prog 9 (.str t) st=some (.int .i64 (t.length:Int),.pure):=by unfold Ny;rfl
theorem Bon:C1.ords 5 10=some ([0,1,2,3,4,5,6,7,8,9,10,11,12,13,14,15,16,17,18,19,22,23,24,20,21,25,26,27,28,29,30,31,32,33,34,35,36,37,38,39,40],true):=by kernel_rfl
set_option maxHeartbeats 4000000 in
theorem Bn6{cf:Ah}{N:Nat}(h9:Ao cf 9 [] (.bool true))(h10:∀t,Ao cf 10 [.str t] (.bool true))(h11:∀(t:List UInt8) (n:Nat),Ao cf 11 [.str t,.int .i64 (n:Int)] (.str (t.take n)))
  (s more:List UInt8)(a:Int)(xn:Nat)(hx:xn<256):Ao (run C1 cf N) 5 [.str s,.int .i64 a,.int .u8 (xn:Int),.str more] (.bool true):=fun st=>by
 have hP:C1.P=prog:=rfl;have hc9:∀st,G6 C1 cf 9 [] [] [] st=some (.bool true,st,[]):=fun st=>Amz (by kernel_rfl) rfl rfl (h9 st)
 have hc10:∀t st,G6 C1 cf 10 [] [] [.str t] st=some (.bool true,st,[]):=fun t st=>Amz (by kernel_rfl) rfl rfl (h10 t st)
 have hc11:G6 C1 cf 11 [] [] [.str s,.int .i64 200] st=some (.str (s.take 200),st,[]):=Amz (by kernel_rfl) rfl rfl (h11 s 200 st)
 have htl:(s.take 200).length≤200:=by rw[List.length_take];omega
 generalize s.take 200=t at hc11 htl;refine Bj9 func5 (bdy (by kernel_rfl)) rfl rfl rfl ?_
 generalize he:(([.str s,.int .i64 a,.int .u8 (xn:Int),.str more]:List D)++List.replicate (Tryz.f5.ntmps - ([.str s,.int .i64 a,.int .u8 (xn:Int),.str more]:List D).length) .undef)=e;have hl:e.length=79:=by rw[← he];rfl
 have e0:e.getD 0 .undef= .str s:=by rw[← he];rfl
 have e1:e.getD 1 .undef= .int .i64 a:=by rw[← he];rfl
 have e2:e.getD 2 .undef= .int .u8 (xn:Int):=by rw[← he];rfl
 have e3:e.getD 3 .undef= .str more:=by rw[← he];rfl
 clear he;refine Bj8 ?_;obtain⟨code,hcode⟩:∃code,code=strip (bd Tryz.f5):=⟨_,rfl⟩;rw[← hcode];simp only[bd,Tryz.f5,strip,Dl,List.map_toArray,MC]at hcode;subst hcode;have hV:∀id∈ [st.length],st.length≤id:=by simp
 have c1:∀p,decide (t.length=0)=p→Bo prog .eql 3 (.int .i64 (t.length:Int)) (.int .i64 0)=some (.bool p):=fun p hp=>by subst hp;show some (D.bool ((t.length:Int) == 0))=_;congr 2;rw[Bool.eq_iff_iff];simp
 have c2:∀p,decide (a<0)=p→Bo prog .lss 3 (.int .i64 a) (.int .i64 0)=some (.bool p):=fun p hp=>by subst hp;rfl
 have c1:∀p,decide (t.length=0)=p→Bo prog .eql 3 (.int .i64 (t.length:Int)) (.int .i64 0)=some (.bool p):=fun p hp=>by subst hp;show some (D.bool ((t.length:Int) == 0))=_;congr 2;rw[Bool.eq_iff_iff];simp
 have c2:∀p,decide (a<0)=p→Bo prog .lss 3 (.int .i64 a) (.int .i64 0)=some (.bool p):=fun p hp=>by subst hp;rfl
 by_cases hz:t.length=0∨a<0
 ·have b2:=c2 _ rfl;obtain⟨p,q,⟨b1,b3⟩,hp⟩:∃p q,(Bo prog .eql 3 (.int .i64 (t.length:Int)) (.int .i64 0)=some (.bool p)∧Bo prog .lss 3 (.int .i64 a) (.int .i64 0)=some (.bool q))∧(p=true∨p=false∧q=true):=by
   by_cases h:t.length=0
   ·exact⟨true,_,⟨c1 true (by simpa using h),b2⟩,.inl rfl⟩
   ·exact⟨false,true,⟨c1 false (by simpa using h),c2 true (by simpa using hz.resolve_left h)⟩,.inr ⟨rfl,rfl⟩⟩
  clear c1 c2;rcases hp with rfl|⟨rfl,rfl⟩
  all_goals
   repeat (first
    |refine A00 ?_|refine Asu ?_|refine Bkx ?_|refine Awr ?_|refine Avq ?_|refine Ay7 ?_|refine Bq (by decide) ?_|refine Eg rfl rfl ?_|refine Axw ?_|refine Bn3 rfl rfl ?_|refine Blq Bon ?_|refine Zc (by first|exact hV|(simp;done)) ?_
    |((first|refine Ei rfl rfl rfl rfl ?_|refine Ee rfl rfl ?_|refine Ed rfl rfl ?_|refine Bm5 rfl rfl rfl rfl ?_|refine Bnn rfl rfl ?_|refine Bnt rfl rfl ?_|refine Bni ?_);refine⟨_,by simp only[Bj,BB,Af,ev,Am,Ak,Ag,Gc,Ai,↓reduceIte,Nat.reduceEqDiff,Nat.reduceLT,Aj,hP,hl,e0,e1,e2,e3,hc9,hc10,hc11,Bom,b1,b3];first|done|rfl|exact hup,?_⟩)
    |dsimp only)
   (refine⟨rfl,?_,[],by simp⟩
    show Gm C1.P _ _ [.tmp 8]=_;simp only[Gm,BB,Am,hl,Nat.reduceEqDiff,↓reduceIte,Nat.reduceLT])
 have b1:=c1 false (by simpa using fun h=>hz (.inl h))
 have b2:=c2 false (by simpa using fun h=>hz (.inr h))
 have hn:¬ a<0:=fun h=>hz (.inr h);have hz:t.length≠0:=fun h=>hz (.inl h);obtain⟨an,rfl⟩:∃n:Nat,a=n:=⟨a.toNat,by omega⟩
 have hk:an % t.length<t.length:=Nat.mod_lt _ (by omega)
 have b3:Bo prog .rem 3 (.int .i64 (an:Int)) (.int .i64 (t.length:Int))=some (.int .i64 ((an % t.length:Nat):Int)):=by
  show Ai (Op.intDiv .rem .i64 (an:Int) (t.length:Int))=_;unfold Op.intDiv;rw[if_neg (by omega)]
  rfl
 generalize an % t.length=k at hk b3;have hcv:=cv9 (t:=t) (by omega) st
 have hia:=Bn1 (id:=st.length) hk;have hs1:(st++ [Obj.cells (bytesD t)])[st.length]?=some (.cells (bytesD t)):=by simp
 have hx1:(bytesD t)[k]?=some (.int .u8 (t[k].toNat:Int)):=by simp[bytesD,hk]
 have hld:=ld5 hs1 hx1 rfl;have h8:t[k].toNat<256:=t[k].toNat_lt;obtain⟨c,hcx⟩:∃c:UInt8,c.toNat=t[k].toNat ^^^ xn:=⟨UInt8.ofNat (t[k].toNat ^^^ xn),by have:t[k].toNat ^^^ xn<2 ^ 8:=Nat.xor_lt_two_pow h8 hx;rw[UInt8.toNat_ofNat'];exact Nat.mod_eq_of_lt this⟩
 have b4:Bo prog .xor 5 (.int .u8 (t[k].toNat:Int)) (.int .u8 (xn:Int))=some (.int .u8 (c.toNat:Int)):=by have:=u8_xor_nat t[k].toNat xn h8 hx;rw[← hcx]at this;rw[← this];rfl
 have b5:∀x y:List UInt8,x.length+y.length≤1000→Bo prog .add 9 (.str x) (.str y)=some (.str (x++y)):=fun x y h=>by show(if x.length+y.length<2 ^ 40 then some (D.str (x++y))else none)=_;rw[if_pos (by omega)]
 have m:(more.take 12).length≤12:=by rw[List.length_take];omega
 have b6:=b5 (t.take k) (more.take 12) (by simp;omega)
 have b7:=b5 (t.take k++more.take 12) (t.drop k) (by simp;omega)
 have b8:=b5 [40] t (by simp;omega)
 have b9:=b5 ([40]++t) [41] (by simp;omega)
 have ba:=b5 [100,101,112,115,40] t (by simp;omega)
 have bb:=b5 ([100,101,112,115,40]++t) [44,32,51,41] (by simp;omega)
 generalize t[k].toNat=b at hld b4;have hup:=st5 c hs1 hk;have hs2:((st++ [Obj.cells (bytesD t)]).set st.length (.cells (bytesD (t.set k c))))[st.length]?=some (.cells (bytesD (t.set k c))):=by simp
 have hd:=Bn2 (n:=t.length) (by simp) hs2
 have s1:=slA (t:=t) (k:=k) (by omega)
 have s2:=slB (t:=t) (k:=k) (by omega)
 have hc12:∀st,G6 C1 cf 11 [] [] [.str more,.int .i64 12] st=some (.str (more.take 12),st,[]):=fun st=>Amz (by kernel_rfl) rfl rfl (h11 more 12 st)
 have hst:(st++ [Obj.cells (bytesD t)]).set st.length (.cells (bytesD (t.set k c)))=st++ [.cells (bytesD (t.set k c))]:=by simp[List.set_append]
 rw[hst]at hup hd
 repeat (first
  |refine A00 ?_|refine Asu ?_|refine Bkx ?_|refine Awr ?_|refine Avq ?_|refine Ay7 ?_|refine Bq (by decide) ?_|refine Eg rfl rfl ?_|refine Axw ?_|refine Bn3 rfl rfl ?_|refine Blq Bon ?_|refine Zc (by first|exact hV|(simp;done)) ?_
  |((first|refine Ei rfl rfl rfl rfl ?_|refine Ee rfl rfl ?_|refine Ed rfl rfl ?_|refine Bm5 rfl rfl rfl rfl ?_|refine Bnn rfl rfl ?_|refine Bnt rfl rfl ?_|refine Bni ?_);refine⟨_,by simp only[Bj,BB,Af,ev,Am,Ak,Ag,Gc,Ai,↓reduceIte,Nat.reduceEqDiff,Nat.reduceLT,Aj,hP,hl,e0,e1,e2,e3,hc9,hc10,hc11,Bom,b1,b2,b3,b4,b6,b7,b8,b9,ba,bb,hcv,hia,hld,hd,s1,s2,hc12,Vg,Ash];first|done|rfl|exact hup,?_⟩)
  |dsimp only)
 (refine⟨rfl,?_,[_],rfl⟩
  show Gm C1.P _ _ [.tmp 8]=_;simp only[Gm,BB,Am,hl,Nat.reduceEqDiff,↓reduceIte,Nat.reduceLT])
theorem Bkg{W:World}(hL:A6p W)(s more:ByteArray)(a:Int)(xn:Nat)(hx:xn<256):Calls prog 5 #[.string s,.int .i64 a,.int .u8 (xn:Int),.string more] W fun e W'=>e= .returned (.bool true)∧Aps W W':=by
 refine(At2 hL (N:=4010) (fun hK=>pS rfl (Bn6 (Bdq _) (Bbv hK) (fun t n=>pS rfl (A8a (hK _) t n)) s.data.toList more.data.toList a xn hx)) ⟨rfl,fun j d v h h'=>by
  match j with
  |0=>cases h;cases h';exact Go.Vam.VR.str s
  |1=>cases h;cases h';exact Go.Vam.VR.int _ _
  |2=>cases h;cases h';exact Go.Vam.VR.int _ _
  |3=>cases h;cases h';exact Go.Vam.VR.str more
  |j+4=>cases h⟩).mono ?_
 rintro e W' ⟨r,g',rfl,hv,hk⟩;cases hv;exact⟨rfl,hk⟩
end Go.Vam
