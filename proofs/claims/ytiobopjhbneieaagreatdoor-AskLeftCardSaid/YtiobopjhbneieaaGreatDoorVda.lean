/- P. -/
import Derived.Test.YtiobopjhbneieaaGreatDoorVci
set_option linter.unusedSimpArgs false
set_option linter.unusedVariables false
set_option linter.unusedSectionVars false
noncomputable section
set_option maxRecDepth 1000000
namespace Go.Vam
open Go.Proofs Go.Proofs.Tryz
section
variable{C:Eo}{hh:Bool}{od:Nat→Option (List Nat × Bool)}{cf:Ah}{N:Nat}{Pw:Nat→Prop}{e:Env}{st st':St}{Q:Ex→Env→St→Prop}{R:Env→St→Prop}{ops:Array Oper}{l:List Nat}
theorem Bni{c:Operand}{a b:Code}(h:∃d,ev e c=d∧match d with
  | .bool true=>ExO C hh od cf N Pw a e st Q
  | .bool false=>ExO C hh od cf N Pw b e st Q
  |_=>False):ExO C hh od cf N Pw (.cond c a b) e st Q:=by
 obtain⟨d,hc,h⟩:=h;cases d with
 |bool b=>cases b<;>first|exact Ak5 hc h|exact Afn hc h
 |_=>exact h.elim
theorem Blq{id:Nat}(hod:od id=some (l,true))(h:Adn C hh cf Pw ops l e st (fun e' st'=>Q .norm e' st')):ExO C hh od cf N Pw (.region id ops true) e st Q:=by
 obtain⟨e',st',V,h1,h2,h3⟩:=h.ex [] (by simp)
 refine⟨⟨.norm,e',st',V,?_,h2,h3⟩⟩;unfold exec region;rw[if_pos rfl,hod];dsimp only;rw[h1]
structure Bbe(C:Eo)(hh:Bool)(cf:Ah)(Pw:Nat→Prop)(ops:Array Oper)(i:Nat)(l:List Nat)(e:Env)(st:St)(R:Env→St→Prop):Prop where
 ex:(∀o,ops.toList[i]?=some o→Ct o ops e=some true)→Adn C hh cf Pw ops (i::l) e st R
theorem Bn3{i:Nat}{o:Oper}(ho':ops.toList[i]?=some o)(hg:o.guard=none)(h:Bbe C hh cf Pw ops i l e st R):Adn C hh cf Pw ops (i::l) e st R:=
 h.ex (fun o' ho=>by obtain rfl:=Option.some.inj (ho'.symm.trans ho);exact H7 hg)
theorem toL{i:Nat}{o:Oper}(ho':ops.toList[i]?=some o):ops[i]?=some o:=by rw[← Array.getElem?_toList];exact ho'
theorem Bnn{i:Nat}{o:Oper}(ho':ops.toList[i]?=some o)(hl:loud o=false)
  (h:∃r,Af C.P hh o (ev e) st=some r∧match r with
   |(v,.rd _)=>Adn C hh cf Pw ops l (Am e o.dst v) st R
   |(v,.al ob)=>Adn C hh cf Pw ops l (Am e o.dst v) (st++ [ob]) R):Bbe C hh cf Pw ops i l e st R:=
 ⟨fun hw=>by
  obtain⟨⟨v,y⟩,hq,h⟩:=h;cases y with
  |rd ids=>exact Baz (toL ho') (hw o ho') hl hq h
  |al ob=>exact A8d (toL ho') (hw o ho') hl hq h⟩
theorem Bnt{i:Nat}{o:Oper}(ho':ops.toList[i]?=some o)(hl:loud o=true)
  (h:∃r,Bj C hh cf o (ev e) st=some r∧match r with
   |(v,st',V)=>VOk Pw V (Adn C hh cf Pw ops l (Am e o.dst v) st' R)):Bbe C hh cf Pw ops i l e st R:=
 ⟨fun hw=>by obtain⟨⟨v,st',V⟩,hs,h⟩:=h;exact Bct (toL ho') (hw o ho') hl hs h.1 h.2⟩
theorem Bm5{i:Nat}{o:Oper}{j:Nat}{w:Bool}{p:Oper}{t:Tmp}(ho':ops.toList[i]?=some o)(hg:o.guard=some (j,w))(hp':ops.toList[j]?=some p)(ht:p.dst=some t)
  (h:∃d,e.getD t .undef=d∧match d,w with
   | .bool true,true=>Bbe C hh cf Pw ops i l e st R
   | .bool false,false=>Bbe C hh cf Pw ops i l e st R
   | .bool true,false=>Adn C hh cf Pw ops l (Am e o.dst (.tup [])) st R
   | .bool false,true=>Adn C hh cf Pw ops l (Am e o.dst (.tup [])) st R
   | .tup [],_=>Adn C hh cf Pw ops l (Am e o.dst (.tup [])) st R
   |_,_=>False):Adn C hh cf Pw ops (i::l) e st R:=by
 obtain⟨d,he,h⟩:=h;have hT:∀hw:Ct o ops e=some true,Bbe C hh cf Pw ops i l e st R→Adn C hh cf Pw ops (i::l) e st R:=fun hw hT=>hT.ex (fun o' ho=>by obtain rfl:=Option.some.inj (ho'.symm.trans ho);exact hw)
 cases d with
 |bool b=>cases b<;>cases w<;>first|exact hT (Avv hg hp' ht he) h|exact A3j (toL ho') (Avc hg hp' ht he) h
 |tup l=>
  cases l with
  |nil=>exact A3j (toL ho') (A9s hg hp' ht he) h
  |cons=>cases w<;>exact h.elim
 |_=>cases w<;>exact h.elim
end
theorem Bj9{cf:Ah}{N:Nat}{f:FuncId}{fn:Func}{c:Code}{args:List D}{st:St}{b:Bool}(hfn:prog.funcs[f]?=some fn)(hb:fn.body=some c)(hh:C1.hnd.contains f=false)(hk:C1.keepArr.contains f=false)(hk2:C1.keepNil.contains f=false)
  (h:ExO C1 false (C1.ords f) cf N (fun id=>st.length≤id) c (args++List.replicate (fn.ntmps - args.length) .undef) st (fun y e' st'=>y= .ret∧Gm C1.P e' st' fn.results.toList=some [.bool b]∧∃more,st'=st++more)):run C1 cf N f args st=some (.bool b,st,[]):=by
 obtain⟨y,e',st',V,h1,h2,rfl,h3,more,rfl⟩:=h.ex;have hfil:V.filter (· <st.length)= []:=by rw[List.filter_eq_nil_iff];intro id hid;have:=h2 id hid;simp;omega
 have hfin:finish st.length (.bool b) (st++more) V=some (.bool b,st,[]):=by rw[Rm rfl hfil];simp
 unfold run;have hP:C1.P=prog:=rfl;rw[hP,hfn];dsimp only;rw[hb];dsimp only;rw[hh,h1];dsimp only;rw[hP]at h3;rw[h3];dsimp only;have hz:Ls C1 f [.bool b] (st++more)=some ([.bool b],st++more):=by unfold Ls;rw[hk,hk2];rfl
 rw[hz];dsimp only;rw[Du];exact hfin
def atQ:Qy→Nat
 | .label a _ _=>a
 | .var a _=>a
 | .bin _ a _ _=>a
 | .un _ a _ _ _=>a
 | .lt a _ _ _=>a
 | .whole a=>a
def Aem(p:Qy→Prop):Qy→Prop
 | .bin k a x y=>p (.bin k a x y)∧Aem p x∧Aem p y
 | .lt a nm x y=>p (.lt a nm x y)∧Aem p x∧Aem p y
 | .un k a nm n x=>p (.un k a nm n x)∧Aem p x
 | .label a r ln=>p (.label a r ln)
 | .var a nm=>p (.var a nm)
 | .whole a=>p (.whole a)
theorem Aem.mono{p q:Qy→Prop}(hp:∀x,p x→q x):∀{x:Qy},Aem p x→Aem q x
 | .bin _ _ _ _,h=>⟨hp _ h.1,Aem.mono hp h.2.1,Aem.mono hp h.2.2⟩
 | .lt _ _ _ _,h=>⟨hp _ h.1,Aem.mono hp h.2.1,Aem.mono hp h.2.2⟩
 | .un _ _ _ _ _,h=>⟨hp _ h.1,Aem.mono hp h.2⟩
 | .label _ _ _,h=>hp _ h
 | .var _ _,h=>hp _ h
 | .whole _,h=>hp _ h
section
variable{L:Nat}{may:List UInt8→Bool}{gn:List UInt8→Int × Bool}{W:List Wd}
def Al0(W:List Wd)(s:PS):Prop:=∀w∈s.ws,w∈W
theorem Al0.tail{s:PS}{b:Option Nat}(h:Al0 W s):Al0 W ⟨s.ws.tail,b⟩:=fun w hw=>h w (List.mem_of_mem_tail hw)
theorem Al0.fails{s:PS}(h:Al0 W s):Al0 W (Hf L s):=h
theorem Al0.must{s:PS}{K:Int}{tx:List UInt8}(h:Al0 W s):Al0 W (A8 L s K tx):=by
 unfold A8;split
 ·exact h.tail
 ·exact h.fails
theorem Al0.next{s:PS}{K:Int}{m:List UInt8→Bool}(h:Al0 W s):Al0 W (Bb L s K m).2:=by
 unfold Bb;split
 ·exact h.tail
 ·exact h.fails
end
section
variable{st:St}{id:Nat}{k:Int}{a:Nat}{r:Bool}{ln nm:List UInt8}{n:Int}{rows:List (List D)}
end
theorem Bnh:zeroOf prog 30=some [.int .i64 0,.int .i64 0,.bool false,.str [],.str [],.int .i64 0,.nilsl]:=by kernel_rfl
theorem Bns:zeroOf prog 33=some [.int .i64 0,.int .i64 0]:=by kernel_rfl
theorem Boc:Bw prog 33=some 2:=by kernel_rfl
theorem Bo2:Bw prog 31=some 1:=by kernel_rfl
theorem Bpj:Jg prog 31=false:=by kernel_rfl
theorem Bo7{id:Nat}:Eh prog 33 (.ptr id 0) 0=some (.ptr id 0,.pure):=by kernel_rfl
def shW(k:Nat→Nat)(w:Wd):Wd:=⟨w.k,k w.at_,w.tx⟩
def shS(k:Nat→Nat)(s:PS):PS:=⟨s.ws.map (shW k),s.bad.map k⟩
def shQ(k:Nat→Nat):Qy→Qy
 | .label a r ln=> .label (k a) r ln
 | .var a nm=> .var (k a) nm
 | .bin c a x y=> .bin c (k a) (shQ k x) (shQ k y)
 | .un c a nm n x=> .un c (k a) nm n (shQ k x)
 | .lt a nm x y=> .lt (k a) nm (shQ k x) (shQ k y)
 | .whole a=> .whole (k a)
def shO(k:Nat→Nat)(o:Option (Qy × PS)):Option (Qy × PS):=o.map fun p=>(shQ k p.1,shS k p.2)
section
variable{L:Nat}{may:List UInt8→Bool}{gn:List UInt8→Int × Bool}{k:Nat→Nat}
theorem Bqe(ws:List Wd):Cn (k L) (ws.map (shW k))=shW k (Cn L ws):=by cases ws<;>rfl
theorem Boj(s:PS)(K:Int)(tx:List UInt8):Ry (k L) (shS k s) K tx=Ry L s K tx:=by unfold Ry shS;simp only[Bqe];cases s.bad<;>rfl
theorem Bm8(s:PS):(⟨(shS k s).ws.tail,(shS k s).bad⟩:PS)=shS k ⟨s.ws.tail,s.bad⟩:=by unfold shS;simp
theorem Bof(s:PS):Hf (k L) (shS k s)=shS k (Hf L s):=by unfold Hf shS;simp only[Bqe];cases s.bad<;>rfl
theorem Bex(s:PS)(K:Int)(tx:List UInt8):A8 (k L) (shS k s) K tx=shS k (A8 L s K tx):=by
 unfold A8;rw[Boj];split
 ·exact Bm8 s
 ·exact Bof s
theorem Bpq(s:PS)(K:Int)(m:List UInt8→Bool):M9 (k L) (shS k s) K m=M9 L s K m:=by unfold M9 shS;simp only[Bqe];cases s.bad<;>rfl
theorem Bkq(s:PS):Cn (k L) (shS k s).ws=shW k (Cn L s.ws):=Bqe s.ws
theorem Blp(s:PS)(K:Int)(m:List UInt8→Bool):(Bb (k L) (shS k s) K m).1=(Bb L s K m).1:=by
 unfold Bb;rw[Bpq];split
 ·rw[Bkq];rfl
 ·rfl
theorem Bl2(s:PS)(K:Int)(m:List UInt8→Bool):(Bb (k L) (shS k s) K m).2=shS k (Bb L s K m).2:=by
 unfold Bb;rw[Bpq];split
 ·exact Bm8 s
 ·exact Bof s
theorem Brs(s:PS):(Zk (k L) gn (shS k s)).1=(Zk L gn s).1:=by unfold Zk;rw[Blp]
theorem Bry(s:PS):(Zk (k L) gn (shS k s)).2=shS k (Zk L gn s).2:=by unfold Zk;exact Bl2 _ _ _
theorem Bru(s:PS):Hz (k L) (shS k s)=Hz L s:=by unfold Hz;simp only[Boj]
theorem Brg(s:PS):Ij (k L) (shS k s)=Ij L s:=by unfold Ij;rw[Bkq];unfold shS;cases s.bad<;>rfl
theorem Bp4{f g:PS→Option (Qy × PS)}(h:∀s,g (shS k s)=shO k (f s)):∀(m:Nat) (x:Qy) (s:PS),Kw (k L) g m (shQ k x) (shS k s)=shO k (Kw L f m x s)
 |0,_,_=>rfl
 |m+1,x,s=>by
  unfold Kw;rw[Bru,Bm8,h];split
  ·rfl
  ·cases f ⟨s.ws.tail,s.bad⟩with
   |none=>rfl
   |some p=>obtain⟨y,s2⟩:=p;show Kw (k L) g m (.bin (Hz L s) (Cn (k L) (shS k s).ws).at_ (shQ k x) (shQ k y)) (shS k s2)=_;rw[Bkq];exact Bp4 h m (.bin (Hz L s) (Cn L s.ws).at_ x y) s2
theorem Bqt{f g:PS→Option (Qy × PS)}(h:∀s,g (shS k s)=shO k (f s))(a:Nat)(t:List UInt8)(s:PS):Q7 (k L) gn g (k a) t (shS k s)=shO k (Q7 L gn f a t s):=by
 unfold Q7;simp only[Blp,Bl2,Bex,h];split
 ·cases f s with
  |none=>rfl
  |some p=>obtain⟨x,s1⟩:=p;simp only[shO,Option.map_some,Boj,Bex,Brs,Bry];split<;>rfl
 split
 ·cases f s<;>rfl
 split
 ·cases f s with
  |none=>rfl
  |some p=>obtain⟨x,s1⟩:=p;simp only[shO,Option.map_some,Bex,h];cases f (A8 L s1 3 [44])<;>rfl
 split
 ·cases f (A8 L (Bb L s 1 Jd).2 3 [44])<;>rfl
 split
 ·cases f (A8 L (Bb L s 2 (fun _=>true)).2 3 [44])<;>rfl
 ·rfl
theorem Bqc:∀n:Nat,(∀s,Fe (k L) may gn n (shS k s)=shO k (Fe L may gn n s))∧(∀s,Uv (k L) may gn n (shS k s)=shO k (Uv L may gn n s))∧(∀s,Jv (k L) may gn n (shS k s)=shO k (Jv L may gn n s))∧∀s a,Py (k L) may gn n (shS k s) (k a)=shO k (Py L may gn n s a)
 |0=>⟨fun _=>rfl,fun _=>rfl,fun _=>rfl,fun _ _=>rfl⟩
 |n+1=>by
  obtain⟨h1,h2,h3,h4⟩:=Bqc n;refine⟨fun s=>?_,fun s=>?_,fun s=>?_,fun s a=>?_⟩
  ·unfold Fe;simp only[Boj,Bex,Blp,Bl2,h1,h2,Bkq];split
   ·cases Fe L may gn n (A8 L (Bb L (A8 L s 1 Ib) 1 may).2 3 [61])with
    |none=>rfl
    |some p=>obtain⟨x,s4⟩:=p;simp only[shO,Option.map_some,Bex,h1];cases Fe L may gn n (A8 L s4 1 Vx)<;>rfl
   ·rfl
  ·unfold Uv;rw[h3];cases Jv L may gn n s with
   |none=>rfl
   |some p=>obtain⟨x,s1⟩:=p;exact Bp4 h3 1900 x s1
  ·unfold Jv;simp only[Boj,Bex,Blp,Bl2,h1,Brg,Bkq];split
   ·rfl
   split
   ·rfl
   split
   ·cases Fe L may gn n (A8 L s 3 [40])with
    |none=>rfl
    |some p=>obtain⟨x,s2⟩:=p;simp only[shO,Option.map_some,Bex]
   split
   ·exact h4 s _
   ·rfl
  ·unfold Py;rw[Bm8,Bex,Bkq];rw[show(shW k (Cn L s.ws)).tx=(Cn L s.ws).tx from rfl,Bqt h1];cases Q7 L gn (Fe L may gn n) a (Cn L s.ws).tx (A8 L ⟨s.ws.tail,s.bad⟩ 3 [40])with
   |none=>rfl
   |some p=>obtain⟨x,s1⟩:=p;simp only[shO,Option.map_some,Bex]
theorem Bq8(g s:List UInt8)(i:Nat):Fq (g++s) (i+g.length)=(Fq s i).map fun p=>(shW (· +g.length) p.1,p.2+g.length):=by
 have hd:∀j,(g++s).drop (j+g.length)=s.drop j:=fun j=>by rw[Nat.add_comm,List.drop_append];simp
 have hi:(g++s)[i+g.length]?=s[i]?:=by rw[List.getElem?_append_right (by omega),Nat.add_sub_cancel]
 unfold Fq;rw[hd,hi,show i+g.length+1=(i+1)+g.length from by omega,hd,List.length_append,show g.length+s.length - (i+1+g.length)+1=s.length - (i+1)+1 from by omega]
 split
 ·simp only[Option.map_some,shW];congr 2;omega
 ·cases s[i]? with
  |none=>rfl
  |some c=>
   dsimp only;split
   ·cases Dv (s.length - (i+1)+1) (s.drop (i+1))with
    |none=>rfl
    |some p=>simp only[Option.map_some,shW];congr 2;omega
   ·split<;>rfl
def shL(k:Nat→Nat)(o:Except Nat (List Wd)):Except Nat (List Wd):=match o with
 | .ok ws=> .ok (ws.map (shW k))
 | .error i=> .error (k i)
theorem Bny(g s:List UInt8):∀n i,M6 n (g++s) (i+g.length)=shL (· +g.length) (M6 n s i)
 |0,i=>rfl
 |n+1,i=>by
  unfold M6;rw[Bq8,List.length_append];by_cases hlt:i<s.length
  ·rw[if_pos hlt,if_pos (show i+g.length<g.length+s.length by omega)]
   cases Fq s i with
   |none=>rfl
   |some p=>
    obtain⟨w,e⟩:=p;simp only[Option.map_some];rw[show(g++s).drop (e+g.length)=s.drop e from by rw[Nat.add_comm,List.drop_append];simp]
    rw[show e+g.length+Db false (s.drop e)=e+Db false (s.drop e)+g.length from by omega,Bny g s n]
    cases M6 n s (e+Db false (s.drop e))<;>rfl
  ·rw[if_neg hlt,if_neg (show ¬ i+g.length<g.length+s.length by omega)]
   rfl
theorem Bpd(s:List UInt8):∀n m i,s.length - i<n→s.length - i<m→M6 n s i=M6 m s i
 |0,_,_,h,_=>by omega
 |_,0,_,_,h=>by omega
 |n+1,m+1,i,h1,h2=>by
  unfold M6;by_cases hlt:i<s.length
  ·rw[if_pos hlt,if_pos hlt];cases hw:Fq s i with
   |none=>rfl
   |some p=>obtain⟨w,e⟩:=p;obtain⟨h3,h4⟩:=Mq hlt hw;simp only;rw[Bpd s n m _ (by omega) (by omega)]
  ·rw[if_neg hlt,if_neg hlt]
theorem Bjr:∀x:Qy,Df (shQ k x)=Df x
 | .label _ _ _=>rfl
 | .var _ _=>rfl
 | .bin _ _ x y=>by simp only[shQ,Df,Bjr x,Bjr y]
 | .un _ _ _ _ x=>by simp only[shQ,Df,Bjr x]
 | .lt _ _ x y=>by simp only[shQ,Df,Bjr x,Bjr y]
 | .whole _=>rfl
end
theorem Bus(x0 x1:D):Hd C1 9 f9 (bd f9) [] [.dyn x0,.dyn x1] []=
 .bind (.agg 7 x0) fun x2=>
 .bind (.agg 7 x1) fun x3=>
 .bind (.bin .eql 3 (gc x2 0) (gc x3 0)) fun x4=>
 .ite x4 (
  .bind (.bin .eql 27 (.agg [(gc x2 2),(gc x2 3)]) (.agg [(gc x3 2),(gc x3 3)])) fun x5=>
  .ite x5 (
  .bind (.bin .eql 9 (gc x2 4) (gc x3 4)) fun x6=>
  .ite x6 (
   .bind (.bin .eql 3 (gc x2 5) (gc x3 5)) fun x7=>
   .ite x7 (
   .call 26 [] [(gc x2 6),(gc x3 6),(.func 9 [] [])] [] fun x8=>
   .leaf [x8] []) (
   .leaf [bf] [])) (
   .leaf [bf] [])) (
  .leaf [bf] [])) (
  .leaf [bf] []):=by kernel_rfl
theorem Bva(x0 x1:D):Hd C1 26 Tryz.f26 (bd Tryz.f26) [] [.dyn x0,.dyn x1,.lit (.func 9 [] [])] []=
 .bind (.ln 28 x0) fun x2=>
 .bind (.ln 28 x1) fun x3=>
 .bind (.bin .neq 3 x2 x3) fun x4=>
 .ite x4 (
  .leaf [bf] []) (
  .bind (.ln 28 x0) fun x5=>
  .loop 0 0 [bf,i0] (Ca [fun x6=>
  .bind (.bin .lss 3 (hv x6 1) x5) fun x7=>
  .ite x7 (
   .bind (.ia 28 x0 (hv x6 1)) fun x8=>
   .bind (.ld 30 x8) fun x9=>
   .bind (.agg 7 x9) fun x10=>
   .chk (cl x10 7) (
   .bind (.ia 28 x1 (hv x6 1)) fun x11=>
   .bind (.ld 30 x11) fun x12=>
   .bind (.agg 7 x12) fun x13=>
   .chk (cl x13 7) (
   .call 9 [] [(.agg (cl x10 7)),(.agg (cl x13 7))] [] fun x14=>
   .bind (.un .not x14) fun x15=>
   .ite x15 (
   .leaf [bf] []) (
   .bind (.bin .add 3 (hv x6 1) i1) fun x16=>
   .again 0 0 [(hv x6 0),x16])))) (
   .leaf [bt] [])])):=by kernel_rfl
def Bc5:Qy→Int × Bool × List UInt8 × List UInt8 × Int
 | .label _ r ln=>(1,r,ln,[],0)
 | .var _ nm=>(2,false,[],nm,0)
 | .bin k _ _ _=>(k,false,[],[],0)
 | .un k _ nm n _=>(k,false,[],nm,n)
 | .lt _ nm _ _=>(12,false,[],nm,0)
 | .whole _=>(13,false,[],[],0)
theorem Bs2(x:Qy):Br x=qc (Bc5 x).1 (atQ x) (Bc5 x).2.1 (Bc5 x).2.2.1 (Bc5 x).2.2.2.1 (Bc5 x).2.2.2.2 (.sl ((L9 x).map Br) .none):=by cases x<;>rfl
def eqQ:Qy→Qy→Bool
 | .label a r ln,y=>(Bc5 (.label a r ln) == Bc5 y) && (match L9 y with
  | []=>true
  |_=>false)
 | .var a nm,y=>(Bc5 (.var a nm) == Bc5 y) && (match L9 y with
  | []=>true
  |_=>false)
 | .whole a,y=>(Bc5 (.whole a) == Bc5 y) && (match L9 y with
  | []=>true
  |_=>false)
 | .bin k a x1 x2,y=>(Bc5 (.bin k a x1 x2) == Bc5 y) && (match L9 y with
  | [y1,y2]=>eqQ x1 y1 && (eqQ x2 y2 && true)
  |y1::_=>eqQ x1 y1 && false
  |_=>false)
 | .lt a nm x1 x2,y=>(Bc5 (.lt a nm x1 x2) == Bc5 y) && (match L9 y with
  | [y1,y2]=>eqQ x1 y1 && (eqQ x2 y2 && true)
  |y1::_=>eqQ x1 y1 && false
  |_=>false)
 | .un k a nm n x1,y=>(Bc5 (.un k a nm n x1) == Bc5 y) && (match L9 y with
  | [y1]=>eqQ x1 y1 && true
  |y1::_=>eqQ x1 y1 && false
  |_=>false)
def Bmh:List Qy→List Qy→Bool
 | [],[]=>true
 |x::l,y::m=>eqQ x y && Bmh l m
 |_,_=>false
theorem Bpi:∀{l m:List Qy},l.length≠m.length→Bmh l m=false
 | [],[],h=>absurd rfl h
 | [],_::_,_=>rfl
 |_::_,[],_=>rfl
 |x::l,y::m,h=>by unfold Bmh;rw[Bpi (l:=l) (m:=m) (by simpa using h),Bool.and_false]
theorem Bc7(x y:Qy):eqQ x y=((Bc5 x == Bc5 y) && Bmh (L9 x) (L9 y)):=by
 have hy:(L9 y= [])∨(∃a,L9 y= [a])∨∃a b,L9 y= [a,b]:=by cases y<;>simp[L9]
 cases x<;>unfold eqQ<;>rcases hy with h|⟨a,h⟩|⟨a,b,h⟩<;>rw[h]<;>simp[L9,Bmh]
theorem Bos:∀{x y:Qy},shQ (fun _=>0) x=shQ (fun _=>0) y→eqQ x y=true
 | .label _ _ _,y,h=>by cases y<;>simp[shQ]at h;obtain⟨rfl,rfl⟩:=h;simp[eqQ,Bc5,L9]
 | .var _ _,y,h=>by cases y<;>simp[shQ]at h;subst h;simp[eqQ,Bc5,L9]
 | .whole _,y,h=>by cases y<;>simp[shQ]at h;simp[eqQ,Bc5,L9]
 | .bin _ _ x1 x2,y,h=>by cases y<;>simp[shQ]at h;obtain⟨rfl,h1,h2⟩:=h;simp[eqQ,Bc5,L9,Bos h1,Bos h2]
 | .lt _ _ x1 x2,y,h=>by cases y<;>simp[shQ]at h;obtain⟨rfl,h1,h2⟩:=h;simp[eqQ,Bc5,L9,Bos h1,Bos h2]
 | .un _ _ _ _ x1,y,h=>by cases y<;>simp[shQ]at h;obtain⟨rfl,rfl,rfl,h1⟩:=h;simp[eqQ,Bc5,L9,Bos h1]
def Btm(b c:Bool):Option Bool:=match b with
 |true=>(match c with
  |true=>some true
  |false=>some false)
 |false=>some false
theorem Brl{b c:Bool}:Btm b c=some (b && c):=by cases b<;>cases c<;>rfl
theorem Bsx(r s:Bool)(l m:List UInt8):eqD prog 27 (.agg [.bool r,.str l]) (.agg [.bool s,.str m])=Btm (r == s) (l == m):=by kernel_rfl
theorem Bql(r s:Bool)(l m:List UInt8):(Av.bin .eql 27 (.agg [.bool r,.str l]) (.agg [.bool s,.str m])).sem prog=some (.bool ((r == s) && (l == m))):=by simp only[Av.sem,Bo,Bsx,Brl,Option.map_some]
theorem Bqi{l m:List Qy}{i:Nat}{y z:Qy}(hy:l[i]?=some y)(hz:m[i]?=some z):Bmh (l.drop i) (m.drop i)=(eqQ y z && Bmh (l.drop (i+1)) (m.drop (i+1))):=by obtain⟨h1,h2⟩:=List.getElem?_eq_some_iff.1 hy;obtain⟨h3,h4⟩:=List.getElem?_eq_some_iff.1 hz;rw[List.drop_eq_getElem_cons h1,List.drop_eq_getElem_cons h3,h2,h4];rfl
theorem Brc{l m:List Qy}(h:l.length=m.length):Bmh (l.drop l.length) (m.drop l.length)=true:=by rw[List.drop_length,h,List.drop_length];rfl
section
variable{cf:Ah}{N:Nat}(hK:∀f,Ba (cf f))
include hK
theorem Buk(l m:List Qy)(hl:l.length≤2)(hN:1000<N)(h17:∀x∈l,∀y∈m,Ao cf 9 [.agg (Br x),.agg (Br y)] (.bool (eqQ x y))):
  Ao (run C1 cf N) 26 [.sl (l.map Br) .none,.sl (m.map Br) .none,.func 9 [] []] (.bool (Bmh l m)):=by
 refine run_pure hK func26 bdy rfl rfl rfl (hs:= []) (args:= [.dyn (.sl (l.map Br) .none),.dyn (.sl (m.map Br) .none),.lit (.func 9 [] [])]) rfl ?_;rw[Bva];show wp prog cf N _ _ _;simp only[Aa,Ahj,List.length_map,Nn,Ac];by_cases hlen:l.length=m.length
 ·rw[show((l.length:Int) !=(m.length:Int))=false from by simp[hlen]]
  simp only[BF];refine wp_loop (fun n a ds=>a=0∧∃(i:Nat) (x:D),ds= [x,.int .i64 (i:Int)]∧i≤l.length∧n=l.length - i∧Bmh (l.drop i) (m.drop i)=Bmh l m) l.length (by omega) ⟨rfl,0,_,rfl,Nat.zero_le _,rfl,rfl⟩ ?_
  rintro n a ds ⟨rfl,i,x,rfl,hi,rfl,he⟩;simp only[Ca,hv,tails,List.tail_cons,List.headD_cons,Aa,Da,Vz,Ac];by_cases hlt:i<l.length
  ·obtain⟨y,hy⟩:∃y,l[i]?=some y:=⟨_,List.getElem?_eq_getElem hlt⟩;obtain⟨z,hz⟩:∃z,m[i]?=some z:=⟨_,List.getElem?_eq_getElem (by omega)⟩
   simp only[hlt,decide_true,if_true,Amw hy,Amw hz,Anv,Hl,Aa,Ae,Hm];refine⟨Kq y,Kq z,?_⟩;refine Aw (bs:= [.agg (Br y),.agg (Br z)]) (by simp[Eb,Md]) (h17 y (List.mem_of_getElem? hy) z (List.mem_of_getElem? hz)) ?_
   have hd:=Bqi hy hz;simp only[Aa,K5,Ac];cases hb:eqQ y z with
   |false=>simp only[Bool.not_false,if_true,Ab];rw[← he,hd,hb];exact Bf rfl
   |true=>
    simp only[Bool.not_true,BF,Aa,Bt,wrapN (show i<1000000 by omega),Az]
    refine⟨l.length - (i+1),by omega,rfl,i+1,x,rfl,hlt,rfl,?_⟩
    rw[← he,hd,hb,Bool.true_and]
  ·have hie:i=l.length:=by omega
   subst hie;simp only[hlt,decide_false,BF,Ab];rw[← he,Brc hlen];exact Bf rfl
 ·rw[show((l.length:Int) !=(m.length:Int))=true from by rw[bne_iff_ne];omega]
  simp only[if_true,Ab];rw[Bpi hlen];exact Bf rfl
theorem Buu(x y:Qy)(h43:Ao cf 26 [.sl ((L9 x).map Br) .none,.sl ((L9 y).map Br) .none,.func 9 [] []] (.bool (Bmh (L9 x) (L9 y)))):Ao (run C1 cf N) 9 [.agg (Br x),.agg (Br y)] (.bool (eqQ x y)):=by
 refine Cg hK func9 bdy rfl rfl rfl (Bus _ _) ?_;rw[Bc7];simp only[Aa,Hl];rw[Bs2 x,Bs2 y];generalize Bc5 x=kx;generalize Bc5 y=ky;obtain⟨k,r,ln,nm,n⟩:=kx;obtain⟨k',r',ln',nm',n'⟩:=ky;obtain⟨g0,g1,g2,g3,g4,g5,g6⟩:= @Al7 k (atQ x) r ln nm n (.sl ((L9 x).map Br) .none);obtain⟨f0,f1,f2,f3,f4,f5,f6⟩:= @Al7 k' (atQ y) r' ln' nm' n' (.sl ((L9 y).map Br) .none);rw[show((k,r,ln,nm,n) == (k',r',ln',nm',n'))=((k == k') && ((r == r') && ((ln == ln') && ((nm == nm') && (n == n')))))from rfl];simp only[g0,g2,g3,g4,g5,g6,f0,f2,f3,f4,f5,f6,En,Di,Bql,Ac];cases k == k' with
 |false=>simp only[BF,Ab];exact Bf rfl
 |true=>
 simp only[if_true,Aa,Bql,Di,En,Ac];cases r == r' with
 |false=>simp only[Bool.false_and,BF,Ab];exact Bf rfl
 |true=>
 cases ln == ln' with
 |false=>simp only[Bool.and_false,BF,Ab];exact Bf rfl
 |true=>
 simp only[Bool.and_self,if_true,Aa,Di,En,Ac];cases nm == nm' with
 |false=>simp only[BF,Ab];exact Bf rfl
 |true=>
 simp only[if_true,Aa,En,Ac];cases n == n' with
 |false=>simp only[BF,Ab];exact Bf rfl
 |true=>
 simp only[if_true];refine Aw (bs:= [.sl ((L9 x).map Br) .none,.sl ((L9 y).map Br) .none,.func 9 [] []]) rfl h43 ?_;simp only[Ab,Bool.true_and];exact Bf rfl
end
section
variable{L:Nat}{may:List UInt8→Bool}{gn:List UInt8→Int × Bool}
def Bn(L:Nat)(s:PS):Prop:=(∀w∈s.ws,w.at_≤L)∧∀b,s.bad=some b→b≤L
theorem Bn.hd{s:PS}(h:Bn L s):(Cn L s.ws).at_≤L:=by
 cases hs:s.ws with
 |nil=>exact Nat.le_refl L
 |cons w ws=>exact h.1 w (by rw[hs];simp)
theorem Bn.tail{s:PS}(h:Bn L s):Bn L ⟨s.ws.tail,s.bad⟩:=⟨fun w hw=>h.1 w (List.mem_of_mem_tail hw),h.2⟩
theorem Bn.fails{s:PS}(h:Bn L s):Bn L (Hf L s):=by
 refine⟨h.1,fun b hb=>?_⟩;unfold Hf at hb;cases hs:s.bad with
 |none=>rw[hs]at hb;cases hb;exact h.hd
 |some c=>rw[hs]at hb;cases hb;exact h.2 _ hs
theorem Bn.must{s:PS}{K:Int}{tx:List UInt8}(h:Bn L s):Bn L (A8 L s K tx):=by
 unfold A8;split
 ·exact h.tail
 ·exact h.fails
theorem Bn.next{s:PS}{K:Int}{m:List UInt8→Bool}(h:Bn L s):Bn L (Bb L s K m).2:=by
 unfold Bb;split
 ·exact h.tail
 ·exact h.fails
theorem Bn.num{s:PS}{gn:List UInt8→Int × Bool}(h:Bn L s):Bn L (Zk L gn s).2:=Bn.next h
end
theorem Bvm(hK:∀n f,Ba (CF n f)):∀(n m:Nat) (x y:Qy),Df x≤n→Ao (CF (m+2*n)) 9 [.agg (Br x),.agg (Br y)] (.bool (eqQ x y))
 |0,m,x,y,h=>absurd (Xv x) (by omega)
 |n+1,m,x,y,h=>pS rfl (Buu (hK _) x y (pS rfl (Buk (hK _) (L9 x) (L9 y) (Aco x) (by decide) fun a ha b hb=>by have hd:=Ms x;have:Df a≤dmax (L9 x):=Ah4 ha;exact Bvm hK n m a b (by omega))))
theorem Bvi(x y:Qy)(st:St):Cw st [.agg (Br x),.agg (Br y)]=some ([.agg (Br x),.agg (Br y)],st):=by have h1:frz Gu st (.agg (Br x))=some (.agg (Br x),st):=Ait (Md x);have h2:frz Gu st (.agg (Br y))=some (.agg (Br y),st):=Ait (Md y);unfold Cw;simp[Eu,h1,h2]
section
variable{st:St}
theorem ln1(a:Obj):(st++ [a]).length=st.length+1:=by simp
theorem ln2(a b:Obj):(st++ [a,b]).length=st.length+2:=by simp
theorem ln3(a b c:Obj):(st++ [a,b,c]).length=st.length+3:=by simp
theorem ap2(a b:Obj):st++ [a]++ [b]=st++ [a,b]:=by simp
theorem ap3(a b c:Obj):st++ [a,b]++ [c]=st++ [a,b,c]:=by simp
theorem ap4(a b c d:Obj):st++ [a,b,c]++ [d]=st++ [a,b,c,d]:=by simp
theorem Btk{cs z:List D}{os:List Obj}(hz:z.length=7)(h:cs.length=7)(h2:cs.all Al=true):I4 prog 30 (.ptr st.length 0) (.agg cs) (st++ .cells z::os)=some (.undef,st++ .cells cs::os,[st.length]):=by unfold I4;simp[Wp,h,h2,hz,D.cells,List.set_append]
theorem Btp{c a:Int}{z:List D}{o:Obj}{os:List Obj}(hz:z.length=2):I4 prog 33 (.ptr (st.length+1) 0) (.agg [.int .i64 c,.int .i64 a]) (st++o:: .cells z::os)=some (.undef,st++o:: .cells [.int .i64 c,.int .i64 a]::os,[st.length+1]):=by unfold I4;simp[Boc,hz,D.cells,Al,List.getElem?_append_right,List.set_append_right]
theorem Btn{cs z:List D}{o p:Obj}{os:List Obj}(hz:z.length=7)(h:cs.length=7)(h2:cs.all Al=true):I4 prog 30 (.ptr (st.length+2) 0) (.agg cs) (st++o::p:: .cells z::os)=some (.undef,st++o::p:: .cells cs::os,[st.length+2]):=by unfold I4;simp[Wp,h,h2,hz,D.cells,List.getElem?_append_right,List.set_append_right]
theorem Btq{c a:Int}{z:List D}{o p q:Obj}{os:List Obj}(hz:z.length=2):I4 prog 33 (.ptr (st.length+3) 0) (.agg [.int .i64 c,.int .i64 a]) (st++o::p::q:: .cells z::os)=some (.undef,st++o::p::q:: .cells [.int .i64 c,.int .i64 a]::os,[st.length+3]):=by unfold I4;simp[Boc,hz,D.cells,Al,List.getElem?_append_right,List.set_append_right]
theorem Bs4{c a:Int}{o:Obj}{os:List Obj}:Fp prog 31 (.ptr (st.length+1) 0) (st++o:: .cells [.int .i64 c,.int .i64 a]::os)=some (.int .i64 c,.rd [st.length+1]):=by unfold Fp Dk;simp[Bo2,Bpj,List.getElem?_append_right]
theorem Bs5{c a:Int}{o p q:Obj}{os:List Obj}:Fp prog 31 (.ptr (st.length+3) 0) (st++o::p::q:: .cells [.int .i64 c,.int .i64 a]::os)=some (.int .i64 c,.rd [st.length+3]):=by unfold Fp Dk;simp[Bo2,Bpj,List.getElem?_append_right]
theorem Bvj{cs:List D}{os:List Obj}(h:cs.length=7):Fp prog 30 (.ptr st.length 0) (st++ .cells cs::os)=some (.agg cs,.rd [st.length]):=by unfold Fp Dk;simp[Wp,Bb3,h];rw[List.take_of_length_le (by omega)]
theorem Bu6{cs:List D}{o p:Obj}{os:List Obj}(h:cs.length=7):Fp prog 30 (.ptr (st.length+2) 0) (st++o::p:: .cells cs::os)=some (.agg cs,.rd [st.length+2]):=by unfold Fp Dk;simp[Wp,Bb3,h,List.getElem?_append_right];rw[List.take_of_length_le (by omega)]
end
theorem Br2{a:Int}{n:Nat}(h:a≤1000000)(h2: -1000000≤a)(hn:n≤1000000):Bo prog .add 3 (.int .i64 a) (.int .i64 (n:Int))=some (.int .i64 (a+n)):=by show some (D.int .i64 (IntKind.i64.wrap (a+(n:Int))))=_;rw[Go.IntWalk.i64_in _ (by omega)]
end Go.Vam
