/- Part. -/
import Derived.Test.YtiobopjhbneieaaGreatDoorVag
set_option linter.unusedVariables false
noncomputable section
namespace Go.Vam
section
variable{C:Eo}{hh:Bool}{od:Nat→Option (List Nat × Bool)}{cf:Ah}{N:Nat}{Pw:Nat→Prop}
structure ExO(C:Eo)(hh:Bool)(od:Nat→Option (List Nat × Bool))(cf:Ah)(N:Nat)(Pw:Nat→Prop)(c:Code)(e:Env)(st:St)(Q:Ex→Env→St→Prop):Prop where
 ex:∃x e' st' V,exec C hh od cf N c e st=some (x,e',st',V)∧(∀id∈V,Pw id)∧Q x e' st'
variable{e:Env}{st st':St}{Q:Ex→Env→St→Prop}{R:Env→St→Prop}{ops:Array Oper}{l:List Nat}
theorem Bj8{c:Code}(h:ExO C hh od cf N Pw (strip c) e st Q):ExO C hh od cf N Pw c e st Q:=by obtain⟨x,e',st',V,h1,h2⟩:=h.ex;rw[Am8]at h1;exact⟨x,e',st',V,h1,h2⟩
theorem Awr(h:Q .norm e st):ExO C hh od cf N Pw .skip e st Q:=⟨⟨_,_,_,_,rfl,by simp,h⟩⟩
theorem Avq{id:Nat}(h:Q (.exit id) e st):ExO C hh od cf N Pw (.exit id) e st Q:=⟨⟨_,_,_,_,rfl,by simp,h⟩⟩
theorem Ay7(h:Q .ret e st):ExO C hh od cf N Pw .ret e st Q:=⟨⟨_,_,_,_,rfl,by simp,h⟩⟩
theorem A00{a b:Code}(h:ExO C hh od cf N Pw a e st (fun x e1 st1=>match x with| .norm=>ExO C hh od cf N Pw b e1 st1 Q|x=>Q x e1 st1)):ExO C hh od cf N Pw (.seq a b) e st Q:=by
 obtain⟨x,e1,st1,V,h1,h2,h3⟩:=h.ex;cases x with
 |norm=>obtain⟨y,e2,st2,W,h4,h5,h6⟩:=h3.ex;refine⟨⟨y,e2,st2,Dj W V,?_,fun id hid=>(Cm.1 hid).elim (h5 id) (h2 id),h6⟩⟩;unfold exec;rw[h1];dsimp only;rw[h4]
 |exit id=>refine⟨⟨_,e1,st1,V,?_,h2,h3⟩⟩;unfold exec;rw[h1]
 |ret=>refine⟨⟨_,e1,st1,V,?_,h2,h3⟩⟩;unfold exec;rw[h1]
theorem Ak5{c:Operand}{a b:Code}(hc:ev e c= .bool true)(h:ExO C hh od cf N Pw a e st Q):ExO C hh od cf N Pw (.cond c a b) e st Q:=by obtain⟨x,e1,st1,V,h1,h2,h3⟩:=h.ex;refine⟨⟨x,e1,st1,V,?_,h2,h3⟩⟩;unfold exec;rw[hc];exact h1
theorem Afn{c:Operand}{a b:Code}(hc:ev e c= .bool false)(h:ExO C hh od cf N Pw b e st Q):ExO C hh od cf N Pw (.cond c a b) e st Q:=by obtain⟨x,e1,st1,V,h1,h2,h3⟩:=h.ex;refine⟨⟨x,e1,st1,V,?_,h2,h3⟩⟩;unfold exec;rw[hc];exact h1
theorem Asu{id:Nat}{b:Code}(h:ExO C hh od cf N Pw b e st (fun x e1 st1=>match x with| .exit i=>Q (if i=id then .norm else .exit i) e1 st1|x=>Q x e1 st1)):ExO C hh od cf N Pw (.block id b) e st Q:=by
 obtain⟨x,e1,st1,V,h1,h2,h3⟩:=h.ex;cases x with
 |exit i=>refine⟨⟨_,e1,st1,V,?_,h2,h3⟩⟩;unfold exec;rw[h1]
 |norm=>refine⟨⟨_,e1,st1,V,?_,h2,h3⟩⟩;unfold exec;rw[h1]
 |ret=>refine⟨⟨_,e1,st1,V,?_,h2,h3⟩⟩;unfold exec;rw[h1]
theorem A5r{id:Nat}(h:Adn C hh cf Pw ops (List.range ops.size) e st (fun e' st'=>Q .norm e' st')):ExO C hh od cf N Pw (.region id ops false) e st Q:=by
 obtain⟨e',st',V,h1,h2,h3⟩:=h.ex [] (by simp)
 refine⟨⟨.norm,e',st',V,?_,h2,h3⟩⟩;unfold exec region;simp only[BF];rw[h1]
theorem Awv{b:Code}(I:Nat→Env→St→Prop)(k:Nat)(hk:k<N)(hI:I k e st)
  (step:∀k e st,I k e st→ExO C hh od cf N Pw b e st (fun x e' st'=>match x with| .norm=>∃k',k'<k∧I k' e' st'|x=>Q x e' st')):ExO C hh od cf N Pw (.loop b) e st Q:=
 ⟨Aie I (fun k e st h=>(step k e st h).ex) N k e st [] hk hI (by simp)⟩
theorem Bkx{id:Nat}(h:Ph C hh cf Pw ops 0 e st (fun e' st'=>Q .norm e' st')):ExO C hh od cf N Pw (.region id ops false) e st Q:=by refine A5r ?_;rw[List.range_eq_range'];exact h.ex
theorem Aen(ops:Array Oper)(B:Array Nat):∀(l:List Nat) (lg:Rh) (e:Env) (st:St) (W:Cb),Ay C hh cf true (ops.map Dl) B l lg e st W=Ay C hh cf true ops B l lg e st W
 | [],lg,e,st,W=>rfl
 |i::l,lg,e,st,W=>by
  unfold Ay;rw[Array.getElem?_map];cases ho:ops[i]? with
  |none=>rfl
  |some o=>
   simp only[Option.map_some,Anc];have h1:loud (Dl o)=loud o:=rfl;have h2:Af C.P hh (Dl o) (ev e) st=Af C.P hh o (ev e) st:=rfl;have h3:Bj C hh cf (Dl o) (ev e) st=Bj C hh cf o (ev e) st:=rfl;have h4:(Dl o).dst=o.dst:=rfl;rw[h1,h2,h3,h4];cases Ct o ops e with
   |none=>rfl
   |some b=>
    cases b with
    |false=>exact Aen ops B l _ _ _ _
    |true=>
     dsimp only;split
     ·cases Bj C hh cf o (ev e) st with
      |none=>rfl
      |some p=>obtain⟨v,st',V⟩:=p;dsimp only;rw[Aen ops B l _ _ _ _]
     ·cases Af C.P hh o (ev e) st with
      |none=>rfl
      |some p=>obtain⟨v,fx⟩:=p;exact Aen ops B l _ _ _ _
structure As0(C:Eo)(hh:Bool)(cf:Ah)(Pw:Nat→Prop)(ops:Array Oper)(B:Array Nat)(l:List Nat)(lg:Rh)(e:Env)(st:St)(R:Env→St→Prop):Prop where
 ex:∀W:Cb,(∀id∈W,Pw id)→∃e' st' V,Ay C hh cf true ops B l lg e st W=some (e',st',V)∧(∀id∈V,Pw id)∧R e' st'
variable{B:Array Nat}{lg:Rh}
theorem Blb{id:Nat}{l:List Nat}{F:Array Nat→Prop}(hod:od id=some (l,false))(hF:F (Region.before ops))
  (h:∀B,F B→As0 C hh cf Pw (ops.map Dl) B l [] e st (fun e' st'=>Q .norm e' st')):ExO C hh od cf N Pw (.region id ops true) e st Q:=by
 obtain⟨e',st',V,h1,h2,h3⟩:=(h _ hF).ex [] (by simp)
 rw[Aen]at h1;refine⟨⟨.norm,e',st',V,?_,h2,h3⟩⟩;unfold exec region;rw[if_pos rfl,hod];dsimp only;rw[h1]
theorem Blh(h:R e st):As0 C hh cf Pw ops B [] lg e st R:=⟨fun W hW=>⟨e,st,W,rfl,hW,h⟩⟩
theorem Bmg{i:Nat}{l:List Nat}{o:Oper}{v:D}{ids:Cb}(ho':ops.toList[i]?=some o)(hw:Ct o ops e=some true)(hl:loud o=false)(hq:Af C.P hh o (ev e) st=some (v,.rd ids))
  (h:As0 C hh cf Pw ops B l (ids.map (fun id=>(i,id))++lg) (Am e o.dst v) st R):As0 C hh cf Pw ops B (i::l) lg e st R:=⟨fun W hW=>by
 have ho:ops[i]?=some o:=by rw[← Array.getElem?_toList];exact ho'
 obtain⟨e',st',V,h1,h2⟩:=h.ex W hW;refine⟨e',st',V,?_,h2⟩;unfold Ay;rw[ho];dsimp only;rw[hw];dsimp only;rw[hl,hq];simp only[BF];exact h1⟩
theorem Bmr{i:Nat}{l:List Nat}{o:Oper}{v:D}{ob:Obj}(ho':ops.toList[i]?=some o)(hw:Ct o ops e=some true)(hl:loud o=false)(hq:Af C.P hh o (ev e) st=some (v,.al ob))
  (h:As0 C hh cf Pw ops B l ((i,st.length)::lg) (Am e o.dst v) (st++ [ob]) R):As0 C hh cf Pw ops B (i::l) lg e st R:=⟨fun W hW=>by
 have ho:ops[i]?=some o:=by rw[← Array.getElem?_toList];exact ho'
 obtain⟨e',st',V,h1,h2⟩:=h.ex W hW;refine⟨e',st',V,?_,h2⟩;unfold Ay;rw[ho];dsimp only;rw[hw];dsimp only;rw[hl,hq];simp only[BF];exact h1⟩
theorem Bmu{i:Nat}{l:List Nat}{o:Oper}{v:D}{V:Cb}(ho':ops.toList[i]?=some o)(hw:Ct o ops e=some true)(hl:loud o=true)(hs:Bj C hh cf o (ev e) st=some (v,st',V))(hV:∀id∈V,Pw id)(hc:clash B i lg V=false)
  (h:As0 C hh cf Pw ops B l lg (Am e o.dst v) st' R):As0 C hh cf Pw ops B (i::l) lg e st R:=⟨fun W hW=>by
 have ho:ops[i]?=some o:=by rw[← Array.getElem?_toList];exact ho'
 obtain⟨e',st2,V2,h1,h2⟩:=h.ex (Dj V W) (fun id hid=>(Cm.1 hid).elim (hV id) (hW id));refine⟨e',st2,V2,?_,h2⟩;unfold Ay;rw[ho];dsimp only;rw[hw];dsimp only;rw[hl,hs];simp only[hc,Bool.and_false,BF,if_true];exact h1⟩
theorem Awl{i:Nat}{V:Cb}(h:∀q∈lg,q.2∈V→(maskAt B i).testBit q.1=true):clash B i lg V=false:=by unfold clash;rw[List.any_eq_false];intro q hq;simp only[Bool.and_eq_true,List.contains_iff_mem,Bool.not_eq_true',not_and,Bool.not_eq_false];exact h q hq
end
inductive S where
 |bot
 |lit(d:D)
 |dyn(d:D)
 |ptr(j off:Nat)
 |eptr(l:List S)
 |agg(l:List S)
 |tup(l:List S)
 |sl(rows:List (List S))(ex:Bool)
 |tok(a:D)(j g:Nat)
 |func(f:FuncId)(x y:List S)
instance:Inhabited S:=⟨.bot⟩
inductive SO where
 |junk
 |cells(l:List S)
 |tok(g:Nat)
instance:Inhabited SO:=⟨.junk⟩
mutual
def Ef:S→Option D
 | .lit d| .dyn d=>some d
 | .eptr l=>(Ml l).map .eptr
 | .agg l=>(Ml l).map .agg
 | .tup l=>(Ml l).map .tup
 | .sl rows ex=>(Z0 rows).map fun r=> .sl r (if ex then .exact else .none)
 | .func f a b=>match Ml a,Ml b with
  |some a,some b=>some (.func f a b)
  |_,_=>none
 |_=>none
def Ml:List S→Option (List D)
 | []=>some []
 |s::l=>match Ef s,Ml l with
  |some d,some ds=>some (d::ds)
  |_,_=>none
def Z0:List (List S)→Option (List (List D))
 | []=>some []
 |s::l=>match Ml s,Z0 l with
  |some d,some ds=>some (d::ds)
  |_,_=>none
end
def Aim:S→Option D
 | .tok a _ _=>some a
 |s=>Ef s
def Wh:S→Option D
 | .agg l=>(mapS Aim l).map .agg
 |s=>Aim s
 where
 mapS (f:S→Option D):List S→Option (List D)
  | []=>some []
  |s::l=>match f s,mapS f l with
   |some d,some ds=>some (d::ds)
   |_,_=>none
def Sk:D→Option D
 | .sl r _=>some (.sl r .none)
 | .nilsl=>some (.sl [] .none)
 | .agg _| .arr .. =>none
 |d=>some d
def Jf:D→Option D
 | .agg cs=>(Eb Sk cs).map .agg
 |d=>Sk d
inductive Av where
 |bin(op:BinOp)(t:TypeId)(a b:D)
 |un(op:UnOp)(a:D)
 |pick(c a b:D)
 |conv(s d:TypeId)(x:D)
 |fa(t:TypeId)(x:D)(f:Nat)
 |fld(t:TypeId)(x:D)(f:Nat)
 |ia(t:TypeId)(x i:D)
 |idx(t:TypeId)(x i:D)
 |ln(t:TypeId)(x:D)
 |cp(t:TypeId)(x:D)
 |mn(x:D)(l:List D)
 |mx(x:D)(l:List D)
 |ld(t:TypeId)(x:D)
 |ext(x:D)(i:Nat)
 |slc(t:TypeId)(x:D)(lo hi mx:Option D)
 |agg(n:Nat)(x:D)
 |cell(x:D)
 |slim(x:D)
 |slm(x:D)
 |nilc(x:D)
 |app(t:TypeId)(s x:D)
 |app1(t:TypeId)(s x:D)
def Et:Rj→Option D
 |some (v,.rd [])=>some v
 |_=>none
def Aes:Option D→Option (Option Nat)
 |none=>some none
 |some d=>(E5 d).map some
def A6k:D→List (List D)
 | .sl r _=>r
 |_=> []
def Nf:D→Option D
 | .sl r _=>some (.sl r .none)
 | .nilsl=>some (.sl [] .none)
 | .arr .. | .agg _=>none
 |d=>some d
def Acs:D→Option D
 | .agg cs=>(Eb Nf cs).map .agg
 |d=>Nf d
def Av.sem(P:Program):Av→Option D
 | .bin op t a b=>Bo P op t a b
 | .un op a=>Gc op a
 | .pick c a b=>match c with
  | .bool true=>some a
  | .bool false=>some b
  |_=>none
 | .conv s d x=>Et (Dr P s d x [])
 | .fa t x f=>match x with
  | .eptr _=>Et (Eh P t x f)
  |_=>none
 | .fld t x f=>Et (M8 P t x f)
 | .ia t x i=>match x with
  | .sl _ _| .eptr _=>Et (Cf P t x i)
  |_=>none
 | .idx t x i=>Et (Qa P t x i)
 | .ln t x=>Et (Ny P t x [])
 | .cp t x=>Et (Ar8 P t x)
 | .mn x l=>Om Abk x l
 | .mx x l=>Om Ab0 x l
 | .ld t x=>match x with
  | .eptr cs=>Dk P t cs 0
  |_=>none
 | .ext x i=>match x with
  | .tup ds=>ds[i]?
  |_=>none
 | .slc t x lo hi m=>match Aes lo,Aes hi,Aes m with
  |some lo,some hi,some m=>if m.isSome && hi.isNone then none else match x with
   | .arr .. =>none
   |x=>Et (Lu P t x lo hi m)
  |_,_,_=>none
 | .agg n x=>match x with
  | .agg cs=>if cs.length=n then some (.agg cs)else none
  |_=>none
 | .cell x=>if Al x then some x else none
 | .slim x=>Acs x
 | .slm x=>Nf x
 | .nilc x=>match x with
  | .eptr cs=>some (.eptr cs)
  | .func f a b=>some (.func f a b)
  |_=>none
 | .app t s x=>match C8 P false t s x []with
  |some (.sl r (.tok 0 0),[.tok 0],[])=>some (.sl r .none)
  |_=>none
 | .app1 t s x=>match C8 P false t (.sl (A6k s) (.tok 0 0)) x [.tok 0]with
  |some (.sl r (.tok 0 1),[.tok 1],[0])=>some (.sl r .none)
  |_=>none
inductive Tree where
 |fail
 |leaf(rs:List D)(os:List (List D))
 |bind(p:Av)(k:D→Tree)
 |ite(c:D)(a b:Tree)
 |chk(ds:List D)(k:Tree)
 |req(l:List (D × D))(k:Tree)
 |call(f:FuncId)(a b c:List D)(k:D→Tree)
 |meth(f:FuncId)(a b c:List (Option D))(cs:List D)(k:D→List D→Tree)
 |loop(lv a0:Nat)(init:List D)(body:Nat→List D→Tree)
 |again(lv a:Nat)(vs:List D)
 |joi(t:Tree)(k:D→Tree)
def Ao(cf:Ah)(f:FuncId)(xs:List D)(v:D):Prop:=∀st,cf f xs st=some (v,st,[])
def atP(id:Nat):Option D→D
 |none=> .ptr id 0
 |some d=>d
def Acn(cf:Ah)(f:FuncId)(xs:List (Option D))(cs:List D)(v:D)(cs':List D):Prop:=
 ∀st id,st[id]?=some (.cells cs)→∃W,cf f (xs.map (atP id)) st=some (v,st.set id (.cells cs'),W)∧∀i∈W,i=id
def Bcg:Option D→Option (Option D)
 |none=>some none
 |some d=>(Jf d).map some
def Agq:List (Option D)→Option (List (Option D))
 | []=>some []
 |d::l=>match Bcg d,Agq l with
  |some d,some l=>some (d::l)
  |_,_=>none
section
variable(P:Program)(cf:Ah)(N:Nat)
def wp:(List D→List (List D)→Prop)→Tree→List (Nat→List D→Prop)→Prop
 |_,.fail,_=>False
 |LQ,.leaf rs os,_=>LQ rs os
 |LQ,.bind p k,J=>∃d,p.sem P=some d∧wp LQ (k d) J
 |LQ,.ite c a b,J=>∃t,c= .bool t∧(t=true→wp LQ a J)∧(t=false→wp LQ b J)
 |LQ,.chk ds k,J=>ds.all Al=true∧wp LQ k J
 |LQ,.req l k,J=>(∀p∈l,p.1=p.2)∧wp LQ k J
 |LQ,.call f a b c k,J=>∃bs v,Eb Jf b=some bs∧Ao cf f (a++bs++c) v∧wp LQ (k v) J
 |LQ,.meth f a b c cs k,J=>∃bs v cs',Agq b=some bs∧Acn cf f (a++bs++c) cs v cs'∧cs'.length=cs.length∧wp LQ (k v cs') J
 |LQ,.loop lv a0 init body,J=>∃(I:Nat→Nat→List D→Prop) (n:Nat),n<N∧I n a0 init∧∀n a ds,I n a ds→wp LQ (body a ds) (J.take lv++ [fun a' ds'=>∃n',n'<n∧I n' a' ds'])
 |_,.again lv a vs,J=>match J[lv]? with
  |some R=>R a vs
  |none=>False
 |LQ,.joi t k,J=>wp (fun rs _=>∃d,rs= [d]∧wp LQ (k d) J) t []
end
def Nt(e:List S):Operand→S
 | .tmp t=>e.getD t (.lit .undef)
 | .const v=> .lit (Ak v)
 | .global _=> .lit .undef
 | .func f=> .func f [] []
def Aah(e:List S):Option Tmp→S→List S
 |some t,s=>e.set t s
 |none,_=>e
abbrev KS:=S→List SO→List Nat→List Nat→Tree
def Awm(n:Nat)(ds:List D):List S:=(List.range n).map fun i=> .dyn (ds.getD i .undef)
def A34(P:Program)(t:TypeId):Option Nat:=if Jg P t then Bw P t else none
def cellsS(ag:Option Nat)(x:S)(k:List S→Tree):Tree:=
 match x with
 | .agg l=>k l
 | .lit (.agg cs)=>k (cs.map .lit)
 | .lit d=>if Al d then k [.lit d]else .fail
 | .dyn d=>match ag with
  |some n=> .bind (.agg n d) fun d=>k (Awm n d.cells)
  |none=> .bind (.cell d) fun d=>k [.dyn d]
 | .bot| .tup _=> .fail
 |s=>k [s]
def Ap1:S→Bool
 | .lit d=>Al d
 | .bot| .agg _| .tup _=>false
 |_=>true
def Abz:List S→List D
 | []=> []
 | .dyn d::l=>d::Abz l
 |_::l=>Abz l
def A80(cs:List S)(k:Tree):Tree:=if cs.all Ap1 then(match Abz cs with| []=>k|ds=> .chk ds k)else .fail
def Afz(P:Program)(t:TypeId)(cs:List S)(off:Nat):Option S:=
 match Bw P t with
 |some n=>
  if off+n≤cs.length && (P.underlying t).isSome then
   if Jg P t then some (.agg ((cs.drop off).take n))else if n=1 then cs[off]? else none
  else none
 |none=>none
def Bfg:S→Option (List S)
 | .agg l=>some l
 | .lit (.agg cs)=>some (cs.map .lit)
 |_=>none
def Xy(P:Program)(t:TypeId)(f:Nat):Option (Nat × Nat × TypeId):=
 match P.underlying t with
 |some (.struct fs)=>match fs[f]? with
  |some fd=>match Bw P fd.type with
   |some n=>some (fd.offset,n,fd.type)
   |none=>none
  |none=>none
 |_=>none
def Ajl(place:Nat→Option (Nat × Nat × Option Nat)):List (Nat × S)→List S→(List S→Tree)→Tree
 | [],cs,k=>k cs
 |(i,v)::l,cs,k=>match place i with
  |none=> .fail
  |some (off,n,ag)=>cellsS ag v fun vs=>if vs.length=n∧off+n≤cs.length then Ajl place l (cs.take off++vs++cs.drop (off+n)) k else .fail
def Ais(x:S):Option S:=match x with
 | .sl r _=>some (.sl r false)
 | .lit d=>(Nf d).map .lit
 | .ptr .. | .eptr _| .func .. =>some x
 |_=>none
def Afe(x:S)(k:S→Tree):Tree:=match x with
 | .dyn d=> .bind (.slim d) fun d=>k (.dyn d)
 | .tok a _ _=> .bind (.slm a) fun d=>k (.dyn d)
 | .agg l=>slimL l fun l=>k (.agg l)
 | .lit (.agg cs)=>slimL (cs.map .lit) fun l=>k (.agg l)
 |x=>match Ais x with
  |some s=>k s
  |none=> .fail
 where
 slimL:List S→(List S→Tree)→Tree
  | [],k=>k []
  | .dyn d::l,k=> .bind (.slm d) fun d=>slimL l fun l=>k (.dyn d::l)
  | .tok a _ _::l,k=> .bind (.slm a) fun d=>slimL l fun l=>k (.dyn d::l)
  |s::l,k=>match Ais s with
   |some s=>slimL l fun l=>k (s::l)
   |none=> .fail
def Akh(ag:Option Nat)(sz:Nat):Nat→List (Nat × S)→(List (List S)→Tree)→Tree
 |_,[],k=>k []
 |i,(j,v)::l,k=>if j=i then Afe v fun v=>cellsS ag v fun vs=>if vs.length=sz then Akh ag sz (i+1) l fun rs=>k (vs::rs)else .fail else .fail
def Y0(e:List S):Option Operand→Option (Option D)
 |none=>some none
 |some x=>(Ef (Nt e x)).map some
def Au3:S→Option Nat
 | .lit (.int _ n)=>if 0≤n then some n.toNat else none
 |_=>none
def A6l:List S→Option Nat
 | []=>none
 | .ptr j 0::_=>some j
 |_::l=>A6l l
def Ux(j:Nat)(f:S→Option D):List S→Option (List (Option D))
 | []=>some []
 | .ptr i 0::l=>if i=j then(Ux j f l).map (none:: ·)else none
 |s::l=>match f s,Ux j f l with
  |some d,some l=>some (some d::l)
  |_,_=>none
def Aov(C:Eo)(f:FuncId)(a b c:List S)(t:List SO)(k:KS):Tree:=
 if !Dm C.P f || C.byRef.contains f then .fail
 else match A6l (a++b++c)with
  |none=>match Ml a,Wh.mapS Wh b,Ml c with
   |some a,some b,some c=> .call f a b c fun v=>k (.dyn v) t [] []
   |_,_,_=> .fail
  |some j=>match Ux j Ef a,Ux j Wh b,Ux j Ef c,t[j]? with
   |some a,some b,some c,some (.cells cs)=>match Ml cs with
    |some ds=> .meth f a b c ds fun v cs'=>k (.dyn v) (t.set j (.cells (Awm cs.length cs'))) [] [j]
    |none=> .fail
   |_,_,_,_=> .fail
def A74(P:Program)(ty:TypeId)(s x:S)(t:List SO)(k:KS):Tree:=
 match Aim x with
 |none=> .fail
 |some xd=>match s with
  | .tok a j g=>match t[j]? with
   |some (.tok g')=> .req [(.int .i64 (g:Int),.int .i64 (g':Int))] (.bind (.app1 ty a xd) fun d=>k (.tok d j (g+1)) (t.set j (.tok (g+1))) [] [j])
   |_=> .fail
  |s=>match Ef s with
   |some sd=> .bind (.app ty sd xd) fun d=>k (.tok d t.length 0) (t++ [.tok 0]) [] []
   |none=> .fail
def Ajh(C:Eo)(e:List S)(o:Oper)(t:List SO)(k:KS):Tree:=
 let P:=C.P
 match o.op with
 | .move x| .assign x=>k (Nt e x) t [] []
 | .pick c a b=>match Nt e c with
  | .lit (.bool true)=>k (Nt e a) t [] []
  | .lit (.bool false)=>k (Nt e b) t [] []
  |c=>match Ef c,Ef (Nt e a),Ef (Nt e b)with
   |some c,some a,some b=> .bind (.pick c a b) fun d=>k (.dyn d) t [] []
   |_,_,_=> .fail
 | .alloc ty=>match zeroOf P ty with
  |some cs=>k (.ptr t.length 0) (t++ [.cells (cs.map .lit)]) [t.length] []
  |none=> .fail
 | .box ty x=>cellsS (A34 P ty) (Nt e x) fun cs=>k (.ptr t.length 0) (t++ [.cells cs]) [t.length] []
 | .build ty parts=>match P.underlying ty,zeroOf P ty with
  |some (.struct fs),some z=>
   if fs.toList.all (fun f=>(Bw P f.type).isSome)then
    Ajl (fun i=>match fs[i]? with
     |some f=>(Bw P f.type).map fun n=>(f.offset,n,A34 P f.type)
     |none=>none) (parts.toList.map fun p=>(p.1,Nt e p.2)) (z.map .lit) fun cs=>k (.agg cs) t [] []
   else .fail
  |_,_=> .fail
 | .buildSlice ty len parts=>match Cx P ty with
  |none=> .fail
  |some el=>match Bw P el,zeroOf P el with
   |some sz,some z=>
    if len*sz≤2 ^ 20∧z.length=sz∧sz≠0∧parts.size=len then
     Akh (A34 P el) sz 0 (parts.toList.map fun p=>(p.1,Nt e p.2)) fun rows=>k (.sl rows true) t [] []
    else .fail
   |_,_=> .fail
 | .load ty a=>match Nt e a with
  | .ptr j off=>match t[j]? with
   |some (.cells cs)=>match Afz P ty cs off with
    |some s=>k s t [j] []
    |none=> .fail
   |_=> .fail
  | .eptr cs=>match Afz P ty cs 0 with
   |some s=>k s t [] []
   |none=> .fail
  | .dyn d=> .bind (.ld ty d) fun d=>k (.dyn d) t [] []
  |_=> .fail
 | .store ty a v=>match Nt e a with
  | .ptr j off=>match t[j]?,Bw P ty with
   |some (.cells cs),some n=>cellsS (A34 P ty) (Nt e v) fun vs=>if vs.length=n∧off+n≤cs.length then A80 vs (k (.lit .undef) (t.set j (.cells (cs.take off++vs++cs.drop (off+n)))) [] [j])else .fail
   |_,_=> .fail
  |_=> .fail
 | .nilCheck x=>match Nt e x with
  | .ptr j off=>k (.ptr j off) t [] []
  | .eptr l=>k (.eptr l) t [] []
  | .func f a b=>k (.func f a b) t [] []
  |s=>match Ef s with
   |some d=> .bind (.nilc d) fun d=>k (.dyn d) t [] []
   |none=> .fail
 | .binOp op ty x y _=>match Nt e x,Nt e y with
  | .lit a,.lit b=>match a,b with
   | .nilif,_=> .fail
   |a,b=>match Bo P op ty a b with
    |some v=>k (.lit v) t [] []
    |none=> .fail
  | .ptr ..,.lit .nilp=>match P.underlying ty,op with
   |some (.pointer _),.eql=>k (.lit (.bool false)) t [] []
   |some (.pointer _),.neq=>k (.lit (.bool true)) t [] []
   |_,_=> .fail
  |a,b=>match Ef a,Ef b with
   |some a,some b=> .bind (.bin op ty a b) fun d=>k (.dyn d) t [] []
   |_,_=> .fail
 | .unOp op _ x=>match Nt e x with
  | .lit a=>match Gc op a with
   |some v=>k (.lit v) t [] []
   |none=> .fail
  |a=>match Ef a with
   |some a=> .bind (.un op a) fun d=>k (.dyn d) t [] []
   |none=> .fail
 | .convert s d x=>match Aim (Nt e x)with
  |some a=> .bind (.conv s d a) fun d=>k (.dyn d) t [] []
  |none=> .fail
 | .makeFunc (.func f) a b=>k (.func f (a.toList.map (Nt e)) (b.toList.map (Nt e))) t [] []
 | .slice ty x lo hi mx=>match Ef (Nt e x),Y0 e lo,Y0 e hi,Y0 e mx with
  |some x,some lo,some hi,some mx=> .bind (.slc ty x lo hi mx) fun d=>k (.dyn d) t [] []
  |_,_,_,_=> .fail
 | .fieldAddr ty x f=>match Xy P ty f with
  |some (off,n,_)=>if n=0 then .fail else match Nt e x with
   | .ptr j o=>k (.ptr j (o+off)) t [] []
   | .eptr l=>k (.eptr (l.drop off)) t [] []
   | .dyn d=> .bind (.fa ty d f) fun d=>k (.dyn d) t [] []
   |_=> .fail
  |none=> .fail
 | .field ty x f=>match Xy P ty f with
  |some (off,_,ft)=>match Bfg (Nt e x)with
   |some l=>match Afz P ft l off with
    |some s=>k s t [] []
    |none=> .fail
   |none=>match Ef (Nt e x)with
    |some d=> .bind (.fld ty d f) fun d=>k (.dyn d) t [] []
    |none=> .fail
  |none=> .fail
 | .indexAddr ty x i=>match Nt e x,Au3 (Nt e i)with
  | .sl rows _,some n=>match Cx P ty,rows[n]? with
   |some el,some r=>if Bw P el=some r.length then k (.eptr r) t [] []else .fail
   |_,_=> .fail
  |s,_=>match Aim s,Ef (Nt e i)with
   |some x,some i=> .bind (.ia ty x i) fun d=>k (.dyn d) t [] []
   |_,_=> .fail
 | .index ty x i=>match Ef (Nt e x),Ef (Nt e i)with
  |some x,some i=> .bind (.idx ty x i) fun d=>k (.dyn d) t [] []
  |_,_=> .fail
 | .extract x i=>match Nt e x with
  | .tup l=>match l[i]? with
   |some s=>k s t [] []
   |none=> .fail
  |s=>match Ef s with
   |some d=> .bind (.ext d i) fun d=>k (.dyn d) t [] []
   |none=> .fail
 | .call {callee:= .builtin b,args,argTypes}=>match b,argTypes.toList,args.toList with
  | .len,ty::_,[x]=>match Aim (Nt e x)with
   |some d=> .bind (.ln ty d) fun d=>k (.dyn d) t [] []
   |none=> .fail
  | .cap,ty::_,[x]=>match Ef (Nt e x)with
   |some d=> .bind (.cp ty d) fun d=>k (.dyn d) t [] []
   |none=> .fail
  | .min,_,x::xs=>match Ef (Nt e x),Ml (xs.map (Nt e))with
   |some d,some ds=> .bind (.mn d ds) fun d=>k (.dyn d) t [] []
   |_,_=> .fail
  | .max,_,x::xs=>match Ef (Nt e x),Ml (xs.map (Nt e))with
   |some d,some ds=> .bind (.mx d ds) fun d=>k (.dyn d) t [] []
   |_,_=> .fail
  | .append,[ty,u],[s,x]=>match P.underlying u with
   |none|some (.int _)=> .fail
   |_=>A74 P ty (Nt e s) (Nt e x) t k
  |_,_,_=> .fail
 | .call {callee:= .value x,args,..}=>match Nt e x with
  | .func f a c=>Aov C f a (args.toList.map (Nt e)) c t k
  | .lit (.func f a c)=>Aov C f (a.map .lit) (args.toList.map (Nt e)) (c.map .lit) t k
  |_=> .fail
 |_=> .fail
inductive GS where
 |yes
 |no
 |bad
 |ask(t:Tmp)(d:D)(want:Bool)
def Amd(o:Oper)(ops:Array Oper)(e:List S):GS:=
 match o.guard with
 |none=> .yes
 |some (j,want)=>
  match(ops[j]?).bind (·.dst)with
  |some t=>match e[t]? with
   |some (.lit (.bool b))=>if b == want then .yes else .no
   |some (.lit (.tup []))=> .no
   |some (.dyn d)=> .ask t d want
   |_=> .bad
  |none=> .bad
def Yd(B:Array Nat)(i:Nat)(lg:List (Nat × Nat))(W:List Nat):Bool:=lg.any fun p=>W.contains p.2 && !(maskAt B i).testBit p.1
def Vo(C:Eo)(draw:Bool)(ops:Array Oper)(B:Array Nat):List Nat→List (Nat × Nat)→List S→List SO→(List S→List SO→Tree)→Tree
 | [],_,e,t,k=>k e t
 |i::is,lg,e,t,k=>
  match ops[i]? with
  |none=> .fail
  |some o=>
   let go (e:List S):Tree:=Ajh C e o t fun v t' rd wr=>if draw && Yd B i lg wr then .fail else Vo C draw ops B is (if draw then rd.map (fun j=>(i,j))++lg else lg) (Aah e o.dst v) t' k
   match Amd o ops e with
   | .yes=>go e
   | .no=>Vo C draw ops B is lg (Aah e o.dst (.lit (.tup []))) t k
   | .bad=> .fail
   | .ask tm d want=>
    let yes:=go (e.set tm (.lit (.bool want)));let no:=Vo C draw ops B is lg (Aah (e.set tm (.lit (.bool (!want)))) o.dst (.lit (.tup []))) t k
    .ite d (if want then yes else no) (if want then no else yes)
def Le:Code→List Nat
 | .region _ ops _=>ops.toList.filterMap (·.dst)
 | .seq a b=>Le a++Le b
 | .cond _ a b=>Le a++Le b
 | .block _ a=>Le a
 | .loop a=>Le a
 |_=> []
def loops:Code→Nat
 | .seq a b=>loops a+loops b
 | .cond _ a b=>loops a+loops b
 | .block _ a=>loops a
 | .loop a=>loops a+1
 |_=>0
structure Hint where
 alts:List (List Nat):= [[]]
 objs:List Nat:= []
 joins:List Nat:= []
inductive Sl where
 |keep
 |bot
 |var
 |spec
def Aqb(A:List Nat)(h:Hint)(i:Nat)(s:S):Sl:=
 if !A.contains i then .keep
 else match s with
  | .bot| .lit .undef=> .bot
  | .lit .nilsl=>if h.alts.any (fun a=>a.contains i)then .spec else .var
  | .tok .. => .spec
  |_=> .var
def gD:D→Nat
 | .int _ n=>n.toNat
 | .ptr id _=>id
 |_=>0
section
variable(A:List Nat)(h:Hint)
def mkE(al:List Nat):Nat→Nat→List S→List D→List S × List SO × List D
 |_,_,[],ds=>([],[],ds)
 |i,j,s::l,ds=>match Aqb A h i s with
  | .keep=>let r:=mkE al (i+1) j l ds;(s::r.1,r.2)
  | .bot=>let r:=mkE al (i+1) j l ds;(.bot::r.1,r.2)
  | .var=>let r:=mkE al (i+1) j l ds.tail;(.dyn (ds.headD .undef)::r.1,r.2)
  | .spec=>if al.contains i then
    let r:=mkE al (i+1) (j+1) l ds.tail.tail
    (.tok (ds.headD .undef) j (gD (ds.tail.headD .undef))::r.1,.tok (gD (ds.tail.headD .undef))::r.2.1,r.2.2)
   else let r:=mkE al (i+1) j l ds;(.lit .nilsl::r.1,r.2)
def takeD:Nat→List D→List S
 |0,_=> []
 |n+1,ds=> .dyn (ds.headD .undef)::takeD n ds.tail
def tails:Nat→List D→List D
 |0,ds=>ds
 |n+1,ds=>tails n ds.tail
def mkT(jk:List Nat):Nat→List SO→List D→List SO
 |_,[],_=> []
 |j,o::l,ds=>if jk.contains j then .junk::mkT jk (j+1) l ds
  else if h.objs.contains j then match o with
   | .cells cs=> .cells (takeD cs.length ds)::mkT jk (j+1) l (tails cs.length ds)
   |_=> .junk::mkT jk (j+1) l ds
  else o::mkT jk (j+1) l ds
def Ka(al:List Nat)(t':List SO):Nat→List S→List S→Option (List D × List Nat × List (D × D))
 |_,[],_=>some ([],[],[])
 |_,_::_,[]=>none
 |i,s::l,s'::l'=>match Aqb A h i s with
  | .keep| .bot=>Ka al t' (i+1) l l'
  | .var=>match Ef s',Ka al t' (i+1) l l' with
   |some d,some (ds,r)=>some (d::ds,r)
   |_,_=>none
  | .spec=>if al.contains i then match s' with
    | .tok a j g=>match t'[j]?,Ka al t' (i+1) l l' with
     |some (.tok g'),some (ds,js,rq)=>some (a:: .int .i64 (g:Int)::ds,j::js,(.int .i64 (g:Int),.int .i64 (g':Int))::rq)
     |_,_=>none
    |_=>none
   else match s' with
    | .lit .nilsl=>Ka al t' (i+1) l l'
    |_=>none
def eqS(s' s:S):Option (List (D × D)):=
 match s',s with
 | .ptr j o,.ptr j' o'=>if j=j'∧o=o' then some []else none
 | .tok a j g,.tok a' j' g'=>if j=j' then some [(a,a'),(.int .i64 (g:Int),.int .i64 (g':Int))]else none
 |s',s=>match Ef s',Ef s with
  |some a,some b=>some [(a,b)]
  |_,_=>none
def eqL:List S→List S→Option (List (D × D))
 | [],[]=>some []
 |s'::l',s::l=>match eqS s' s,eqL l' l with
  |some a,some b=>some (a++b)
  |_,_=>none
 |_,_=>none
def Av4:SO→SO→Option (List (D × D))
 |_,.junk=>some []
 | .cells l',.cells l=>eqL l' l
 | .tok g',.tok g=>some [(.int .i64 (g':Int),.int .i64 (g:Int))]
 |_,_=>none
def Ro(jk:List Nat):Nat→List SO→List SO→Option (List D × List (D × D))
 |_,[],_=>some ([],[])
 |_,_::_,[]=>none
 |j,o::l,o'::l'=>
  if jk.contains j then Ro jk (j+1) l l'
  else if h.objs.contains j then match o with
   | .cells cs=>match o' with
    | .cells cs'=>if cs'.length=cs.length then match Ml cs',Ro jk (j+1) l l' with
      |some ds,some (r,rq)=>some (ds++r,rq)
      |_,_=>none
     else none
    |_=>none
   |_=>Ro jk (j+1) l l'
  else match Av4 o' o,Ro jk (j+1) l l' with
   |some rq,some (r,rq')=>some (r,rq++rq')
   |_,_=>none
def Lr:Nat→List S→List Nat
 |_,[]=> []
 |i,s::l=>match Aqb A h i s with
  | .spec=>match s with
   | .tok _ j _=>j::Lr (i+1) l
   |_=>Lr (i+1) l
  |_=>Lr (i+1) l
def nodupB:List Nat→Bool
 | []=>true
 |a::l=>!l.contains a && nodupB l
def Ad4(e:List S)(t:List SO)(al:List Nat)(e':List S)(t':List SO):Option (List D × List (D × D)):=
 match Ka A h al t' 0 e e',Ro h (Lr A h 0 e) 0 t t' with
 |some (ds,js,rq),some (ds2,rq2)=>if nodupB js && js.all (fun j=>decide (t.length≤j) || (Lr A h 0 e).contains j)then some (ds++ds2,rq++rq2)else none
 |_,_=>none
def Xf(e:List S)(t:List SO)(e':List S)(t':List SO):Nat→List (List Nat)→Option (Nat × List D × List (D × D))
 |_,[]=>none
 |n,al::l=>match Ad4 A h e t al e' t' with
  |some r=>some (n,r)
  |none=>Xf e t e' t' (n+1) l
end
def Bde(l:List (D × D))(k:Tree):Tree:=match l with
 | []=>k
 |l=> .req l k
def Adw(A:List Nat)(h:Hint)(e:List S)(t:List SO)(e':List S)(t':List SO)(k:Nat→List D→Tree):Tree:=
 match Xf A h e t e' t' 0 h.alts with
 |some (a,ds,rq)=>Bde rq (k a ds)
 |none=> .fail
def Ca:List (List D→Tree)→Nat→List D→Tree
 | [],_,_=> .fail
 |f::_,0,ds=>f ds
 |_::l,n+1,ds=>Ca l n ds
def plainO(o:Oper):Bool:=match o.op with
 | .move _| .assign _| .pick .. | .nilCheck _| .binOp .. | .unOp .. | .fieldAddr .. | .field .. | .indexAddr .. | .index .. | .extract .. | .slice .. | .load .. =>true
 | .call {callee:= .builtin .len,..}=>true
 |_=>false
def Ay8(A:List Nat):Nat→List S→List S
 |_,[]=> []
 |i,s::l=>(if A.contains i then .bot else s)::Ay8 A (i+1) l
def Aol:List Oper→Option Tmp
 | []=>none
 | [o]=>o.dst
 |_::l=>Aol l
def Aqs(C:Eo)(draw:Bool)(ops:Array Oper)(B:Array Nat)(l:List Nat)(e:List S)(t:List SO)(k:List S→List SO→Tree):Tree:=
 match Aol ops.toList with
 |some x=>if ops.toList.all plainO && decide (x<e.length)then
   .joi (Vo C draw ops B l [] e t fun e' _=>match Ef (e'.getD x .bot)with
    |some d=> .leaf [d] []
    |none=> .fail) fun d=>k ((Ay8 (ops.toList.filterMap (·.dst)) 0 e).set x (.dyn d)) t
  else .fail
 |none=> .fail
section
variable(C:Eo)(od:Nat→Option (List Nat × Bool))(hs:List Hint)
def pe:Code→Nat→Nat→List S→List SO→(Ex→List S→List SO→Tree)→Tree
 | .skip,_,_,e,t,k=>k .norm e t
 | .label _,_,_,e,t,k=>k .norm e t
 | .region id ops draw,_,_,e,t,k=>
  if hs.any (fun h=>h.joins.contains id)then
   if draw then match od id with
    |some (l,true)=>Aqs C false ops #[] l e t (k .norm)
    |some (l,false)=>Aqs C true ops (Region.before ops) l e t (k .norm)
    |none=> .fail
   else Aqs C false ops #[] (List.range ops.size) e t (k .norm)
  else if draw then match od id with
   |some (l,true)=>Vo C false ops #[] l [] e t (k .norm)
   |some (l,false)=>Vo C true ops (Region.before ops) l [] e t (k .norm)
   |none=> .fail
  else Vo C false ops #[] (List.range ops.size) [] e t (k .norm)
 | .seq a b,li,lv,e,t,k=>pe a li lv e t fun x e t=>match x with
  | .norm=>pe b (li+loops a) lv e t k
  |x=>k x e t
 | .cond c a b,li,lv,e,t,k=>match Nt e c with
  | .lit (.bool true)=>pe a li lv e t k
  | .lit (.bool false)=>pe b (li+loops a) lv e t k
  | .dyn d=> .ite d (pe a li lv (Aah e (tmpOf c) (.lit (.bool true))) t k) (pe b (li+loops a) lv (Aah e (tmpOf c) (.lit (.bool false))) t k)
  |_=> .fail
 | .block id b,li,lv,e,t,k=>pe b li lv e t fun x e t=>match x with
  | .exit i=>k (if i=id then .norm else .exit i) e t
  |x=>k x e t
 | .loop b,li,lv,e,t,k=>
  let h:=hs.getD li {};let A:=Le b
  Adw A h e t e t fun a0 init=> .loop lv a0 init (Ca (h.alts.map fun al ds=>
   let r:=mkE A h al 0 t.length e ds
   pe b (li+1) (lv+1) r.1 (mkT h (Lr A h 0 e) 0 t r.2.2++r.2.1) fun x e' t'=>match x with
    | .norm=>Adw A h e t e' t' fun a vs=> .again lv a vs
    |x=>k x e' t'))
 | .exit id,_,_,e,t,k=>k (.exit id) e t
 | .ret,_,_,e,t,k=>k .ret e t
 |_,_,_,_,_,_=> .fail
 where
 tmpOf:Operand→Option Tmp
  | .tmp t=>some t
  |_=>none
end
def Ajr(P:Program)(e:List S)(t:List SO):List ResultVar→Option (List D)
 | []=>some []
 | .tmp x::l=>match Wh (e.getD x (.lit .undef)),Ajr P e t l with
  |some d,some ds=>some (d::ds)
  |_,_=>none
 | .cell a ty::l=>match e.getD a (.lit .undef)with
  | .ptr j off=>match t[j]? with
   |some (.cells cs)=>match(Afz P ty cs off).bind Wh,Ajr P e t l with
    |some d,some ds=>some (d::ds)
    |_,_=>none
   |_=>none
  |_=>none
def Ahc:Nat→List SO→Option (List (List D))
 |0,_=>some []
 |n+1,.cells l::t=>match Ml l,Ahc n t with
  |some d,some ds=>some (d::ds)
  |_,_=>none
 |_,_=>none
def Hd(C:Eo)(f:FuncId)(fn:Func)(c:Code)(hs:List Hint)(args:List S)(olds:List SO):Tree:=
 pe C (C.ords f) hs c 0 0 (args++List.replicate (fn.ntmps - args.length) (.lit .undef)) olds fun x e t=>match x with
  | .exit _=> .fail
  |_=>match Ajr C.P e t fn.results.toList,Ahc olds.length t with
   |some rs,some os=> .leaf rs os
   |_,_=> .fail
mutual
def VS(ids:List Nat):S→D→Prop
 | .bot,_=>True
 | .lit d,x=>x=d
 | .dyn d,x=>x=d
 | .ptr j off,x=>∃id,ids[j]?=some id∧x= .ptr id off
 | .eptr l,x=>∃ds,x= .eptr ds∧VL ids l ds
 | .agg l,x=>∃ds,x= .agg ds∧VL ids l ds
 | .tup l,x=>∃ds,x= .tup ds∧VL ids l ds
 | .sl rows ex,x=>∃r,x= .sl r (if ex then .exact else .none)∧VLL ids rows r
 | .tok a j g,x=>∃id r gr,ids[j]?=some id∧a= .sl r gr∧x= .sl r (.tok id g)
 | .func f a b,x=>∃u v,x= .func f u v∧VL ids a u∧VL ids b v
def VL(ids:List Nat):List S→List D→Prop
 | [],ds=>ds= []
 |s::l,ds=>∃d r,ds=d::r∧VS ids s d∧VL ids l r
def VLL(ids:List Nat):List (List S)→List (List D)→Prop
 | [],ds=>ds= []
 |s::l,ds=>∃d r,ds=d::r∧VL ids s d∧VLL ids l r
end
def Sub(ids ids':List Nat):Prop:=∀(j id:Nat),ids[j]?=some id→ids'[j]?=some id
theorem Sub.refl(ids:List Nat):Sub ids ids:=fun _ _ h=>h
theorem Sub.trans{a b c:List Nat}(h:Sub a b)(h':Sub b c):Sub a c:=fun j id p=>h' j id (h j id p)
theorem Sub.app{a b:List Nat}:Sub a (a++b):=fun j id h=>by rw[List.getElem?_append_left (List.getElem?_eq_some_iff.1 h).1];exact h
mutual
theorem VS.mono{ids ids':List Nat}(hs:Sub ids ids'):∀{s:S} {x:D},VS ids s x→VS ids' s x:=fun {s x} h=>by
 cases s with
 |bot=>trivial
 |lit d=>exact h
 |dyn d=>exact h
 |ptr j off=>obtain⟨id,h1,h2⟩:=h;exact⟨id,hs j id h1,h2⟩
 |eptr l=>obtain⟨ds,h1,h2⟩:=h;exact⟨ds,h1,VL.mono hs h2⟩
 |agg l=>obtain⟨ds,h1,h2⟩:=h;exact⟨ds,h1,VL.mono hs h2⟩
 |tup l=>obtain⟨ds,h1,h2⟩:=h;exact⟨ds,h1,VL.mono hs h2⟩
 |sl rows ex=>obtain⟨ds,h1,h2⟩:=h;exact⟨ds,h1,VLL.mono hs h2⟩
 |tok a j g=>obtain⟨id,r,gr,h1,h2⟩:=h;exact⟨id,r,gr,hs j id h1,h2⟩
 |func f a b=>obtain⟨u,v,h1,h2,h3⟩:=h;exact⟨u,v,h1,VL.mono hs h2,VL.mono hs h3⟩
theorem VL.mono{ids ids':List Nat}(hs:Sub ids ids'):∀{l:List S} {ds:List D},VL ids l ds→VL ids' l ds
 | [],_,h=>h
 |s::l,_,h=>by obtain⟨d,r,h1,h2,h3⟩:=h;exact⟨d,r,h1,VS.mono hs h2,VL.mono hs h3⟩
theorem VLL.mono{ids ids':List Nat}(hs:Sub ids ids'):∀{l:List (List S)} {ds:List (List D)},VLL ids l ds→VLL ids' l ds
 | [],_,h=>h
 |s::l,_,h=>by obtain⟨d,r,h1,h2,h3⟩:=h;exact⟨d,r,h1,VL.mono hs h2,VLL.mono hs h3⟩
end
mutual
theorem Bu{ids:List Nat}:∀{s:S} {d x:D},Ef s=some d→VS ids s x→x=d:=fun {s d x} h hv=>by
 cases s with
 |bot=>simp[Ef]at h
 |lit a=>simp only[Ef,Option.some.injEq]at h;rw[← h];exact hv
 |dyn a=>simp only[Ef,Option.some.injEq]at h;rw[← h];exact hv
 |ptr j off=>simp[Ef]at h
 |tok a j g=>simp[Ef]at h
 |eptr l=>simp only[Ef,Option.map_eq_some_iff]at h;obtain⟨ds,h1,rfl⟩:=h;obtain⟨ds',rfl,h3⟩:=hv;rw[D6 h1 h3]
 |agg l=>simp only[Ef,Option.map_eq_some_iff]at h;obtain⟨ds,h1,rfl⟩:=h;obtain⟨ds',rfl,h3⟩:=hv;rw[D6 h1 h3]
 |tup l=>simp only[Ef,Option.map_eq_some_iff]at h;obtain⟨ds,h1,rfl⟩:=h;obtain⟨ds',rfl,h3⟩:=hv;rw[D6 h1 h3]
 |sl rows ex=>simp only[Ef,Option.map_eq_some_iff]at h;obtain⟨ds,h1,rfl⟩:=h;obtain⟨ds',rfl,h3⟩:=hv;rw[Zy h1 h3]
 |func f a b=>
  simp only[Ef]at h;split at h
  ·rename_i u v h1 h2;cases h;obtain⟨u',v',rfl,h3,h4⟩:=hv;rw[D6 h1 h3,D6 h2 h4]
  ·cases h
theorem D6{ids:List Nat}:∀{l:List S} {ds xs:List D},Ml l=some ds→VL ids l xs→xs=ds
 | [],ds,xs,h,hv=>by simp only[Ml,Option.some.injEq]at h;rw[← h];exact hv
 |s::l,ds,xs,h,hv=>by
  simp only[Ml]at h;split at h
  ·rename_i d r h1 h2;cases h;obtain⟨d',r',rfl,h3,h4⟩:=hv;rw[Bu h1 h3,D6 h2 h4]
  ·cases h
theorem Zy{ids:List Nat}:∀{l:List (List S)} {ds xs:List (List D)},Z0 l=some ds→VLL ids l xs→xs=ds
 | [],ds,xs,h,hv=>by simp only[Z0,Option.some.injEq]at h;rw[← h];exact hv
 |s::l,ds,xs,h,hv=>by
  simp only[Z0]at h;split at h
  ·rename_i d r h1 h2;cases h;obtain⟨d',r',rfl,h3,h4⟩:=hv;rw[D6 h1 h3,Zy h2 h4]
  ·cases h
end
mutual
theorem Yf{ids:List Nat}:∀{s:S} {d:D},Ef s=some d→VS ids s d:=fun {s d} h=>by
 cases s with
 |bot=>simp[Ef]at h
 |lit a=>simp only[Ef,Option.some.injEq]at h;exact h.symm
 |dyn a=>simp only[Ef,Option.some.injEq]at h;exact h.symm
 |ptr j off=>simp[Ef]at h
 |tok a j g=>simp[Ef]at h
 |eptr l=>simp only[Ef,Option.map_eq_some_iff]at h;obtain⟨ds,h1,rfl⟩:=h;exact⟨ds,rfl,Hy h1⟩
 |agg l=>simp only[Ef,Option.map_eq_some_iff]at h;obtain⟨ds,h1,rfl⟩:=h;exact⟨ds,rfl,Hy h1⟩
 |tup l=>simp only[Ef,Option.map_eq_some_iff]at h;obtain⟨ds,h1,rfl⟩:=h;exact⟨ds,rfl,Hy h1⟩
 |sl rows ex=>simp only[Ef,Option.map_eq_some_iff]at h;obtain⟨ds,h1,rfl⟩:=h;exact⟨ds,rfl,Abj h1⟩
 |func f a b=>
  simp only[Ef]at h;split at h
  ·rename_i u v h1 h2;cases h;exact⟨u,v,rfl,Hy h1,Hy h2⟩
  ·cases h
theorem Hy{ids:List Nat}:∀{l:List S} {ds:List D},Ml l=some ds→VL ids l ds
 | [],ds,h=>by simp only[Ml,Option.some.injEq]at h;exact h.symm
 |s::l,ds,h=>by
  simp only[Ml]at h;split at h
  ·rename_i d r h1 h2;cases h;exact⟨d,r,rfl,Yf h1,Hy h2⟩
  ·cases h
theorem Abj{ids:List Nat}:∀{l:List (List S)} {ds:List (List D)},Z0 l=some ds→VLL ids l ds
 | [],ds,h=>by simp only[Z0,Option.some.injEq]at h;exact h.symm
 |s::l,ds,h=>by
  simp only[Z0]at h;split at h
  ·rename_i d r h1 h2;cases h;exact⟨d,r,rfl,Hy h1,Abj h2⟩
  ·cases h
end
section
variable{ids:List Nat}
theorem Y5:∀{l:List S} {ds:List D},VL ids l ds↔l.length=ds.length∧∀(i:Nat) (s:S) (d:D),l[i]?=some s→ds[i]?=some d→VS ids s d
 | [],ds=>by
  constructor
  ·intro h;rw[show ds= []from h];exact⟨rfl,fun i s d h=>by cases h⟩
  ·intro h;exact List.length_eq_zero_iff.1 h.1.symm
 |s::l,ds=>by
  constructor
  ·rintro⟨d,r,rfl,h1,h2⟩;obtain⟨h3,h4⟩:=Y5.1 h2;refine⟨by simp[h3],fun i s' d' hi hd=>?_⟩
   cases i with
   |zero=>cases hi;cases hd;exact h1
   |succ i=>exact h4 i s' d' hi hd
  ·rintro⟨h1,h2⟩;cases ds with
   |nil=>cases h1
   |cons d r=>exact⟨d,r,rfl,h2 0 s d rfl rfl,Y5.2 ⟨by simpa using h1,fun i s' d' hi hd=>h2 (i+1) s' d' hi hd⟩⟩
theorem VL.len{l:List S}{ds:List D}(h:VL ids l ds):l.length=ds.length:=(Y5.1 h).1
theorem VL.get{l:List S}{ds:List D}(h:VL ids l ds){i:Nat}{s:S}(hi:l[i]?=some s):∃d,ds[i]?=some d∧VS ids s d:=by obtain⟨h1,h2⟩:=Y5.1 h;have hlt:=(List.getElem?_eq_some_iff.1 hi).1;exact⟨ds[i]'(by omega),List.getElem?_eq_getElem _,h2 i s _ hi (List.getElem?_eq_getElem _)⟩
theorem VL.set{l:List S}{ds:List D}(h:VL ids l ds){i:Nat}{s:S}{d:D}(hs:VS ids s d):VL ids (l.set i s) (ds.set i d):=by
 obtain⟨h1,h2⟩:=Y5.1 h;refine Y5.2 ⟨by simp[h1],fun j s' d' hj hd=>?_⟩
 rw[List.getElem?_set]at hj hd;split at hj
 ·rename_i e;subst e;rw[if_pos rfl]at hd;split at hj
  ·split at hd
   ·cases hj;cases hd;exact hs
   ·cases hd
  ·cases hj
 ·rename_i e;rw[if_neg e]at hd;exact h2 j s' d' hj hd
theorem VL.append:∀{l l':List S} {ds ds':List D},VL ids l ds→VL ids l' ds'→VL ids (l++l') (ds++ds')
 | [],_,_,_,h,h'=>by rw[show _= []from h];exact h'
 |s::l,_,_,_,h,h'=>by obtain⟨d,r,rfl,h1,h2⟩:=h;exact⟨d,_,rfl,h1,VL.append h2 h'⟩
theorem VL.take:∀{l:List S} {ds:List D} (n:Nat),VL ids l ds→VL ids (l.take n) (ds.take n)
 |_,_,0,_=>rfl
 | [],_,n+1,h=>by rw[show _= []from h];rfl
 |s::l,_,n+1,h=>by obtain⟨d,r,rfl,h1,h2⟩:=h;exact⟨d,_,rfl,h1,h2.take n⟩
theorem VL.drop:∀{l:List S} {ds:List D} (n:Nat),VL ids l ds→VL ids (l.drop n) (ds.drop n)
 |_,_,0,h=>h
 | [],_,n+1,h=>by rw[show _= []from h];rfl
 |s::l,_,n+1,h=>by obtain⟨d,r,rfl,h1,h2⟩:=h;exact h2.drop n
theorem VL.lits:∀(ds:List D),VL ids (ds.map .lit) ds
 | []=>rfl
 |d::ds=>⟨d,ds,rfl,rfl,VL.lits ds⟩
theorem VL.rep(n:Nat):VL ids (List.replicate n (.lit .undef)) (List.replicate n .undef):=by
 induction n with
 |zero=>rfl
 |succ n ih=>exact⟨_,_,rfl,rfl,ih⟩
theorem VL.map{α:Type}{f:α→S}{g:α→D}(l:List α)(h:∀a∈l,VS ids (f a) (g a)):VL ids (l.map f) (l.map g):=by
 induction l with
 |nil=>rfl
 |cons a l ih=>exact⟨_,_,rfl,h a (by simp),ih fun b hb=>h b (by simp[hb])⟩
theorem VLL.get:∀{l:List (List S)} {ds:List (List D)},VLL ids l ds→∀{i:Nat} {s:List S},l[i]?=some s→∃d,ds[i]?=some d∧VL ids s d
 | [],_,_,_,_,hi=>by cases hi
 |s::l,_,h,i,s',hi=>by
  obtain⟨d,r,rfl,h1,h2⟩:=h;cases i with
  |zero=>cases hi;exact⟨d,rfl,h1⟩
  |succ i=>exact h2.get hi
theorem Aot{n:Nat}{ds:List D}(h:ds.length=n):VL ids (Awm n ds) ds:=by
 unfold Awm;have h1:ds=(List.range n).map fun i=>ds.getD i .undef:=by
  apply List.ext_getElem?;intro i;rw[List.getElem?_map];by_cases hi:i<n
  ·rw[List.getElem?_range hi,List.getElem?_eq_getElem (by omega)]
   simp[List.getElem?_eq_getElem (show i<ds.length by omega)]
  ·rw[List.getElem?_eq_none (by omega),List.getElem?_eq_none (by simp;omega)]
   rfl
 conv=>rhs;rw[h1]
 exact VL.map _ fun i _=>rfl
theorem Cj{e:List S}{E:Env}(h:VL ids e E)(x:Operand):VS ids (Nt e x) (ev E x):=by
 cases x with
 |tmp t=>
  unfold Nt ev;dsimp only;rw[List.getD_eq_getElem?_getD,List.getD_eq_getElem?_getD];cases ht:e[t]? with
  |none=>
   rw[List.getElem?_eq_none (by rw[← h.len];exact List.getElem?_eq_none_iff.1 ht)]
   rfl
  |some s=>obtain⟨d,h1,h2⟩:=h.get ht;rw[h1];exact h2
 |const v=>rfl
 |global g=>rfl
 |func f=>exact⟨[],[],rfl,rfl,rfl⟩
theorem Ahb{e:List S}{E:Env}(h:VL ids e E){s:S}{d:D}(hs:VS ids s d)(t:Option Tmp):VL ids (Aah e t s) (Am E t d):=by
 cases t with
 |none=>exact h
 |some t=>exact h.set hs
end
def VO(ids:List Nat):SO→Obj→Prop
 | .junk,_=>True
 | .cells l,o=>∃cs,o= .cells cs∧VL ids l cs
 | .tok g,o=>o= .tok g
theorem VO.mono{ids ids':List Nat}(hs:Sub ids ids'){o:SO}{ob:Obj}(h:VO ids o ob):VO ids' o ob:=by
 cases o with
 |junk=>trivial
 |cells l=>obtain⟨cs,h1,h2⟩:=h;exact⟨cs,h1,h2.mono hs⟩
 |tok g=>exact h
def SO.live:SO→Prop
 | .junk=>False
 |_=>True
def Ff(t:List SO)(j:Nat):Prop:=∃o,t[j]?=some o∧o.live
structure Rp(Pw:Nat→Prop)(n0:Nat)(ids:List Nat)(t:List SO)(st:St):Prop where
 len:t.length=ids.length
 obj:∀(j:Nat) (o:SO) (id:Nat),t[j]?=some o→ids[j]?=some id→o.live→∃ob,st[id]?=some ob∧VO ids o ob
 inj:∀(i j id:Nat),ids[i]?=some id→ids[j]?=some id→Ff t i→Ff t j→i=j
 lt:∀(j id:Nat),ids[j]?=some id→id<st.length
 len0:n0≤st.length
 own:∀(j id:Nat),ids[j]?=some id→Pw id
 new:∀id,n0≤id→Pw id
section
variable{Pw:Nat→Prop}{n0:Nat}{ids:List Nat}{t:List SO}{st:St}
theorem Rp.id(h:Rp Pw n0 ids t st){j:Nat}{o:SO}(hj:t[j]?=some o):∃id,ids[j]?=some id:=by have:=(List.getElem?_eq_some_iff.1 hj).1;rw[h.len]at this;exact⟨_,List.getElem?_eq_getElem this⟩
theorem Rp.alloc(h:Rp Pw n0 ids t st){o:SO}{ob:Obj}(ho:VO ids o ob):Rp Pw n0 (ids++ [st.length]) (t++ [o]) (st++ [ob]):=by
 have hcut:∀(j id:Nat),(ids++ [st.length])[j]?=some id→(j<ids.length∧ids[j]?=some id)∨(j=ids.length∧id=st.length):=fun j id hj=>by
  by_cases hlt:j<ids.length
  ·rw[List.getElem?_append_left hlt]at hj;exact .inl ⟨hlt,hj⟩
  ·rw[List.getElem?_append_right (by omega)]at hj
   have:j - ids.length=0:=by have:=(List.getElem?_eq_some_iff.1 hj).1;simp at this;omega
   rw[this]at hj;cases hj;exact .inr ⟨by omega,rfl⟩
 have hlive:∀{j:Nat},j<ids.length→Ff (t++ [o]) j→Ff t j:=fun {j} hj ⟨o',h1,h2⟩=>by
  rw[List.getElem?_append_left (by rw[h.len];exact hj)]at h1
  exact⟨o',h1,h2⟩
 refine⟨by simp[h.len],fun j o' id hj hid hl=>?_,fun i j id hi hj hli hlj=>?_,fun j id hj=>?_,by simp;have:=h.len0;omega,fun j id hj=>?_,h.new⟩
 ·rcases hcut j id hid with⟨hlt,hid⟩|⟨rfl,rfl⟩
  ·rw[List.getElem?_append_left (by rw[h.len];exact hlt)]at hj
   obtain⟨ob',h1,h2⟩:=h.obj j o' id hj hid hl;exact⟨ob',by rw[List.getElem?_append_left (List.getElem?_eq_some_iff.1 h1).1];exact h1,h2.mono Sub.app⟩
  ·rw[← h.len,List.getElem?_append_right (by omega)]at hj
   simp at hj;subst hj;exact⟨ob,by simp,ho.mono Sub.app⟩
 ·rcases hcut i id hi with⟨h1,h2⟩|⟨h1,h2⟩
  ·rcases hcut j id hj with⟨h3,h4⟩|⟨h3,h4⟩
   ·exact h.inj i j id h2 h4 (hlive h1 hli) (hlive h3 hlj)
   ·have:=h.lt i id h2;omega
  ·rcases hcut j id hj with⟨h3,h4⟩|⟨h3,h4⟩
   ·have:=h.lt j id h4;omega
   ·omega
 ·rcases hcut j id hj with⟨_,h2⟩|⟨_,h2⟩
  ·have:=h.lt j id h2;simp;omega
  ·subst h2;simp
 ·rcases hcut j id hj with⟨_,h2⟩|⟨_,h2⟩
  ·exact h.own j id h2
  ·subst h2;exact h.new _ h.len0
theorem Rp.set(h:Rp Pw n0 ids t st){j id:Nat}{o o':SO}{ob:Obj}(hj:t[j]?=some o)(hl:o.live)(hid:ids[j]?=some id)(ho:VO ids o' ob)(hl':o'.live):Rp Pw n0 ids (t.set j o') (st.set id ob):=by
 have hjl:=(List.getElem?_eq_some_iff.1 hj).1;have hlive:∀{i:Nat},Ff (t.set j o') i→Ff t i:=fun {i} ⟨o1,h1,h2⟩=>by
  rw[List.getElem?_set]at h1;split at h1
  ·rename_i e;subst e;exact⟨o,hj,hl⟩
  ·exact⟨o1,h1,h2⟩
 refine⟨by simp[h.len],fun i o1 id1 hi hid1 hl1=>?_,fun i i' id1 h1 h2 h3 h4=>h.inj i i' id1 h1 h2 (hlive h3) (hlive h4),fun i id1 hi=>by simp;exact h.lt i id1 hi,by simp;exact h.len0,h.own,h.new⟩
 rw[List.getElem?_set]at hi;split at hi
 ·rename_i e;subst e;cases hi;rw[hid]at hid1;cases hid1;exact⟨ob,by simp[h.lt j id hid],ho⟩
 ·rename_i e;obtain⟨ob1,h1,h2⟩:=h.obj i o1 id1 hi hid1 hl1;refine⟨ob1,?_,h2⟩;rw[List.getElem?_set_ne]
  ·exact h1
  ·intro he;subst he;exact e (h.inj j i id hid hid1 ⟨o,hj,hl⟩ ⟨o1,hi,hl1⟩)
theorem Rp.cells(h:Rp Pw n0 ids t st){j:Nat}{l:List S}(hj:t[j]?=some (.cells l)):∃id cs,ids[j]?=some id∧st[id]?=some (.cells cs)∧VL ids l cs:=by obtain⟨id,hid⟩:=h.id hj;obtain⟨ob,h1,cs,rfl,h3⟩:=h.obj j _ id hj hid trivial;exact⟨id,cs,hid,h1,h3⟩
theorem Rp.tok(h:Rp Pw n0 ids t st){j g:Nat}(hj:t[j]?=some (.tok g)):∃id,ids[j]?=some id∧st[id]?=some (.tok g):=by obtain⟨id,hid⟩:=h.id hj;obtain⟨ob,h1,h2⟩:=h.obj j _ id hj hid trivial;exact⟨id,hid,by rw[h1,show ob= .tok g from h2]⟩
theorem Ff.set{j i:Nat}{o:SO}(hl:o.live)(h:Ff t i):Ff (t.set j o) i:=by
 obtain⟨o1,h1,h2⟩:=h;by_cases e:j=i
 ·subst e;exact⟨o,by rw[List.getElem?_set_self (List.getElem?_eq_some_iff.1 h1).1],hl⟩
 ·exact⟨o1,by rw[List.getElem?_set_ne e];exact h1,h2⟩
theorem Ff.app{i:Nat}{l:List SO}(h:Ff t i):Ff (t++l) i:=by obtain⟨o1,h1,h2⟩:=h;exact⟨o1,by rw[List.getElem?_append_left (List.getElem?_eq_some_iff.1 h1).1];exact h1,h2⟩
end
theorem Ajs{d d':D}{st:St}{n:Nat}(h:Sk d=some d'):frz (n+1) st d=some (d',st):=by unfold frz;cases d<;>simp_all [Sk]
theorem Aju{st:St}{n:Nat}:∀{cs ds:List D},Eb Sk cs=some ds→Eu (frz (n+1)) st cs=some (ds,st)
 | [],ds,h=>by simp only[Eb,Option.some.injEq]at h;rw[← h];rfl
 |c::cs,ds,h=>by
  simp only[Eb]at h;split at h
  ·rename_i d r h1 h2;cases h;unfold Eu;rw[Ajs h1];dsimp only;rw[Aju h2]
  ·cases h
theorem Ait{d d':D}{st:St}{n:Nat}(h:Jf d=some d'):frz (n+2) st d=some (d',st):=by
 cases d with
 |agg cs=>simp only[Jf,Option.map_eq_some_iff]at h;obtain⟨ds,h1,rfl⟩:=h;unfold frz;simp only[Aju h1]
 |_=>exact Ajs h
theorem Tn{ids:List Nat}{s:S}{d x:D}(h:Aim s=some d)(hv:VS ids s x):x=d∨∃r g g',x= .sl r g∧d= .sl r g':=by
 unfold Aim at h;split at h
 ·rename_i a j g;cases h;obtain⟨id,r,gr,h1,h2,h3⟩:=hv;exact .inr ⟨r,_,_,h3,h2⟩
 ·exact .inl (Bu h hv)
theorem Be0{ids:List Nat}{s:S}{d d' x:D}(h:Aim s=some d)(hv:VS ids s x)(hf:Sk d=some d'):Sk x=some d':=by
 rcases Tn h hv with rfl|⟨r,g,g',rfl,rfl⟩
 ·exact hf
 ·exact hf
theorem Aor{ids:List Nat}{s:S}{d d' x:D}(h:Wh s=some d)(hv:VS ids s x)(hf:Jf d=some d'):Jf x=some d':=by
 unfold Wh at h;split at h
 ·rename_i l;simp only[Option.map_eq_some_iff]at h;obtain⟨ds,h1,rfl⟩:=h;obtain⟨xs,rfl,h3⟩:=hv;simp only[Jf,Option.map_eq_some_iff]at hf ⊢;obtain⟨es,h4,rfl⟩:=hf;refine⟨es,?_,rfl⟩;revert ds xs es;induction l with
  |nil=>intro ds h1 xs h3 es h4;simp only[Wh.mapS,Option.some.injEq]at h1;subst h1;rw[show xs= []from h3];exact h4
  |cons s l ih=>
   intro ds h1 xs h3 es h4;simp only[Wh.mapS]at h1;split at h1
   ·rename_i d r h5 h6;cases h1;obtain⟨x,r',rfl,h7,h8⟩:=h3;simp only[Eb]at h4 ⊢;split at h4
    ·rename_i e es' h9 h10;cases h4;rw[Be0 h5 h7 h9,ih _ h6 _ h8 _ h10]
    ·cases h4
   ·cases h1
 ·rcases Tn h hv with rfl|⟨r,g,g',rfl,rfl⟩
  ·exact hf
  ·exact hf
theorem Mo{d d':D}{st:St}(h:Nf d=some d'):Oa st d=some d':=by unfold Oa;cases d<;>simp_all [Nf]
theorem Agd{st:St}:∀{cs ds:List D},Eb Nf cs=some ds→Eb (Oa st) cs=some ds
 | [],ds,h=>h
 |c::cs,ds,h=>by
  simp only[Eb]at h ⊢;split at h
  ·rename_i d r h1 h2;rw[Mo h1,Agd h2];exact h
  ·cases h
theorem Avt{d d':D}{st:St}(h:Acs d=some d'):slim st d=some d':=by
 cases d with
 |agg cs=>simp only[Acs,Option.map_eq_some_iff]at h;obtain⟨ds,h1,rfl⟩:=h;unfold slim;simp only[Agd h1,Option.map_some]
 |_=>simp only[Acs]at h;exact Mo (st:=st) h
section
variable{P:Program}{cf:Ah}{N:Nat}{LQ:List D→List (List D)→Prop}{J:List (Nat→List D→Prop)}{ids:List Nat}
theorem Mg{p:Av}{k:D→Tree}(h:wp P cf N LQ (.bind p k) J):∃d,p.sem P=some d∧wp P cf N LQ (k d) J:=by unfold wp at h;exact h
theorem Aq(h:wp P cf N LQ .fail J):False:=by unfold wp at h;exact h
theorem Qc{d:D}(h:Al d=true):d.known=true∧d.cells= [d]:=by cases d<;>first|exact⟨rfl,rfl⟩|cases h
theorem Ua{ag:Option Nat}{x:S}{v:D}{k:List S→Tree}(h:wp P cf N LQ (cellsS ag x k) J)(hv:VS ids x v):∃l,wp P cf N LQ (k l) J∧VL ids l v.cells∧v.known=true:=by
 unfold cellsS at h;split at h
 ·obtain⟨ds,rfl,h2⟩:=hv;exact⟨_,h,h2,rfl⟩
 ·rename_i cs;rw[show v= .agg cs from hv];exact⟨_,h,VL.lits cs,rfl⟩
 ·rename_i d hd;split at h
  ·rename_i hc;rw[show v=d from hv,(Qc hc).2];exact⟨_,h,⟨_,_,rfl,rfl,rfl⟩,(Qc hc).1⟩
  ·exact(Aq h).elim
 ·rename_i d;rw[show v=d from hv];split at h
  ·rename_i n;obtain⟨d',h1,h2⟩:=Mg h;simp only[Av.sem]at h1;split at h1
   ·rename_i cs;split at h1
    ·rename_i hn;cases h1;exact⟨_,h2,Aot hn,rfl⟩
    ·cases h1
   ·cases h1
  ·obtain⟨d',h1,h2⟩:=Mg h;simp only[Av.sem]at h1;split at h1
   ·rename_i hc;cases h1;rw[(Qc hc).2];exact⟨_,h2,⟨_,_,rfl,rfl,rfl⟩,(Qc hc).1⟩
   ·cases h1
 ·exact(Aq h).elim
 ·exact(Aq h).elim
 ·rename_i h1 h2 h3 h4 h5 h6;refine⟨_,h,?_⟩;cases x with
  |bot=>exact absurd rfl h5
  |lit d=>exact absurd rfl (h3 d)
  |dyn d=>exact absurd rfl (h4 d)
  |agg l=>exact absurd rfl (h1 l)
  |tup l=>exact absurd rfl (h6 l)
  |ptr j off=>obtain⟨id,h7,rfl⟩:=hv;exact⟨⟨_,_,rfl,⟨id,h7,rfl⟩,rfl⟩,rfl⟩
  |eptr l=>obtain⟨ds,rfl,h7⟩:=hv;exact⟨⟨_,_,rfl,⟨ds,rfl,h7⟩,rfl⟩,rfl⟩
  |sl r ex=>obtain⟨ds,rfl,h7⟩:=hv;exact⟨⟨_,_,rfl,⟨ds,rfl,h7⟩,rfl⟩,rfl⟩
  |tok a j g=>obtain⟨id,r,gr,h7,h8,rfl⟩:=hv;exact⟨⟨_,_,rfl,⟨id,r,gr,h7,h8,rfl⟩,rfl⟩,rfl⟩
  |func f a b=>obtain⟨u,w,rfl,h7,h8⟩:=hv;exact⟨⟨_,_,rfl,⟨u,w,rfl,h7,h8⟩,rfl⟩,rfl⟩
theorem Aop{cs:List S}{ds:List D}(hv:VL ids cs ds)(h1:cs.all Ap1=true)(h2:(Abz cs).all Al=true):ds.all Al=true:=by
 induction cs generalizing ds with
 |nil=>rw[show ds= []from hv];rfl
 |cons s l ih=>
  obtain⟨d,r,rfl,h3,h4⟩:=hv;simp only[List.all_cons,Bool.and_eq_true]at h1 ⊢;cases s with
  |bot=>cases h1.1
  |lit a=>exact⟨by rw[show d=a from h3];exact h1.1,ih h4 h1.2 h2⟩
  |dyn a=>simp only[Abz,List.all_cons,Bool.and_eq_true]at h2;exact⟨by rw[show d=a from h3];exact h2.1,ih h4 h1.2 h2.2⟩
  |ptr j off=>obtain⟨id,_,rfl⟩:=h3;exact⟨rfl,ih h4 h1.2 h2⟩
  |eptr l=>obtain⟨_,rfl,_⟩:=h3;exact⟨rfl,ih h4 h1.2 h2⟩
  |agg l=>cases h1.1
  |tup l=>cases h1.1
  |sl r ex=>obtain⟨_,rfl,_⟩:=h3;exact⟨rfl,ih h4 h1.2 h2⟩
  |tok a j g=>obtain⟨_,_,_,_,_,rfl⟩:=h3;exact⟨rfl,ih h4 h1.2 h2⟩
  |func f a b=>obtain⟨_,_,rfl,_⟩:=h3;exact⟨rfl,ih h4 h1.2 h2⟩
theorem Ayw{cs:List S}{ds:List D}{k:Tree}(h:wp P cf N LQ (A80 cs k) J)(hv:VL ids cs ds):ds.all Al=true∧wp P cf N LQ k J:=by
 unfold A80 at h;split at h
 ·rename_i h1;split at h
  ·rename_i h2;exact⟨Aop hv h1 (by rw[h2];rfl),h⟩
  ·unfold wp at h;exact⟨Aop hv h1 h.1,h.2⟩
 ·exact(Aq h).elim
theorem Wi{t:TypeId}{cs:List S}{ds:List D}{off:Nat}{s:S}(h:Afz P t cs off=some s)(hv:VL ids cs ds):∃v,Dk P t ds off=some v∧VS ids s v:=by
 unfold Afz at h;unfold Dk;split at h
 ·rename_i n hn;rw[hn];dsimp only;rw[hv.len]at h;split at h
  ·rename_i h1;rw[if_pos h1];split at h
   ·rename_i ha;cases h;rw[if_pos ha];exact⟨_,rfl,⟨_,rfl,(hv.drop off).take n⟩⟩
   ·rename_i ha;rw[if_neg ha];split at h
    ·rename_i hn;rw[if_pos hn];exact hv.get h
    ·cases h
  ·cases h
 ·cases h
theorem Akw{place:Nat→Option (Nat × Nat × Option Nat)}{place':Nat→Option (Nat × Nat)}(hp:∀i off n ag,place i=some (off,n,ag)→place' i=some (off,n)){k:List S→Tree}:∀{parts:List (Nat × S)} {parts':List (Nat × D)} {cs:List S} {ds:List D},wp P cf N LQ (Ajl place parts cs k) J→(parts.map (·.1)=parts'.map (·.1))→VL ids (parts.map (·.2)) (parts'.map (·.2))→VL ids cs ds→∃l r,wp P cf N LQ (k l) J∧I8 place' ds parts'=some r∧VL ids l r
 | [],parts',cs,ds,h,h1,h2,h3=>by
  cases parts' with
  |nil=>unfold Ajl at h;exact⟨cs,ds,h,rfl,h3⟩
  |cons=>cases h1
 |(i,s)::l,[],cs,ds,h,h1,h2,h3=>by cases h1
 |(i,s)::l,(i',v)::l',cs,ds,h,h1,h2,h3=>by
  simp only[List.map_cons,List.cons.injEq]at h1;obtain⟨h1,h1'⟩:=h1;subst h1;simp only[List.map_cons]at h2;obtain⟨d,r,he,h4,h5⟩:=h2;cases he;unfold Ajl at h;split at h
  ·exact(Aq h).elim
  ·rename_i off n ag hpl;obtain⟨vs,h6,h7,h8⟩:=Ua h h4;split at h6
   ·rename_i hc;unfold I8;rw[hp _ _ _ _ hpl];dsimp only;rw[← h7.len,hc.1,h8,← h3.len];have hh:¬ (off+n>cs.length):=by omega
    simp only[ne_eq,not_true_eq_false,decide_false,hh,Bool.not_true,Bool.or_self,BF];exact Akw hp h6 h1' h5 (((h3.take off).append h7).append (h3.drop (off+n)))
   ·exact(Aq h6).elim
end
theorem Fw{r:Rj}{v:D}(h:Et r=some v):r=some (v,.rd []):=by
 unfold Et at h;split at h
 ·cases h;rfl
 ·cases h
theorem Auz{P:Program}{s d:TypeId}{a id c n m:Nat}:Dr P s d (.arr a id c n m) []=none:=by
 unfold Dr;split
 ·rename_i h2;cases h2
 ·rename_i h2;cases h2
 ·rename_i h2;cases h2
 ·split
  ·rename_i h2;cases h2
  ·rename_i h2;cases h2
  ·rename_i h4;cases h4;simp
  ·rfl
 ·rfl
theorem Agr{P:Program}{s d:TypeId}{x x':D}{st st':St}(h:(x=x'∧(∀a b c n m,x≠ .arr a b c n m)∧∀q,x≠ .str q)∨∃r g g',x= .sl r g∧x'= .sl r g'):Dr P s d x st=Dr P s d x' st':=by
 unfold Dr;rcases hs:P.underlying s with _|a
 ·rfl
 rcases hd:P.underlying d with _|b
 ·cases a<;>rfl
 cases a<;>cases b<;>try rfl
 all_goals first
  |(
   rcases h with⟨rfl,h,h'⟩|⟨r,g,g',rfl,rfl⟩
   ·cases x<;>first|rfl|exact absurd rfl (h' _)
   ·rfl)
  |(
   rename_i e
   try dsimp only
   generalize P.underlying e=c;rcases h with⟨rfl,h,h'⟩|⟨r,g,g',rfl,rfl⟩
   ·cases x<;>first
     |exact absurd rfl (h _ _ _ _ _)
     |exact absurd rfl (h' _)
     |(
      rcases c with _|c
      ·rfl
      ·cases c<;>first|rfl|(rename_i k;cases k<;>rfl))
   ·rcases c with _|c
    ·rfl
    ·cases c<;>first|rfl|(rename_i k;cases k<;>rfl))
theorem Avp{P:Program}{s d:TypeId}{q:List UInt8}{v:D}{st:St}(h:Dr P s d (.str q) []=some (v,.rd [])):Dr P s d (.str q) st=some (v,.rd []):=by
 unfold Dr at h ⊢;rcases hs:P.underlying s with _|a
 ·rw[hs]at h;cases h
 rcases hd:P.underlying d with _|b
 ·rw[hs,hd]at h;cases a<;>cases h
 rw[hs,hd]at h;cases a<;>cases b<;>first|exact h|(cases h;done)|skip
 ·dsimp only at h;split at h
  ·split at h<;>cases h
  ·cases h
 ·dsimp only at h ⊢;split at h
  ·rename_i h2;cases h2
  ·rename_i h2;cases h2
  ·rename_i h2;cases h2
  ·cases h
theorem A0v{P:Program}{s d:TypeId}{x x' v:D}{st:St}(h:Dr P s d x []=some (v,.rd []))(hx:x'=x∨∃q g g',x'= .sl q g∧x= .sl q g'):Dr P s d x' st=some (v,.rd []):=by
 rcases hx with rfl|⟨q,g,g',rfl,rfl⟩
 ·cases x' with
  |arr a b c n m=>rw[Auz]at h;cases h
  |str q=>exact Avp h
  |_=>rw[← h];exact Agr (.inl ⟨rfl,by simp,by simp⟩)
 ·rw[← h];exact Agr (.inr ⟨q,g,g',rfl,rfl⟩)
theorem A91{P:Program}{t:TypeId}{x v:D}{st:St}(h:Ny P t x []=some (v,.rd [])):Ny P t x st=some (v,.rd []):=by
 cases x with
 |map id=>
  unfold Ny at h;split at h<;>first|(rename_i h2;cases h2;done)|skip
  ·rename_i h2;cases h2;simp at h
  ·rename_i h1;unfold Ny;rw[h1];exact h
  ·cases h
 |_=>
  rw[← h];unfold Ny;rcases P.underlying t with _|a
  ·rfl
  ·cases a<;>rfl
theorem Baq{P:Program}{t:TypeId}{r:List (List D)}{g g':Gr}{st:St}:Ny P t (.sl r g) st=Ny P t (.sl r g') st:=by
 unfold Ny;cases P.underlying t with
 |none=>rfl
 |some a=>cases a<;>rfl
theorem Bej{P:Program}{t:TypeId}{r:List (List D)}{g g':Gr}{i:D}:Cf P t (.sl r g) i=Cf P t (.sl r g') i:=by
 unfold Cf;cases E5 i with
 |none=>rfl
 |some n=>
  dsimp only;cases P.underlying t with
  |none=>rfl
  |some a=>cases a<;>rfl
theorem Bbw{P:Program}{op:BinOp}{t:TypeId}{v:D}(h:Bo P op t .nilif .nilif=some v):False:=by
 unfold Bo at h;split at h
 ·rename_i h1 h2;cases h1
 ·rename_i h1 h2;cases h1
 ·split at h
  ·unfold eqD at h;split at h<;>first|(rename_i h1 h2;cases h2;done)|(rename_i h1 h2;cases h1;done)|cases h
  ·unfold eqD at h;split at h<;>first|(rename_i h1 h2;cases h2;done)|(rename_i h1 h2;cases h1;done)|cases h
  ·cases h
def readsOf(st:St):Fx→Cb
 | .rd ids=>ids
 | .al _=> [st.length]
section
variable(C:Eo)(cf:Ah)(N:Nat)(LQ:List D→List (List D)→Prop)(J:List (Nat→List D→Prop))(Pw:Nat→Prop)(n0:Nat)
def Vh(E:Env)(st:St)(ids:List Nat)(t:List SO)(o:Oper)(K:KS):Prop:=
 ∃s t' rd wr ids' v st',wp C.P cf N LQ (K s t' rd wr) J∧Sub ids ids'∧VS ids' s v∧Rp Pw n0 ids' t' st'∧(∀j,Ff t j→Ff t' j)∧(∀j∈rd,Ff t' j)∧(∀j∈wr,Ff t' j)∧((loud o=false∧∃fx,Af C.P false o (ev E) st=some (v,fx)∧st'=Dy st fx∧∀id∈readsOf st fx,∃j,j∈rd∧ids'[j]?=some id)∨(loud o=true∧∃V,Bj C false cf o (ev E) st=some (v,st',V)∧∀id∈V,∃j,j∈wr∧ids'[j]?=some id))
end
section
variable{C:Eo}{cf:Ah}{N:Nat}{LQ:List D→List (List D)→Prop}{J:List (Nat→List D→Prop)}{Pw:Nat→Prop}{n0:Nat}{E:Env}{st:St}{ids:List Nat}{t:List SO}{o:Oper}{K:KS}
theorem Fy{s:S}{v:D}(hr:Rp Pw n0 ids t st)(hl:loud o=false)(hw:wp C.P cf N LQ (K s t [] []) J)(hv:VS ids s v)(hq:Af C.P false o (ev E) st=some (v,.rd [])):Vh C cf N LQ J Pw n0 E st ids t o K:=
 ⟨s,t,[],[],ids,v,st,hw,Sub.refl _,hv,hr,fun _ h=>h,by simp,by simp,.inl ⟨hl,_,hq,rfl,by simp[readsOf]⟩⟩
theorem H9{p:Av}{v:D→D}(hr:Rp Pw n0 ids t st)(hl:loud o=false)(hw:wp C.P cf N LQ (.bind p fun d=>K (.dyn d) t [] []) J)(hq:∀d,p.sem C.P=some d→Af C.P false o (ev E) st=some (d,.rd [])):Vh C cf N LQ J Pw n0 E st ids t o K:=by obtain⟨d,h1,h2⟩:=Mg hw;exact Fy hr hl h2 rfl (hq d h1)
theorem Bhw{s:S}{v:D}{j id:Nat}{l:List S}(hr:Rp Pw n0 ids t st)(hl:loud o=false)(hj:t[j]?=some (.cells l))(hid:ids[j]?=some id)(hw:wp C.P cf N LQ (K s t [j] []) J)(hv:VS ids s v)(hq:Af C.P false o (ev E) st=some (v,.rd [id])):
  Vh C cf N LQ J Pw n0 E st ids t o K:=
 ⟨s,t,[j],[],ids,v,st,hw,Sub.refl _,hv,hr,fun _ h=>h,fun i hi=>by rw[List.mem_singleton]at hi;subst hi;exact⟨_,hj,trivial⟩,by simp,.inl ⟨hl,_,hq,rfl,fun i hi=>⟨j,by simp,by simp[readsOf]at hi;rw[hi];exact hid⟩⟩⟩
theorem Bei{so:SO}{ob:Obj}(hr:Rp Pw n0 ids t st)(hl:loud o=false)(hso:so.live)(hv:VO ids so ob)(hw:wp C.P cf N LQ (K (.ptr t.length 0) (t++ [so]) [t.length] []) J)(hq:Af C.P false o (ev E) st=some (.ptr st.length 0,.al ob)):
  Vh C cf N LQ J Pw n0 E st ids t o K:=by
 have hlast:(ids++ [st.length])[t.length]?=some st.length:=by rw[hr.len];simp
 refine⟨_,_,[t.length],[],ids++ [st.length],.ptr st.length 0,st++ [ob],hw,Sub.app,⟨st.length,hlast,rfl⟩,hr.alloc hv,fun j h=>h.app,fun i hi=>?_,by simp,.inl ⟨hl,_,hq,rfl,fun i hi=>⟨t.length,by simp,?_⟩⟩⟩
 ·rw[List.mem_singleton]at hi;subst hi;exact⟨so,by simp,hso⟩
 ·simp[readsOf]at hi;rw[hi];exact hlast
theorem Agt{x:D}{st st':St}(h:∀a b c d e,x≠ .arr a b c d e):rowsOf st x=rowsOf st' x:=by
 cases x with
 |arr a b c d e=>exact absurd rfl (h a b c d e)
 |_=>rfl
theorem Aqi{P:Program}{hh:Bool}{ty:TypeId}{s:D}{a b c d e:Nat}{st:St}(h:∀(id:Nat) (cs:List D),st[id]?≠some (Obj.cells cs))(h':∀(id:Nat) (cs:List D),st[id]?≠some (Obj.fcells cs)):C8 P hh ty s (.arr a b c d e) st=none:=by
 have h1:rowsOf st (.arr a b c d e)=none:=by
  unfold rowsOf;dsimp only;split
  ·rename_i cs h2;exact absurd h2 (h _ _)
  ·rename_i cs h2;exact absurd h2 (h' _ _)
  ·rfl
 unfold C8;cases Cx P ty with
 |none=>rfl
 |some el=>
  dsimp only;rw[h1];cases Bw P el with
  |none=>rfl
  |some z=>cases Jm P el<;>rfl
theorem Bb8{P:Program}{ty:TypeId}{s x x':D}{r:List (List D)}{st:St}(h:C8 P false ty s x []=some (.sl r (.tok 0 0),[.tok 0],[]))(hx:x'=x∨∃q g g',x'= .sl q g∧x= .sl q g'):
  C8 P false ty s x' st=some (.sl r (.tok st.length 0),st++ [.tok 0],[]):=by
 have hna:∀a b c d e,x≠ .arr a b c d e:=by
  rintro a b c d e rfl;rw[Aqi (by simp) (by simp)]at h
  cases h
 have hrow:rowsOf st x'=rowsOf [] x:=by
  rcases hx with rfl|⟨q,g,g',rfl,rfl⟩
  ·exact Agt hna
  ·rfl
 unfold C8 at h ⊢;rw[hrow];split at h
 ·cases h
 rename_i el hel
 try rw[hel]
 try dsimp only
 split at h
 ·rename_i sz by_ new h1 h2 h3
  try rw[h1,h2,h3]
  try dsimp only
  split at h
  ·rename_i hc;rw[if_pos hc];split at h
   ·split at h
    ·cases h
    ·rename_i he;rw[if_neg he];split at h
     ·rename_i hm;rw[if_pos hm];simp only[BF,List.length_nil,List.nil_append,Option.some.injEq,Prod.mk.injEq,D.sl.injEq]at h ⊢;simp[h]
     ·cases h
   ·rename_i rows gr;split at h
    ·cases h
    ·rename_i he;rw[if_neg he];split at h
     ·cases h
     ·rename_i hm;rw[if_neg hm];split at h
      ·cases h
      ·simp only[BF,List.length_nil,List.nil_append,Option.some.injEq,Prod.mk.injEq,D.sl.injEq]at h ⊢;simp[h]
      ·simp at h
   ·split at h
    ·cases h
    ·split at h
     ·cases h
     ·simp at h
   ·cases h
  ·cases h
 ·cases h
theorem Ay2{P:Program}{ty:TypeId}{rows:List (List D)}{x x':D}{r:List (List D)}{st:St}{id g:Nat}(h:C8 P false ty (.sl rows (.tok 0 0)) x [.tok 0]=some (.sl r (.tok 0 1),[.tok 1],[0]))(hx:x'=x∨∃q g g',x'= .sl q g∧x= .sl q g')
  (hst:st[id]?=some (.tok g)):C8 P false ty (.sl rows (.tok id g)) x' st=some (.sl r (.tok id (g+1)),st.set id (.tok (g+1)),[id]):=by
 have hone:∀(i:Nat) (ob:Obj),([Obj.tok 0]:St)[i]?=some ob→ob= .tok 0:=fun i ob hi=>by
  cases i with
  |zero=>cases hi;rfl
  |succ i=>simp at hi
 have hna:∀a b c d e,x≠ .arr a b c d e:=by
  rintro a b c d e rfl;rw[Aqi (fun i cs hi=>by have:=hone _ _ hi;cases this) (fun i cs hi=>by have:=hone _ _ hi;cases this)]at h
  cases h
 have hrow:rowsOf st x'=rowsOf [.tok 0] x:=by
  rcases hx with rfl|⟨q,g,g',rfl,rfl⟩
  ·exact Agt hna
  ·rfl
 unfold C8 at h ⊢;rw[hrow];split at h
 ·cases h
 rename_i el hel
 try rw[hel]
 try dsimp only
 split at h
 ·rename_i sz by_ new h1 h2 h3
  try rw[h1,h2,h3]
  try dsimp only at h ⊢
  split at h
  ·rename_i hc;rw[if_pos hc];split at h
   ·cases h
   ·rename_i he;rw[if_neg he];split at h
    ·cases h
    ·rename_i hm;rw[if_neg hm,hst];dsimp only;simp only[List.getElem?_cons_zero]at h ⊢;split at h
     ·rename_i hn;rw[if_pos (by simpa using hn)]
      simp only[Option.some.injEq,Prod.mk.injEq,D.sl.injEq]at h;rw[h.1.1]
     ·cases h
  ·cases h
 ·cases h
theorem Azn{ty:TypeId}{s x:S}{sd xd:D}(hr:Rp Pw n0 ids t st)(hl:loud o=true)(hw:wp C.P cf N LQ (A74 C.P ty s x t K) J)(hs:VS ids s sd)(hx:VS ids x xd)(hq:Bj C false cf o (ev E) st=C8 C.P false ty sd xd st):Vh C cf N LQ J Pw n0 E st ids t o K:=by
 unfold A74 at hw;split at hw
 ·exact(Aq hw).elim
 rename_i xv hxv;have hx':=Tn hxv hx;split at hw
 ·rename_i a j g;split at hw
  ·rename_i g' hj;unfold wp at hw;obtain⟨h1,h2⟩:=hw;have hg:g=g':=by
    have:=h1 (.int .i64 (g:Int),.int .i64 (g':Int)) (by simp)
    simp only[D.int.injEq,true_and]at this;omega
   subst hg;obtain⟨d,h3,h4⟩:=Mg h2;obtain⟨id,r,gr,h5,rfl,rfl⟩:=hs;obtain⟨id',h6,h7⟩:=hr.tok hj;rw[h5]at h6;cases h6;simp only[Av.sem]at h3;split at h3
   ·rename_i r' h8;cases h3;have h9:=Ay2 h8 hx' h7;refine⟨_,_,[],[j],ids,_,_,h4,Sub.refl _,⟨id,r',.none,h5,rfl,rfl⟩,hr.set hj trivial h5 (o':= .tok (g+1)) rfl trivial,fun i hi=>hi.set trivial,by simp,fun i hi=>?_,.inr ⟨hl,[id],by rw[hq];exact h9,fun i hi=>⟨j,by simp,?_⟩⟩⟩
    ·rw[List.mem_singleton]at hi;subst hi;exact Ff.set trivial ⟨_,hj,trivial⟩
    ·rw[List.mem_singleton]at hi;rw[hi];exact h5
   ·cases h3
  ·exact(Aq hw).elim
 ·split at hw
  ·rename_i hsd;obtain⟨d,h3,h4⟩:=Mg hw;have:=Bu hsd hs;subst this;simp only[Av.sem]at h3;split at h3
   ·rename_i r' h8;cases h3;have h9:=Bb8 (st:=st) h8 hx';refine⟨_,_,[],[],ids++ [st.length],_,_,h4,Sub.app,⟨st.length,r',.none,by rw[hr.len];simp,rfl,rfl⟩,hr.alloc (o:= .tok 0) rfl,fun i hi=>hi.app,by simp,by simp,.inr ⟨hl,[],by rw[hq];exact h9,by simp⟩⟩
   ·cases h3
  ·exact(Aq hw).elim
end
section
variable{C:Eo}{cf:Ah}{N:Nat}{LQ:List D→List (List D)→Prop}{J:List (Nat→List D→Prop)}{Pw:Nat→Prop}{n0:Nat}{E:Env}{st:St}{ids:List Nat}{t:List SO}{o:Oper}{K:KS}
theorem Awb{l:List S}{ds bs xs:List D}(h:Wh.mapS Wh l=some ds)(hv:VL ids l xs)(hf:Eb Jf ds=some bs):Eu (frz Gu) st xs=some (bs,st):=by
 induction l generalizing ds bs xs with
 |nil=>simp only[Wh.mapS,Option.some.injEq]at h;subst h;simp only[Eb,Option.some.injEq]at hf;subst hf;rw[show xs= []from hv];rfl
 |cons s l ih=>
  simp only[Wh.mapS]at h;split at h
  ·rename_i d r h1 h2;cases h;obtain⟨x,xs',rfl,h3,h4⟩:=hv;simp only[Eb]at hf;split at hf
   ·rename_i b bs' h5 h6;cases hf;unfold Eu;rw[show Gu=7+2 from rfl,Ait (Aor h1 h3 h5)];dsimp only;rw[show(7+2)=Gu from rfl,ih h2 h4 h6]
   ·cases hf
  ·cases h
theorem Amz{f:FuncId}{a bs c args:List D}{v:D}(hb:Dm C.P f=true)(hr:C.byRef.contains f=false)(hz:Cw st args=some (bs,st))(hc:cf f (a++bs++c) st=some (v,st,[])):G6 C cf f a c args st=some (v,st,[]):=by
 unfold G6;rw[hb,hr];simp only[Bool.not_true,BF,hz,hc];split
 ·rfl
 ·rw[Du];rfl
theorem Apt{f:S→Option D}{j id:Nat}(hj:ids[j]?=some id)(g:D→D→Prop)(hg:∀s d x,f s=some d→VS ids s x→g d x):∀{l:List S} {ds:List (Option D)} {xs:List D},Ux j f l=some ds→VL ids l xs→xs.length=ds.length∧∀(i:Nat) (o:Option D) (x:D),ds[i]?=some o→xs[i]?=some x→match o with|none=>x= .ptr id 0|some d=>g d x:=by
 intro l;induction l with
 |nil=>intro ds xs h hv;simp only[Ux,Option.some.injEq]at h;subst h;rw[show xs= []from hv];exact⟨rfl,fun i o x h=>by cases h⟩
 |cons s l ih=>
  intro ds xs h hv;obtain⟨x,r,rfl,h1,h2⟩:=hv;unfold Ux at h;split at h
  ·cases ‹_::_=([]:List S)›
  ·rename_i i l' he;cases he;split at h
   ·rename_i hij;subst hij;simp only[Option.map_eq_some_iff]at h;obtain⟨ds',h3,rfl⟩:=h;obtain⟨h4,h5⟩:=ih h3 h2;refine⟨by simp[h4],fun k o y hk hy=>?_⟩
    cases k with
    |zero=>cases hk;cases hy;obtain⟨id',h6,rfl⟩:=h1;rw[hj]at h6;cases h6;rfl
    |succ k=>exact h5 k o y hk hy
   ·cases h
  ·rename_i s' l' _ he;cases he;split at h
   ·rename_i d ds' h3 h4;cases h;obtain⟨h5,h6⟩:=ih h4 h2;refine⟨by simp[h5],fun k o y hk hy=>?_⟩
    cases k with
    |zero=>cases hk;cases hy;exact hg _ _ _ h3 h1
    |succ k=>exact h6 k o y hk hy
   ·cases h
theorem Aly{j id:Nat}(hj:ids[j]?=some id){l:List S}{ds:List (Option D)}{xs:List D}(h:Ux j Ef l=some ds)(hv:VL ids l xs):xs=ds.map (atP id):=by
 obtain⟨h1,h2⟩:=Apt hj (fun d x=>x=d) (fun s d x h3 h4=>Bu h3 h4) h hv;apply List.ext_getElem?;intro i;rw[List.getElem?_map];cases hd:ds[i]? with
 |none=>
  rw[List.getElem?_eq_none (by rw[h1];exact List.getElem?_eq_none_iff.1 hd)]
  rfl
 |some o=>
  have hlt:=(List.getElem?_eq_some_iff.1 hd).1;have hx:xs[i]?=some (xs[i]'(by omega)):=List.getElem?_eq_getElem _
  have:=h2 i o _ hd hx;rw[hx];cases o with
  |none=>rw[this];rfl
  |some d=>rw[this];rfl
theorem At3{j id:Nat}(hj:ids[j]?=some id){l:List S}{ds bs:List (Option D)}{xs:List D}(h:Ux j Wh l=some ds)(hv:VL ids l xs)(hf:Agq ds=some bs):Cw st xs=some (bs.map (atP id),st):=by
 obtain⟨h1,h2⟩:=Apt hj (fun d x=>∀d',Jf d=some d'→Jf x=some d') (fun s d x h3 h4 d' h5=>Aor h3 h4 h5) h hv;clear h hv;unfold Cw;induction ds generalizing xs bs with
 |nil=>simp only[Agq,Option.some.injEq]at hf;subst hf;rw[show xs= []from List.length_eq_zero_iff.1 h1];rfl
 |cons o ds ih=>
  cases xs with
  |nil=>cases h1
  |cons x xs=>
   simp only[Agq]at hf;split at hf
   ·rename_i b bs' h3 h4;cases hf;have hr:=ih h4 (by simpa using h1) fun i o y hi hy=>h2 (i+1) o y hi hy
    have h0:=h2 0 o x rfl rfl;unfold Eu;cases o with
    |none=>simp only[Bcg,Option.some.injEq]at h3;subst h3;rw[show x= .ptr id 0 from h0];rw[show frz Gu st (.ptr id 0)=some (.ptr id 0,st)from rfl];dsimp only;rw[hr];rfl
    |some d=>simp only[Bcg,Option.map_eq_some_iff]at h3;obtain⟨d',h5,rfl⟩:=h3;rw[show Gu=7+2 from rfl,Ait (h0 d' h5)];dsimp only;rw[show(7+2)=Gu from rfl,hr];rfl
   ·cases hf
theorem Amv{f:FuncId}{a c args bs:List D}{v:D}{id:Nat}{ob ob':Obj}{W:Cb}(hK:Ba (cf f))(hb:Dm C.P f=true)(hr:C.byRef.contains f=false)(hz:Cw st args=some (bs,st))(hid:st[id]?=some ob)
  (hc:cf f (a++bs++c) st=some (v,st.set id ob',W))(hW:∀i∈W,i=id):∃W',G6 C cf f a c args st=some (v,st.set id ob',W')∧∀i∈W',i=id:=by
 unfold G6;rw[hb,hr];simp only[Bool.not_true,BF,hz,hc];split
 ·rename_i hw;rw[Bool.and_eq_true]at hw;have hw0:W= []:=List.isEmpty_iff.1 hw.1;subst hw0;have h3:=(hK _ _ _ _ _ hc).2 id (List.getElem?_eq_some_iff.1 hid).1 (by simp)
  rw[List.getElem?_set_self (List.getElem?_eq_some_iff.1 hid).1]at h3;have h4:st.set id ob'=st:=by
   apply List.ext_getElem?;intro i;rw[List.getElem?_set];split
   ·rename_i e;subst e;rw[if_pos (List.getElem?_eq_some_iff.1 hid).1,h3]
   ·rfl
  exact⟨[],by rw[h4],by simp⟩
 ·refine⟨_,rfl,fun i hi=>?_⟩;rw[Du]at hi;exact hW i hi
theorem Ak7(hK:∀f,Ba (cf f)){f:FuncId}{a b c:List S}{da db dc:List D}(hr:Rp Pw n0 ids t st)(hl:loud o=true)(hw:wp C.P cf N LQ (Aov C f a b c t K) J)(ha:VL ids a da)(hb:VL ids b db)(hc:VL ids c dc)
  (hq:Bj C false cf o (ev E) st=G6 C cf f da dc db st):Vh C cf N LQ J Pw n0 E st ids t o K:=by
 unfold Aov at hw;split at hw
 ·exact(Aq hw).elim
 rename_i hbr;simp only[Bool.or_eq_true,not_or,Bool.not_eq_true',Bool.not_eq_false,Bool.not_eq_true]at hbr;split at hw
 ·split at hw
  ·rename_i a' b' c' h1 h2 h3;unfold wp at hw;obtain⟨bs,v,h4,h5,h6⟩:=hw;refine⟨_,t,[],[],ids,v,st,h6,Sub.refl _,rfl,hr,fun _ h=>h,by simp,by simp,.inr ⟨hl,[],?_,by simp⟩⟩
   rw[hq];refine Amz hbr.1 hbr.2 (Awb h2 hb h4) ?_;rw[D6 h1 ha,D6 h3 hc];exact h5 st
  ·exact(Aq hw).elim
 ·rename_i j hj;split at hw
  ·rename_i a' b' c' cs h1 h2 h3 hjt;split at hw
   ·rename_i ds h4;unfold wp at hw;obtain⟨bs,v,cs',h5,h6,h7,h8⟩:=hw;obtain⟨id,ocs,hid,hob,hvl⟩:=hr.cells hjt;have he:=D6 h4 hvl;subst he;obtain⟨W,h9,h10⟩:=h6 st id hob;have h11:=Amv (C:=C) (a:=a'.map (atP id)) (c:=c'.map (atP id)) (hK f) hbr.1 hbr.2 (At3 (st:=st) hid h2 hb h5) hob (by rw[← List.map_append,← List.map_append];exact h9) h10
    obtain⟨W',h12,h13⟩:=h11;have hlen:cs'.length=cs.length:=by rw[h7,hvl.len]
    refine⟨_,_,[],[j],ids,v,_,h8,Sub.refl _,rfl,hr.set hjt trivial hid (o':= .cells (Awm cs.length cs')) ⟨cs',rfl,Aot hlen⟩ trivial,fun i hi=>hi.set trivial,by simp,fun i hi=>?_,.inr ⟨hl,W',?_,fun i hi=>⟨j,by simp,?_⟩⟩⟩
    ·rw[List.mem_singleton]at hi;subst hi;exact Ff.set trivial ⟨_,hjt,trivial⟩
    ·rw[hq,Aly hid h1 ha,Aly hid h3 hc];exact h12
    ·rw[h13 i hi];exact hid
   ·exact(Aq hw).elim
  ·exact(Aq hw).elim
end
section
variable{C:Eo}{cf:Ah}{N:Nat}{LQ:List D→List (List D)→Prop}{J:List (Nat→List D→Prop)}{Pw:Nat→Prop}{n0:Nat}{E:Env}{st:St}{ids:List Nat}{t:List SO}{o:Oper}{K:KS}{P:Program}
def Alg:D→Prop
 | .agg cs=>∀c∈cs,F4 c= []
 |d=>F4 d= []
theorem Alg.nil{d:D}(h:Alg d):Iz d= []:=by
 cases d with
 |agg cs=>unfold Iz;rw[List.flatMap_eq_nil_iff];exact h
 |_=>exact h
theorem Tp{d d':D}(h:Nf d=some d'):F4 d= []:=by cases d<;>first|rfl|simp[Nf]at h
theorem A3d{cs ds:List D}(h:Eb Nf cs=some ds):∀c∈cs,F4 c= []:=by
 induction cs generalizing ds with
 |nil=>simp
 |cons c cs ih=>
  simp only[Eb]at h;split at h
  ·rename_i d r h1 h2;intro x hx;rcases List.mem_cons.1 hx with rfl|hx
   ·exact Tp h1
   ·exact ih h2 x hx
  ·cases h
theorem Atc{d d':D}(h:Acs d=some d'):Alg d:=by
 cases d with
 |agg cs=>simp only[Acs,Option.map_eq_some_iff]at h;obtain⟨ds,h1,rfl⟩:=h;exact A3d h1
 |_=>simp only[Acs]at h;exact Tp h
theorem Agz{x s:S}{v:D}(h:Ais x=some s)(hv:VS ids x v):∃v',Oa st v=some v'∧VS ids s v'∧(∀cs,v≠ .agg cs)∧F4 v= []:=by
 unfold Ais at h;split at h
 ·rename_i r ex;cases h;obtain⟨r',rfl,h2⟩:=hv;exact⟨.sl r' .none,rfl,⟨r',rfl,h2⟩,by simp,rfl⟩
 ·rename_i d;simp only[Option.map_eq_some_iff]at h;obtain⟨d',h1,rfl⟩:=h;rw[show v=d from hv];exact⟨d',Mo h1,rfl,fun cs he=>by rw[he]at h1;simp[Nf]at h1,Tp h1⟩
 ·cases h;obtain⟨id,h1,rfl⟩:=hv;exact⟨_,rfl,⟨id,h1,rfl⟩,by simp,rfl⟩
 ·cases h;obtain⟨ds,rfl,h1⟩:=hv;exact⟨_,rfl,⟨ds,rfl,h1⟩,by simp,rfl⟩
 ·cases h;obtain⟨u,w,rfl,h1,h2⟩:=hv;exact⟨_,rfl,⟨u,w,rfl,h1,h2⟩,by simp,rfl⟩
 ·cases h
theorem Ali{k:List S→Tree}:∀{l:List S} {ds:List D},wp P cf N LQ (Afe.slimL l k) J→VL ids l ds→∃l' ds',wp P cf N LQ (k l') J∧Eb (Oa st) ds=some ds'∧VL ids l' ds'∧∀d∈ds,F4 d= []:=by
 intro l;induction l generalizing k with
 |nil=>intro ds h hv;rw[show ds= []from hv];unfold Afe.slimL at h;exact⟨[],[],h,rfl,rfl,by simp⟩
 |cons s l ih=>
  intro ds h hv;obtain⟨d,r,rfl,h1,h2⟩:=hv;unfold Afe.slimL at h;split at h
  ·cases ‹_::_=([]:List S)›
  ·rename_i d0 l' he;cases he;obtain⟨d',h3,h4⟩:=Mg h;rw[show d=d0 from h1];simp only[Av.sem]at h3;obtain⟨l2,ds2,h5,h6,h7,h8⟩:=ih h4 h2;refine⟨_,d'::ds2,h5,?_,⟨_,_,rfl,rfl,h7⟩,fun x hx=>?_⟩
   ·unfold Eb;rw[Mo h3,h6]
   ·rcases List.mem_cons.1 hx with rfl|hx
    ·exact Tp h3
    ·exact h8 x hx
  ·rename_i a0 j0 g0 l' he;cases he;obtain⟨d',h3,h4⟩:=Mg h;obtain⟨id,r',gr',q1,q2,q3⟩:=h1;subst q3;rw[q2]at h3;simp only[Av.sem]at h3;obtain⟨l2,ds2,h5,h6,h7,h8⟩:=ih h4 h2;refine⟨_,d'::ds2,h5,?_,⟨_,_,rfl,rfl,h7⟩,fun x hx=>?_⟩
   ·unfold Eb;rw[show Oa st (.sl r' (.tok id g0))=some d' from Mo (st:=st) (d:= .sl r' gr') h3,h6]
   ·rcases List.mem_cons.1 hx with rfl|hx
    ·rfl
    ·exact h8 x hx
  ·rename_i s' l' _ _ he;cases he;split at h
   ·rename_i s2 hs2;obtain⟨v',h3,h4,h5,h6⟩:=Agz (st:=st) hs2 h1;obtain⟨l2,ds2,h7,h8,h9,h10⟩:=ih h h2;refine⟨_,v'::ds2,h7,?_,⟨_,_,rfl,h4,h9⟩,fun x hx=>?_⟩
    ·unfold Eb;rw[h3,h8]
    ·rcases List.mem_cons.1 hx with rfl|hx
     ·exact h6
     ·exact h10 x hx
   ·exact(Aq h).elim
theorem Avn{x:S}{v:D}{k:S→Tree}(h:wp P cf N LQ (Afe x k) J)(hv:VS ids x v):∃s v',wp P cf N LQ (k s) J∧slim st v=some v'∧VS ids s v'∧Iz v= []:=by
 unfold Afe at h;split at h
 ·rename_i d;obtain⟨d',h1,h2⟩:=Mg h;rw[show v=d from hv];exact⟨_,d',h2,Avt h1,rfl,(Atc h1).nil⟩
 ·rename_i a j g;obtain⟨d',h1,h2⟩:=Mg h;obtain⟨id,r',gr',q1,q2,q3⟩:=hv;subst q3;rw[q2]at h1;simp only[Av.sem]at h1;exact⟨_,d',h2,Mo (st:=st) (d:= .sl r' gr') h1,rfl,rfl⟩
 ·obtain⟨ds,rfl,h2⟩:=hv;obtain⟨l',ds',h3,h4,h5,h6⟩:=Ali (st:=st) h h2;exact⟨_,.agg ds',h3,by simp[slim,h4],⟨ds',rfl,h5⟩,Alg.nil (d:= .agg ds) h6⟩
 ·rename_i cs;rw[show v= .agg cs from hv];obtain⟨l',ds',h3,h4,h5,h6⟩:=Ali (st:=st) h (VL.lits cs);exact⟨_,.agg ds',h3,by simp[slim,h4],⟨ds',rfl,h5⟩,Alg.nil (d:= .agg cs) h6⟩
 ·split at h
  ·rename_i s hs;obtain⟨v',h3,h4,h5,h6⟩:=Agz (st:=st) hs hv;refine⟨s,v',h,?_,h4,?_⟩
   ·cases v with
    |agg cs=>exact absurd rfl (h5 cs)
    |_=>exact h3
   ·cases v with
    |agg cs=>exact absurd rfl (h5 cs)
    |_=>exact h6
  ·exact(Aq h).elim
theorem Axn{ag:Option Nat}{sz:Nat}{k:List (List S)→Tree}:∀{l:List (Nat × S)} {l':List (Nat × D)} {i:Nat},wp P cf N LQ (Akh ag sz i l k) J→l.map (·.1)=l'.map (·.1)→VL ids (l.map (·.2)) (l'.map (·.2))→∃rows ps ds,wp P cf N LQ (k rows) J∧Fs st l'=some ps∧VLL ids rows ds∧ds.length=l.length∧(∀r∈ds,r.length=sz)∧(∀p∈l',Iz p.2= [])∧∀(pre:List (List D)) (rest:List D),(∀r∈pre,r.length=sz)→pre.length=i→rest.length=l.length*sz→I8 (fun i=>some (i*sz,sz)) (pre.flatten++rest) ps=some ((pre++ds).flatten):=by
 intro l;induction l generalizing k with
 |nil=>
  intro l' i h h1 h2;cases l' with
  |nil=>
   unfold Akh at h;refine⟨[],[],[],h,rfl,rfl,rfl,by simp,by simp,fun pre rest h3 h4 h5=>?_⟩
   have:rest= []:=List.length_eq_zero_iff.1 (by simpa using h5)
   subst this;simp[I8]
  |cons=>cases h1
 |cons p l ih=>
  intro l' i h h1 h2;obtain⟨j,s⟩:=p;cases l' with
  |nil=>cases h1
  |cons p' l'=>
   obtain⟨j',v⟩:=p';simp only[List.map_cons,List.cons.injEq]at h1;obtain⟨h1,h1'⟩:=h1;subst h1;simp only[List.map_cons]at h2;obtain⟨d,r,he,h3,h4⟩:=h2;cases he;unfold Akh at h;split at h
   ·rename_i hji;subst hji;obtain⟨s',v',h5,h6,h7,h8⟩:=Avn (st:=st) h h3;obtain⟨vs,h9,h10,h11⟩:=Ua h5 h7;split at h9
    ·rename_i hlen;obtain⟨rows,ps,ds,h12,h13,h14,h15,h16,h17,h18⟩:=ih h9 h1' h4;have hvl:v'.cells.length=sz:=by rw[← h10.len,hlen]
     refine⟨_,(j,v')::ps,v'.cells::ds,h12,?_,⟨_,_,rfl,h10,h14⟩,by simp[h15],fun x hx=>?_,fun x hx=>?_,fun pre rest hp1 hp2 hp3=>?_⟩
     ·unfold Fs;rw[h6,h13]
     ·rcases List.mem_cons.1 hx with rfl|hx
      ·exact hvl
      ·exact h16 x hx
     ·rcases List.mem_cons.1 hx with rfl|hx
      ·exact h8
      ·exact h17 x hx
     ·have hpl:pre.flatten.length=j*sz:=by
       rw[List.length_flatten];have:pre.map List.length=List.replicate pre.length sz:=List.eq_replicate_iff.2 ⟨by simp,fun x hx=>by obtain⟨r,hr,rfl⟩:=List.mem_map.1 hx;exact hp1 r hr⟩
       rw[this,List.sum_replicate_nat,hp2]
      have hrl:sz≤rest.length:=by rw[hp3];simp only[List.length_cons];rw[Nat.succ_mul];omega
      unfold I8;dsimp only;have hh:¬ (j*sz+sz>(pre.flatten++rest).length):=by rw[List.length_append,hpl];omega
      rw[hvl,h11];simp only[ne_eq,not_true_eq_false,decide_false,hh,Bool.not_true,Bool.or_self,BF];have h20:=h18 (pre++ [v'.cells]) (rest.drop sz) (fun x hx=>by
       rcases List.mem_append.1 hx with hx|hx
       ·exact hp1 x hx
       ·rw[List.mem_singleton]at hx;rw[hx];exact hvl) (by simp[hp2]) (by
       rw[List.length_drop,hp3];simp only[List.length_cons];rw[Nat.succ_mul];omega)
      rw[show(pre.flatten++rest).take (j*sz)=pre.flatten from by rw[← hpl];simp,show(pre.flatten++rest).drop (j*sz+sz)=rest.drop sz from by rw[← hpl,List.drop_append];simp]
      simp only[List.flatten_append,List.flatten_cons,List.flatten_nil,List.append_nil,List.append_assoc]at h20 ⊢;exact h20
    ·exact(Aq h9).elim
   ·exact(Aq h).elim
theorem U8{sz:Nat}(hz:sz≠0):∀{rows:List (List D)},(∀r∈rows,r.length=sz)→chunk sz rows.length rows.flatten=rows
 | [],_=>rfl
 |r::rows,h=>by
  have h1:=h r (by simp)
  simp only[List.length_cons,List.flatten_cons];unfold chunk;rw[show(r++rows.flatten).take sz=r from by rw[← h1];simp,show(r++rows.flatten).drop sz=rows.flatten from by rw[← h1];simp,U8 hz fun x hx=>h x (by simp[hx])]
end
end Go.Vam
