/-
  An executable machine over data, and how it stands to the model: quiet operations.
-/
import Derived.Orders
import Derived.KernelRfl
import Derived.Laws.Entries
import Derived.Laws.Cells
import Derived.Laws.Build
import Derived.Laws.StructEq
import Derived.Laws.BytesString
import Derived.Lib.Strings
set_option linter.unusedSimpArgs false
set_option linter.unusedVariables false
namespace Go.Vam
theorem BF:((false=true)=False)∧∀(α:Type) (h:Decidable False) (a b:α),@ite α False h a b=b:=⟨Bool.false_eq_true,fun _ _ _ _=>if_neg (fun x=>x)⟩
theorem GC:(∀(α:Type) (a:α) (l:List α),(a::l)[0]?=some a)∧(∀(α:Type) (a:α) (l:List α) (i:Nat),(a::l)[i+1]?=l[i]?):=⟨fun _ _ _=>rfl,fun _ _ _ _=>rfl⟩
theorem MC:(∀(α β:Type) (f:α→β) (a:α) (l:List α),(a::l).map f=f a::l.map f)∧(∀(α β:Type) (f:α→β),([]:List α).map f= []):=⟨fun _ _ _ _ _=>rfl,fun _ _ _=>rfl⟩
theorem _root_.Go.sh{α:Type}{o:Option α}{a b:α}(h:o=some a)(h':a=b:=by kernel_rfl):o=some b:=h.trans (congrArg some h')
inductive Gr where
 |none
 |exact
 |tok(id gen:Nat)
 deriving DecidableEq
inductive D where
 |undef
 |int(k:IntKind)(n:Int)
 |bool(b:Bool)
 |str(s:List UInt8)
 |nilp
 |ptr(id off:Nat)
 |eptr(cells:List D)
 |nilsl
 |sl(rows:List (List D))(gr:Gr)
 |arr(sz id off len cap:Nat)
 |nilmap
 |map(id:Nat)
 |nilfunc
 |func(f:FuncId)(first caps:List D)
 |nilif
 |iface(t:TypeId)(d:D)
 |agg(cells:List D)
 |tup(ds:List D)
instance:Inhabited D:=⟨.undef⟩
inductive Obj where
 |cells(cs:List D)
 |fcells(cs:List D)
 |map(es:List (D × D))
 |tok(gen:Nat)
 |iter(s:List UInt8)(pos:Nat)
 |dead
abbrev St:=List Obj
abbrev Env:=List D
abbrev Cb:=List Nat
abbrev Res:=Option (D × St × Cb)
abbrev Ah:=FuncId→List D→St→Res
def D.cells:D→List D
 | .agg cs=>cs
 |d=> [d]
def D.known:D→Bool
 | .undef=>false
 |_=>true
def Al:D→Bool
 | .undef| .agg _| .tup _=>false
 |_=>true
def Ag:Value→D
 | .bool b=> .bool b
 | .int k n=> .int k n
 | .string s=> .str s.data.toList
 | .pointer none=> .nilp
 | .slice none l c=>if l=0 && c=0 then .nilsl else .undef
 | .map none=> .nilmap
 | .nilFunc=> .nilfunc
 | .nilIface=> .nilif
 | .func (.func f) a b=>if a.size=0 && b.size=0 then .func f [] []else .undef
 |_=> .undef
def Ak:Value→D
 | .agg cs=> .agg (cs.toList.map Ag)
 |v=>Ag v
def ev(e:Env):Operand→D
 | .tmp t=>e.getD t .undef
 | .const v=>Ak v
 | .global _=> .undef
 | .func f=> .func f [] []
def R3:D→Bool
 | .int .. | .bool _| .str _=>true
 |_=>false
def Sn:D→Bool
 | .tup ds=>ds.all R3
 | .undef=>true
 |d=>R3 d
def Aij(cs:List D):Bool:=cs.all fun| .undef=>false|_=>true
def zeroOf(P:Program)(t:TypeId):Option (List D):=
 match P.info? t with
 |some i=>match i.zero with
  |some z=>
   let cs:=z.cells.toList.map Ag
   if Aij cs then some cs else none
  |none=>none
 |none=>none
def Bw(P:Program)(t:TypeId):Option Nat:=(P.info? t).map (·.size)
def Jm(P:Program)(t:TypeId):Option Nat:=(P.info? t).map (·.bytes)
def Jg(P:Program)(t:TypeId):Bool:=
 match P.underlying t with
 |some (.struct _)|some (.array ..)=>true
 |_=>false
def Dk(P:Program)(t:TypeId)(cs:List D)(off:Nat):Option D:=
 match Bw P t with
 |some n=>
  if off+n≤cs.length && (P.underlying t).isSome then
   if Jg P t then some (.agg ((cs.drop off).take n))else if n=1 then cs[off]? else none
  else none
 |none=>none
def chunk(sz:Nat):Nat→List D→List (List D)
 |0,_=> []
 |n+1,l=>l.take sz::chunk sz n (l.drop sz)
def Kr(sz off len:Nat)(cs:List D):Option (List (List D)):=
 if off+len*sz≤cs.length && (sz !=0 || len == 0)then some (chunk sz len (cs.drop off))else none
def Eu(f:St→D→Option (D × St)):St→List D→Option (List D × St)
 |st,[]=>some ([],st)
 |st,d::ds=>
  match f st d with
  |some (d,st)=>match Eu f st ds with
   |some (ds,st)=>some (d::ds,st)
   |none=>none
  |none=>none
def Sl:Nat→St→D→Option (D × St)
 |0,_,_=>none
 |n+1,st,d=>
  match d with
  | .sl rows _=>some (.sl rows .none,st)
  | .nilsl=>some (.sl [] .none,st)
  | .agg cs=>match Eu (Sl n) st cs with
   |some (cs,st)=>some (.agg cs,st)
   |none=>none
  | .arr sz id off len _=>
   match st[id]? with
   |some (.fcells cs)=>match Kr sz off len cs with
    |some rows=>some (.sl rows .none,st)
    |none=>none
   |some (.cells cs)=>
    match Eu (Sl n) st cs with
    |some (cs,st)=>match st[id]?,Kr sz off len cs with
     |some (.cells _),some rows=>some (.sl rows .none,st.set id (.fcells cs))
     |_,_=>none
    |none=>none
   |_=>none
  |d=>some (d,st)
def Oa(st:St):D→Option D
 | .sl rows _=>some (.sl rows .none)
 | .nilsl=>some (.sl [] .none)
 | .arr sz id off len _=>
  match st[id]? with
  |some (.fcells cs)=>match Kr sz off len cs with
   |some rows=>some (.sl rows .none)
   |none=>none
  |_=>none
 |d=>some d
def Eb(f:D→Option D):List D→Option (List D)
 | []=>some []
 |d::ds=>match f d,Eb f ds with
  |some d,some ds=>some (d::ds)
  |_,_=>none
def B5q(st:St):D→Option D
 | .agg cs=>(Eb (Oa st) cs).map .agg
 |d=>Oa st d
def Gu:Nat:=9
def Cw(st:St)(ds:List D):Option (List D × St):=Eu (Sl Gu) st ds
def Dn(st st':St):Cb:=(List.range st.length).filter fun id=>match st[id]?,st'[id]? with
 |some (.cells _),some (.fcells _)=>true
 |_,_=>false
inductive Fx where
 |rd(ids:Cb)
 |al(o:Obj)
abbrev Fx.pure:Fx:= .rd []
def Art(W:Cb)(id:Nat):Cb:=if W.contains id then W else id::W
def Dj(V W:Cb):Cb:=V.foldl Art W
abbrev Rj:=Option (D × Fx)
abbrev O9:=Option (D × St × Cb)
def Ai:Sem Value→Option D
 | .pure (.int k n)=>some (.int k n)
 | .pure (.bool b)=>some (.bool b)
 |_=>none
def Af1(op:BinOp)(a b:List UInt8):Option D:=
 match op with
 | .add=>if a.length+b.length<2 ^ 40 then some (.str (a++b))else none
 | .eql=>some (.bool (a == b))
 | .neq=>some (.bool (!(a == b)))
 | .lss=>some (.bool (Op.bytesLess a b))
 | .leq=>some (.bool (Op.bytesLess a b || a == b))
 | .gtr=>some (.bool (!(Op.bytesLess a b || a == b)))
 | .geq=>some (.bool (!Op.bytesLess a b))
 |_=>none
def eqF(P:Program)(q:TypeId→D→D→Option Bool)(x y:List D):List Field→Option Bool
 | []=>some true
 |f::fs=>
  if f.name≠ "_" then
   match Dk P f.type x f.offset,Dk P f.type y f.offset with
   |some a,some b=>match q f.type a b with
    |some true=>eqF P q x y fs
    |some false=>some false
    |none=>none
   |_,_=>none
  else eqF P q x y fs
def eqT(P:Program):Nat→TypeId→D→D→Option Bool
 |0,_,_,_=>none
 |n+1,t,a,b=>
  match P.underlying t,a,b with
  |some .bool,.bool a,.bool b=>some (a == b)
  |some (.int _),.int k a,.int k' b=>if k=k' then some (a == b)else none
  |some .string,.str a,.str b=>some (a == b)
  |some (.struct fs),.agg x,.agg y=>if P.stoodInHeld t then none else eqF P (eqT P n) x y fs.toList
  |_,_,_=>none
def eqD(P:Program)(t:TypeId)(a b:D):Option Bool:=
 match P.underlying t,a,b with
 |some (.pointer _),.nilp,.nilp=>some true
 |some (.pointer _),.nilp,.ptr .. |some (.pointer _),.ptr ..,.nilp|some (.pointer _),.nilp,.eptr _|some (.pointer _),.eptr _,.nilp=>some false
 |some (.map ..),.nilmap,.nilmap=>some true
 |some (.map ..),.nilmap,.map _|some (.map ..),.map _,.nilmap=>some false
 |some (.func ..),.nilfunc,.nilfunc=>some true
 |some (.func ..),.nilfunc,.func .. |some (.func ..),.func ..,.nilfunc=>some false
 |some (.interface _),.nilif,.iface .. |some (.interface _),.iface ..,.nilif=>some false
 |some (.slice _),.nilsl,.nilsl=>some true
 |some (.slice _),.nilsl,.sl (_::_) _|some (.slice _),.sl (_::_) _,.nilsl|some (.slice _),.nilsl,.arr .. |some (.slice _),.arr ..,.nilsl=>some false
 |some (.struct _),.agg _,.agg _=>if P.eqGuardType P.depth t then none else eqT P 20 t a b
 |some .bool,.bool _,.bool _=>eqT P 20 t a b
 |_,_,_=>none
def Bo(P:Program)(op:BinOp)(t:TypeId)(a b:D):Option D:=
 match a,b with
 | .int k x,.int k' y=>
  match op with
  | .shl| .shr=>Ai (Op.shift op k x k' y)
  | .add| .sub| .mul=>if k=k' then Ai (Op.intArith op k x y)else none
  | .quo| .rem=>if k=k' then Ai (Op.intDiv op k x y)else none
  | .and| .or| .xor| .andNot=>if k=k' then Ai (Op.intBits op k x y)else none
  |_=>if k=k' then Ai (Op.intCmp op x y)else none
 | .str x,.str y=>Af1 op x y
 |a,b=>
  match op with
  | .eql=>(eqD P t a b).map .bool
  | .neq=>(eqD P t a b).map fun r=> .bool (!r)
  |_=>none
def Gc(op:UnOp)(a:D):Option D:=
 match op,a with
 | .neg,.int k n=>Ai (Op.intArith .sub k 0 n)
 | .xor,.int k n=>Ai (Op.intBits .xor k (if k.signed then -1 else k.max) n)
 | .not,.bool b=>some (.bool !b)
 |_,_=>none
def bytesD(s:List UInt8):List D:=s.map fun b=> .int .u8 (b.toNat:Int)
def toByte:D→Option UInt8
 | .int .u8 n=>some (UInt8.ofNat n.toNat)
 |_=>none
def Ip:List D→Option (List UInt8)
 | []=>some []
 |d::ds=>match toByte d,Ip ds with
  |some b,some bs=>some (b::bs)
  |_,_=>none
def rowsOf(st:St):D→Option (List (List D))
 | .nilsl=>some []
 | .sl rows _=>some rows
 | .arr sz id off len _=>
  match st[id]? with
  |some (.cells cs)|some (.fcells cs)=>Kr sz off len cs
  |_=>none
 | .str s=>some (s.map fun b=> [.int .u8 (b.toNat:Int)])
 |_=>none
def Dh:Nat:=2 ^ 36
def Cx(P:Program)(t:TypeId):Option TypeId:=
 match P.underlying t with
 |some (.slice e)=>some e
 |_=>none
def Kt(P:Program)(e:TypeId)(sz:Nat):Bool:=match P.info? e with
 |some i=>match i.zero with
  |some z=>z.cells.size == sz
  |none=>false
 |none=>false
def C8(P:Program)(h:Bool)(t:TypeId)(s x:D)(st:St):O9:=
 match Cx P t with
 |none=>none
 |some e=>
 match Bw P e,Jm P e,rowsOf st x with
 |some sz,some by_,some new=>
  if new.all (fun r=>r.length == sz && r.all Al) && Kt P e sz then
   match s with
   | .nilsl=>
    if new.isEmpty then some (.nilsl,st,[])
    else if new.length*by_≤Dh && new.length≤Dh then
     (if h then some (.arr sz st.length 0 new.length new.length,st++ [.cells new.flatten],[])
     else some (.sl new (.tok st.length 0),st++ [.tok 0],[]))else none
   | .sl rows gr=>
    if new.isEmpty then some (.sl rows gr,st,[])
    else if !((rows.length+new.length)*by_≤Dh && rows.length+new.length≤Dh && rows.all (fun r=>r.length == sz))then none
    else match gr with
     | .none=>none
     | .exact=>
      if h then some (.arr sz st.length 0 (rows.length+new.length) (rows.length+new.length),st++ [.cells (rows++new).flatten],[])
      else some (.sl (rows++new) (.tok st.length 0),st++ [.tok 0],[])
     | .tok id gen=>
      match st[id]? with
      |some (.tok g)=>if g=gen && !rows.isEmpty then some (.sl (rows++new) (.tok id (gen+1)),st.set id (.tok (gen+1)),[id])else none
      |_=>none
   | .arr s' id off len cap=>
    if new.isEmpty then some (.arr s' id off len cap,st,[])
    else if !((len+new.length)*by_≤Dh && len+new.length≤Dh && s'=sz && off=0)then none
    else match st[id]? with
     |some (.cells cs)=>
      if len+new.length≤cap && cap*sz≤cs.length then
       some (.arr sz id 0 (len+new.length) cap,st.set id (.cells (cs.take (len*sz)++new.flatten++cs.drop ((len+new.length)*sz))),[id])
      else if len*sz≤cs.length then
       some (.arr sz st.length 0 (len+new.length) (len+new.length),st.set id .dead++ [.cells (cs.take (len*sz)++new.flatten)],[id])
      else none
     |_=>none
   |_=>none
  else none
 |_,_,_=>none
def I8(place:Nat→Option (Nat × Nat))(cells:List D):List (Nat × D)→Option (List D)
 | []=>some cells
 |(i,v)::rest=>
  match place i with
  |none=>none
  |some (off,size)=>
   let vs:=v.cells
   if vs.length≠size || off+vs.length>cells.length || !v.known then none
   else I8 place (cells.take off++vs++cells.drop (off+size)) rest
def Lb(P:Program)(fs:Array Field)(i:Nat):Option (Nat × Nat):=
 match fs[i]? with
 |some f=>match Bw P f.type with
  |some n=>some (f.offset,n)
  |none=>none
 |none=>none
def Adc(P:Program)(t:TypeId)(parts:List (Nat × D)):Option D:=
 match zeroOf P t,P.underlying t with
 |some z,some (.struct fs)=>if fs.toList.all (fun f=>(Bw P f.type).isSome)then(I8 (Lb P fs) z parts).map .agg else none
 |some z,some (.array _ e)=>match Bw P e with
  |some n=>(I8 (fun i=>some (i*n,n)) z parts).map .agg
  |none=>none
 |_,_=>none
def J2(z:List D):Nat→List D
 |0=> []
 |n+1=>z++J2 z n
def Jc(P:Program)(t:TypeId)(k:D):List (D × D)→Nat→Option (Option (Nat × D))
 | [],_=>some none
 |e::es,i=>
  match eqT P 20 t k e.1 with
  |some true=>some (some (i,e.2))
  |some false=>Jc P t k es (i+1)
  |none=>none
def Va(P:Program):Nat→TypeId→D→Bool
 |0,_,_=>false
 |n+1,t,a=>
  match P.underlying t,a with
  |some .bool,.bool _|some (.int _),.int .. |some .string,.str _=>true
  |some (.struct fs),.agg x=>fs.toList.all fun f=>f.name == "_" || (match Dk P f.type x f.offset with
   |some a=>Va P n f.type a
   |none=>false)
  |_,_=>false
def Xo(P:Program)(t:TypeId)(k:D):Bool:=Va P 20 t k
def Aar(P:Program)(t:TypeId):Option (TypeId × TypeId):=
 match P.underlying t with
 |some (.map k e)=>some (k,e)
 |_=>none
def Xn(P:Program)(t:TypeId):Option D:=
 match P.info? t with
 |some i=>match i.zero with
  |some z=>if Aij (Ak z).cells then some (Ak z)else none
  |none=>none
 |none=>none
def Io(P:Program)(t:TypeId)(m k:D)(ok:Bool)(st:St):Rj:=
 match Aar P t with
 |none=>none
 |some (kt,et)=>
  if Xo P kt k then
   let out (v:D) (b:Bool):D:=if ok then .tup [v,.bool b]else v;let zero:Option D:=Xn P et
   match m with
   | .nilmap=>zero.map fun z=>(out z false,.pure)
   | .map id=>
    match st[id]? with
    |some (.map es)=>
     match Jc P kt k es 0 with
     |some (some (_,v))=>some (out v true,.rd [id])
     |some none=>zero.map fun z=>(out z false,.rd [id])
     |none=>none
    |_=>none
   |_=>none
  else none
def Sc:List D→List D→Bool
 | [],[]=>true
 | .int k a::x,.int k' b::y=>k == k' && a == b && Sc x y
 | .bool a::x,.bool b::y=>a == b && Sc x y
 | .str a::x,.str b::y=>a == b && Sc x y
 |_,_=>false
def Aom:D→D→Bool
 | .agg x,.agg y=>Sc x y
 |a,b=>Sc [a] [b]
def sameAt(es:List (D × D))(i:Nat)(k:D):Bool:=match es[i]? with
 |some e=>Aom k e.1
 |none=>false
def Hq(P:Program)(t:TypeId)(m k v:D)(st:St):O9:=
 match Aar P t,m with
 |some (kt,_),.map id=>
  if Xo P kt k then
   match Sl Gu st v with
   |none=>none
   |some (v,st1)=>
    match st1[id]? with
    |some (.map es)=>
     match Jc P kt k es 0 with
     |some (some (i,_))=>if sameAt es i k then some (.undef,st1.set id (.map (es.set i (k,v))),Dj (Dn st st1) [id])else none
     |some none=>some (.undef,st1.set id (.map (es++ [(k,v)])),Dj (Dn st st1) [id])
     |none=>none
    |_=>none
  else none
 |_,_=>none
def E5:D→Option Nat
 | .int _ n=>if 0≤n then some n.toNat else none
 |_=>none
def Vg(ρ:Operand→D):Option Operand→Option (Option Nat)
 |none=>some none
 |some x=>match E5 (ρ x)with
  |some n=>some (some n)
  |none=>none
def rowsFit(P:Program)(e:TypeId)(rows:List (List D)):Bool:=
 match Bw P e with
 |some z=>rows.all (fun r=>r.length == z)
 |none=>false
def Lu(P:Program)(t:TypeId)(x:D)(lo hi mx:Option Nat):Rj:=
 match P.underlying t,x with
 |some .string,.str s=>
  let h:=hi.getD s.length;let l:=lo.getD 0
  if mx.isNone && l≤h && h≤s.length then some (.str ((s.take h).drop l),.pure)else none
 |some (.slice e),.nilsl=>if lo.getD 0=0 && hi.getD 0=0 && mx.getD 0=0 && (Bw P e).isSome then some (.nilsl,.pure)else none
 |some (.slice e),.sl rows gr=>
  let h:=hi.getD rows.length;let l:=lo.getD 0
  if l≤h && h≤rows.length && rowsFit P e rows then
   match mx with
   |none=>some (.sl ((rows.take h).drop l) (if h=rows.length && l !=h then gr else .none),.pure)
   |some m=>if m=h then some (.sl ((rows.take h).drop l) .exact,.pure)else none
  else none
 |some (.slice e),.arr sz id off len cap=>
  let h:=hi.getD len;let l:=lo.getD 0
  if Bw P e=some sz && mx.isNone && l≤h && h≤cap then
   (if l=h then some (.sl [] .none,.pure)else some (.arr sz id (off+l*sz) (h - l) (cap - l),.pure))
  else if Bw P e=some sz && mx.isSome && l≤h && h≤mx.getD 0 && mx.getD 0≤cap then some (.undef,.pure)else none
 |_,_=>none
def Bqz(P:Program)(h:Bool)(t:TypeId)(x:D)(lo hi mx:Option Nat):Rj:=
 match h,x with
 |true,.arr sz id off len cap=>
  if(Cx P t).bind (Bw P)=some sz && mx.isNone && lo.getD 0=hi.getD len && lo.getD 0<cap then some (.arr sz id (off+lo.getD 0*sz) 0 (cap - lo.getD 0),.pure)
  else Lu P t x lo hi mx
 |_,_=>Lu P t x lo hi mx
def Cf(P:Program)(t:TypeId)(x i:D):Rj:=
 match E5 i with
 |none=>none
 |some n=>
  match P.underlying t,x with
  |some (.slice e),.sl rows _=>
   match rows[n]? with
   |some r=>if Bw P e=some r.length then some (.eptr r,.pure)else none
   |none=>none
  |some (.slice e),.arr sz id off len _=>if n<len && Bw P e=some sz then some (.ptr id (off+n*sz),.pure)else none
  |some (.array len e),.ptr id off=>match Bw P e with
   |some sz=>if n<len then some (.ptr id (off+n*sz),.pure)else none
   |none=>none
  |some (.array len e),.eptr cs=>match Bw P e with
   |some sz=>if n<len then some (.eptr (cs.drop (n*sz)),.pure)else none
   |none=>none
  |_,_=>none
def Qa(P:Program)(t:TypeId)(x i:D):Rj:=
 match E5 i with
 |none=>none
 |some n=>
  match P.underlying t,x with
  |some .string,.str s=>match s[n]? with
   |some b=>some (.int .u8 (b.toNat:Int),.pure)
   |none=>none
  |some (.array len e),.agg cs=>if n<len then match Bw P e with
    |some sz=>(Dk P e cs (n*sz)).map fun v=>(v,.pure)
    |none=>none
   else none
  |_,_=>none
def Ny(P:Program)(t:TypeId)(x:D)(st:St):Rj:=
 match P.underlying t,x with
 |some .string,.str s=>some (.int .i64 s.length,.pure)
 |some (.slice _),.nilsl=>some (.int .i64 0,.pure)
 |some (.slice _),.sl rows _=>some (.int .i64 rows.length,.pure)
 |some (.slice _),.arr _ _ _ len _=>some (.int .i64 len,.pure)
 |some (.map ..),.nilmap=>some (.int .i64 0,.pure)
 |some (.map ..),.map id=>match st[id]? with
  |some (.map es)=>some (.int .i64 es.length,.rd [id])
  |_=>none
 |some (.array n _),_=>some (.int .i64 n,.pure)
 |_,_=>none
def Ar8(P:Program)(t:TypeId)(x:D):Rj:=
 match P.underlying t,x with
 |some (.slice _),.nilsl=>some (.int .i64 0,.pure)
 |some (.slice _),.sl rows .exact=>some (.int .i64 rows.length,.pure)
 |_,_=>none
def Abk:D→D→Option D
 | .int k x,.int k' y=>if k=k' then some (.int k (if y<x then y else x))else none
 |_,_=>none
def Ab0:D→D→Option D
 | .int k x,.int k' y=>if k=k' then some (.int k (if x<y then y else x))else none
 |_,_=>none
def Om(f:D→D→Option D):D→List D→Option D
 |a,[]=>some a
 |a,b::l=>match f a b with
  |some c=>Om f c l
  |none=>none
def Als(P:Program)(t:TypeId)(d s:D)(st:St):O9:=
 match Cx P t,d with
 |some e,.arr sz id off len _=>
  match Bw P e,rowsOf st s with
  |some z,some rows=>
   let n:=min rows.length len;let new:=(rows.take n).flatten
   if z=sz && rows.all (fun r=>r.length == sz)then
    match st[id]? with
    |some (.cells cs)=>if off+new.length≤cs.length && new.all Al then some (.int .i64 n,st.set id (.cells (cs.take off++new++cs.drop (off+new.length))),[id])else none
    |_=>none
   else none
  |_,_=>none
 |_,_=>none
def Wz(P:Program)(t:TypeId)(m k:D)(st:St):O9:=
 match Aar P t,m with
 |some (kt,_),.map id=>
  if Xo P kt k then
   match st[id]? with
   |some (.map es)=>
    match Jc P kt k es 0 with
    |some (some (i,_))=>some (.undef,st.set id (.map (es.eraseIdx i)),[id])
    |some none=>some (.undef,st,[id])
    |none=>none
   |_=>none
  else none
 |_,_=>none
def Ac2(P:Program)(t:TypeId)(x:D)(st:St):O9:=
 match Cx P t,x with
 |some _,.nilsl|some _,.sl [] _=>some (.undef,st,[])
 |some e,.arr sz id off len _=>
  if len=0 then some (.undef,st,[])else
  match st[id]?,zeroOf P e,Bw P e with
  |some (.cells cs),some z,some n=>if n=sz && z.length=sz && off+len*sz≤cs.length && z.all Al then some (.undef,st.set id (.cells (cs.take off++J2 z len++cs.drop (off+len*sz))),[id])else none
  |_,_,_=>none
 |_,_=>none
def Aj(P:Program)(b:Builtin)(ts:Array TypeId)(args:List D)(st:St):Rj:=
 match b,ts.toList,args with
 | .len,t::_,[x]=>Ny P t x st
 | .cap,t::_,[x]=>Ar8 P t x
 | .min,_,x::xs=>(Om Abk x xs).map fun v=>(v,.pure)
 | .max,_,x::xs=>(Om Ab0 x xs).map fun v=>(v,.pure)
 |_,_,_=>none
def Gn(P:Program)(h:Bool)(b:Builtin)(ts:Array TypeId)(args:List D)(st:St):O9:=
 match b,ts.toList,args with
 | .append,[t,u],[s,x]=>match P.underlying u with
  |none|some (.int _)=>none
  |_=>C8 P h t s x st
 | .copy,t::_,[d,s]=>Als P t d s st
 | .delete,t::_,[m,k]=>Wz P t m k st
 | .clear,t::_,[x]=>Ac2 P t x st
 |_,_,_=>none
def Dr(P:Program)(src dst:TypeId)(x:D)(st:St):Rj:=
 match P.underlying src,P.underlying dst,x with
 |some (.int _),some (.int k),.int _ n=>some (.int k (k.wrap n),.pure)
 |some .string,some .string,.str s=>some (.str s,.pure)
 |some .string,some (.slice e),.str s=>match P.underlying e with
  |some (.int .u8)=>if s.length≤Dh && Bw P e=some 1 then some (.arr 1 st.length 0 s.length s.length,.al (.cells (bytesD s)))else none
  |_=>none
 |some (.slice e),some .string,x=>match P.underlying e,x with
  |some (.int .u8),.nilsl=>some (.str [],.pure)
  |some (.int .u8),.sl rows _=>if rows.all (fun r=>r.length == 1)then(Ip rows.flatten).map fun s=>(.str s,.pure)else none
  |some (.int .u8),.arr _ id off len _=>match st[id]? with
   |some (.cells cs)|some (.fcells cs)=>if off+len≤cs.length then(Ip ((cs.drop off).take len)).map fun s=>(.str s,.rd [id])else none
   |_=>none
  |_,_=>none
 |_,_,_=>none
def Fp(P:Program)(t:TypeId)(a:D)(st:St):Rj:=
 match a with
 | .ptr id off=>match st[id]? with
  |some (.cells cs)|some (.fcells cs)=>(Dk P t cs off).map fun v=>(v,.rd [id])
  |_=>none
 | .eptr cs=>(Dk P t cs 0).map fun v=>(v,.pure)
 |_=>none
def I4(P:Program)(t:TypeId)(a v:D)(st:St):O9:=
 match a with
 | .ptr id off=>match st[id]?,Bw P t with
  |some (.cells cs),some n=>
   let vs:=v.cells
   if vs.length=n && off+n≤cs.length && vs.all Al then some (.undef,st.set id (.cells (cs.take off++vs++cs.drop (off+n))),[id])else none
  |_,_=>none
 |_=>none
def Eh(P:Program)(t:TypeId)(a:D)(f:Nat):Rj:=
 match P.underlying t with
 |some (.struct fs)=>match fs[f]? with
  |some fd=>match Bw P fd.type with
   |some n=>if n=0 then none else match a with
    | .ptr id off=>some (.ptr id (off+fd.offset),.pure)
    | .eptr cs=>some (.eptr (cs.drop fd.offset),.pure)
    |_=>none
   |none=>none
  |none=>none
 |_=>none
def M8(P:Program)(t:TypeId)(a:D)(f:Nat):Rj:=
 match P.underlying t,a with
 |some (.struct fs),.agg cs=>match fs[f]? with
  |some fd=>(Dk P fd.type cs fd.offset).map fun v=>(v,.pure)
  |none=>none
 |_,_=>none
def F4:D→Cb
 | .arr _ id _ _ _=> [id]
 |_=> []
def Iz:D→Cb
 | .agg cs=>cs.flatMap F4
 |d=>F4 d
def Fs(st:St):List (Nat × D)→Option (List (Nat × D))
 | []=>some []
 |(i,d)::l=>match B5q st d,Fs st l with
  |some d,some l=>some ((i,d)::l)
  |_,_=>none
def Ak4(it:D)(isStr:Bool)(st:St):O9:=
 match it,isStr with
 | .ptr id 0,true=>match st[id]? with
  |some (.iter s pos)=>
   if pos<s.length then
    let r:=Utf8.decode ⟨s.toArray⟩ pos
    some (.tup [.bool true,.int .i64 pos,.int .i32 r.1],st.set id (.iter s (pos+r.2)),[id])
   else some (.tup [.bool false],st,[id])
  |_=>none
 |_,_=>none
def isConst:Operand→Bool
 | .const _=>true
 |_=>false
structure Eo where
 P:Program
 keepNil:List FuncId:= []
 keepArr:List FuncId:= []
 hnd:List FuncId:= []
 byRef:List FuncId:= []
 ords:FuncId→Nat→Option (List Nat × Bool):=fun _ _=>none
 ext:FuncId→Option (List D→Option D):=fun _=>none
def Af(P:Program)(h:Bool)(o:Oper)(ρ:Operand→D)(st:St):Rj:=
 match o.op with
 | .move x| .assign x=>some (ρ x,.pure)
 | .pick c a b=>match ρ c with
  | .bool true=>some (ρ a,.pure)
  | .bool false=>some (ρ b,.pure)
  |_=>none
 | .alloc t=>(zeroOf P t).map fun cs=>(.ptr st.length 0,.al (.cells cs))
 | .box _ x=>if(ρ x).known then some (.ptr st.length 0,.al (.cells (ρ x).cells))else none
 | .build t parts=>(Adc P t (parts.toList.map fun p=>(p.1,ρ p.2))).map fun v=>(v,.pure)
 | .buildSlice t len parts=>
  match Cx P t with
  |none=>none
  |some e=>
   match Bw P e,zeroOf P e,(if h then some (parts.toList.map fun p=>(p.1,ρ p.2))else Fs st (parts.toList.map fun p=>(p.1,ρ p.2)))with
   |some sz,some z,some ps=>
    if len*sz≤2 ^ 20 && z.length=sz && sz !=0 then
     match I8 (fun i=>some (i*sz,sz)) (J2 z len) ps with
     |some cs=>if h then some (.arr sz st.length 0 len len,.al (.cells cs))else some (.sl (chunk sz len cs) .exact,.rd (parts.toList.flatMap fun p=>Iz (ρ p.2)))
     |none=>none
    else none
   |_,_,_=>none
 | .load t a=>Fp P t (ρ a) st
 | .nilCheck x=>match ρ x with
  | .ptr i o=>some (.ptr i o,.pure)
  | .eptr cs=>some (.eptr cs,.pure)
  | .func f a cs=>some (.func f a cs,.pure)
  |_=>none
 | .binOp op t x y _=>
  match ρ x,ρ y with
  | .nilif,.nilif=>
   if isConst x || isConst y then
    match P.underlying t,op with
    |some (.interface _),.eql=>some (.bool true,.pure)
    |some (.interface _),.neq=>some (.bool false,.pure)
    |_,_=>none
   else none
  |a,b=>(Bo P op t a b).map fun v=>(v,.pure)
 | .unOp op _ x=>(Gc op (ρ x)).map fun v=>(v,.pure)
 | .convert s d x=>Dr P s d (ρ x) st
 | .makeInterface t x=>match P.underlying t,B5q st (ρ x)with
  |some (.interface _),_=>none
  |some _,some v=>some (.iface t v,.rd (Iz (ρ x)))
  |_,_=>none
 | .makeFunc (.func f) first caps=>some (.func f (first.toList.map ρ) (caps.toList.map ρ),.pure)
 | .makeMap t r=>match r,Aar P t with
  |none,_=>some (.map st.length,.al (.map []))
  |some x,some _=>match ρ x with
   | .int .. =>some (.map st.length,.al (.map []))
   |_=>none
  |_,_=>none
 | .makeSlice t l c=>
  match Cx P t with
  |none=>none
  |some e=>
   match Bw P e,Jm P e,zeroOf P e,E5 (ρ l),E5 (ρ c)with
   |some sz,some by_,some z,some n,some m=>if n≤m && m≤Dh && m*by_≤Dh && z.length=sz && sz !=0 then some (.arr sz st.length 0 n m,.al (.cells (J2 z m)))else none
   |_,_,_,_,_=>none
 | .slice t x lo hi mx=>match Vg ρ lo,Vg ρ hi,Vg ρ mx with
  |some lo,some hi,some mx=>if mx.isSome && hi.isNone then none else Bqz P h t (ρ x) lo hi mx
  |_,_,_=>none
 | .fieldAddr t x f=>Eh P t (ρ x) f
 | .field t x f=>M8 P t (ρ x) f
 | .indexAddr t x i=>Cf P t (ρ x) (ρ i)
 | .index t x i=>Qa P t (ρ x) (ρ i)
 | .lookup t m k ok=>Io P t (ρ m) (ρ k) ok st
 | .range t x=>match P.underlying t,ρ x with
  |some .string,.str s=>some (.ptr st.length 0,.al (.iter s 0))
  |_,_=>none
 | .extract x i=>match ρ x with
  | .tup ds=>(ds[i]?).map fun v=>(v,.pure)
  |_=>none
 | .call {callee:= .builtin b,args,argTypes}=>Aj P b argTypes (args.toList.map ρ) st
 |_=>none
def Dm(P:Program)(f:FuncId):Bool:=match P.funcs[f]? with
 |some fn=>fn.body.isSome
 |none=>false
def G6(C:Eo)(cf:Ah)(f:FuncId)(first caps args:List D)(st:St):O9:=
 if !Dm C.P f then(match C.ext f with
  |some x=>(x (first++args++caps)).map fun v=>(v,st,[])
  |none=>none)
 else if C.byRef.contains f then cf f (first++args++caps) st
 else match Cw st args with
  |none=>none
  |some (as,st1)=>
   match cf f (first++as++caps) st1 with
   |none=>none
   |some (v,st2,W)=>if W.isEmpty && Sn v then some (v,st,[])else some (v,st2,Dj (Dn st st1) W)
def Bj(C:Eo)(h:Bool)(cf:Ah)(o:Oper)(ρ:Operand→D)(st:St):O9:=
 match o.op with
 | .store t a v=>I4 C.P t (ρ a) (ρ v) st
 | .mapUpdate t m k v| .insert t m k v=>Hq C.P t (ρ m) (ρ k) (ρ v) st
 | .next it isStr=>Ak4 (ρ it) isStr st
 | .call {callee:= .builtin b,args,argTypes}=>Gn C.P h b argTypes (args.toList.map ρ) st
 | .call {callee:= .value x,args,..}=>match ρ x with
  | .func f first caps=>G6 C cf f first caps (args.toList.map ρ) st
  |_=>none
 |_=>none
def loud(o:Oper):Bool:=
 match o.op with
 | .store .. | .mapUpdate .. | .insert .. | .next .. =>true
 | .call {callee:= .builtin b,..}=>match b with
  | .len| .cap| .min| .max=>false
  |_=>true
 | .call _=>true
 |_=>false
def silent(o:Oper):Bool:=
 match o.op with
 | .move _| .assign _| .pick .. | .build .. | .nilCheck _| .binOp .. | .unOp .. | .makeFunc (.func _) _ _| .fieldAddr .. | .field .. | .indexAddr .. | .index .. | .extract .. | .slice .. =>true
 |_=>false
def maskAt(B:Array Nat)(i:Nat):Nat:=B.getD i 0
def Dp(ops:Array Oper)(i:Nat):Bool:=match ops[i]? with
 |some o=>loud o
 |none=>false
def La(ops:Array Oper)(i:Nat):Bool:=match ops[i]? with
 |some o=>silent o
 |none=>false
def level(ops:Array Oper)(B:Array Nat)(i:Nat):Nat:=
 ((List.range ops.size).filter fun j=>(maskAt B i).testBit j && Dp ops j).length
def Bd9(ops:Array Oper)(B:Array Nat):List Nat:=
 let L:=(List.range ops.size).map fun i=>(i,level ops B i)
 ((List.range (ops.size+1)).map fun l=>(L.filter fun p=>p.2 == l && !Dp ops p.1).map (·.1)++(L.filter fun p=>p.2 == l && Dp ops p.1).map (·.1)).flatten
def Ct(o:Oper)(ops:Array Oper)(e:Env):Option Bool:=
 match o.guard with
 |none=>some true
 |some (j,want)=>
  match(ops[j]?).bind (·.dst)with
  |some t=>match e[t]? with
   |some (.bool b)=>some (b == want)
   |some (.tup [])=>some false
   |_=>none
  |none=>none
def Am(e:Env):Option Tmp→D→Env
 |some t,d=>e.set t d
 |none,_=>e
abbrev Rh:=List (Nat × Nat)
def clash(B:Array Nat)(i:Nat)(lg:Rh)(V:Cb):Bool:=lg.any fun p=>V.contains p.2 && !(maskAt B i).testBit p.1
def Ju(draw:Bool)(i:Nat)(st:St)(lg:Rh):Fx→Rh
 | .rd ids=>if draw then ids.map (fun id=>(i,id))++lg else lg
 | .al _=>if draw then(i,st.length)::lg else lg
def Dy(st:St):Fx→St
 | .al o=>st++ [o]
 |_=>st
def Ay(C:Eo)(h:Bool)(cf:Ah)(draw:Bool)(ops:Array Oper)(B:Array Nat):List Nat→Rh→Env→St→Cb→Option (Env × St × Cb)
 | [],_,e,st,W=>some (e,st,W)
 |i::is,lg,e,st,W=>
  match ops[i]? with
  |none=>none
  |some o=>
   match Ct o ops e with
   |none=>none
   |some false=>Ay C h cf draw ops B is lg (Am e o.dst (.tup [])) st W
   |some true=>
    if loud o then
     match Bj C h cf o (ev e) st with
     |none=>none
     |some (v,st',V)=>if draw && clash B i lg V then none else Ay C h cf draw ops B is lg (Am e o.dst v) st' (Dj V W)
    else
     match Af C.P h o (ev e) st with
     |none=>none
     |some (v,fx)=>Ay C h cf draw ops B is (Ju draw i st lg fx) (Am e o.dst v) (Dy st fx) W
def tmpsOf(ops:Array Oper)(o:Oper):List Tmp:=o.dst.toList++o.looksAt ops
def Za(B:Array Nat)(o:Oper):Nat:=o.after.foldl (fun s e=>if Region.binds .any e then s ||| 2 ^ e.on ||| maskAt B e.on else s) 0
def Aj8(ops:Array Oper)(B:Array Nat)(l:List Nat):Bool:=
 let n:=ops.size
 l.length == n && l.all (fun i=>decide (i<n)) && (List.range n).all (fun i=>l.contains i) &&
 (List.range n).all (fun i=>match ops[i]? with
  |none=>false
  |some o=>
   maskAt B i == Za B o && decide (maskAt B i<2 ^ n) &&
   (match o.guard with|none=>true|some (j,_)=>(maskAt B i).testBit j) &&
   (match o.dst with
    |none=>true
    |some t=>(List.range n).all fun j=>j == i || (maskAt B i).testBit j || (maskAt B j).testBit i || (match ops[j]? with|some p=>!(tmpsOf ops p).contains t|none=>false))) &&
 later l
 where
 later:List Nat→Bool
  | []=>true
  |i::l=>l.all (fun j=>j !=i && !(maskAt B i).testBit j && (!Dp ops i || (maskAt B j).testBit i)) && !(maskAt B i).testBit i && later l
def region(C:Eo)(h:Bool)(cf:Ah)(ol:Option (List Nat × Bool))(ops:Array Oper)(draw:Bool)(e:Env)(st:St):Option (Env × St × Cb):=
 if draw then
  match ol with
  |some (l,true)=>Ay C h cf false ops #[] l [] e st []
  |some (l,false)=>Ay C h cf true ops (Region.before ops) l [] e st []
  |none=>
   let B:=Region.before ops;let l:=Bd9 ops B
   if Aj8 ops B l then Ay C h cf true ops B l [] e st []else none
 else Ay C h cf false ops #[] (List.range ops.size) [] e st []
inductive Ex where
 |norm
 |exit(id:Nat)
 |ret
abbrev ExR:=Option (Ex × Env × St × Cb)
def Iq(body:Env→St→ExR):Nat→Env→St→Cb→ExR
 |0,_,_,_=>none
 |n+1,e,st,W=>
  match body e st with
  |some (.norm,e,st,V)=>Iq body n e st (Dj V W)
  |some (x,e,st,V)=>some (x,e,st,Dj V W)
  |none=>none
def exec(C:Eo)(h:Bool)(od:Nat→Option (List Nat × Bool))(cf:Ah)(N:Nat):Code→Env→St→ExR
 | .skip,e,st=>some (.norm,e,st,[])
 | .region id ops draw,e,st=>match region C h cf (od id) ops draw e st with
  |some (e,st,W)=>some (.norm,e,st,W)
  |none=>none
 | .seq a b,e,st=>
  match exec C h od cf N a e st with
  |some (.norm,e,st,V)=>match exec C h od cf N b e st with
   |some (x,e,st,W)=>some (x,e,st,Dj W V)
   |none=>none
  |r=>r
 | .cond c a b,e,st=>match ev e c with
  | .bool true=>exec C h od cf N a e st
  | .bool false=>exec C h od cf N b e st
  |_=>none
 | .block id b,e,st=>
  match exec C h od cf N b e st with
  |some (.exit i,e,st,W)=>some (if i=id then .norm else .exit i,e,st,W)
  |r=>r
 | .loop b,e,st=>Iq (exec C h od cf N b) N e st []
 | .exit id,e,st=>some (.exit id,e,st,[])
 | .label _,e,st=>some (.norm,e,st,[])
 | .ret,e,st=>some (.ret,e,st,[])
 |_,_,_=>none
mutual
def D8(n:Nat):D→Bool
 | .ptr id _| .arr _ id _ _ _| .map id=>n≤id
 | .sl rows gr=>(match gr with| .tok id _=>n≤id|_=>false) || Gt n rows
 | .eptr cs=>F6 n cs
 | .func _ first caps=>F6 n first || F6 n caps
 | .iface _ d=>D8 n d
 | .agg cs=>F6 n cs
 | .tup ds=>F6 n ds
 |_=>false
def F6(n:Nat):List D→Bool
 | []=>false
 |d::ds=>D8 n d || F6 n ds
def Gt(n:Nat):List (List D)→Bool
 | []=>false
 |d::ds=>F6 n d || Gt n ds
end
def Zl(n:Nat):Obj→Bool
 | .cells cs| .fcells cs=>F6 n cs
 | .map es=>es.any fun p=>D8 n p.1 || D8 n p.2
 |_=>false
def Gm(P:Program)(e:Env)(st:St):List ResultVar→Option (List D)
 | []=>some []
 | .tmp t::l=>(Gm P e st l).map (e.getD t .undef:: ·)
 | .cell a t::l=>match Fp P t (e.getD a .undef) st,Gm P e st l with
  |some (v,_),some vs=>some (v::vs)
  |_,_=>none
def oneOf:List D→D
 | [d]=>d
 |ds=> .tup ds
def finish(n0:Nat)(v:D)(st:St)(W:Cb):Res:=
 let V:=W.filter (· <n0)
 if D8 n0 v || V.any (fun id=>match st[id]? with|some o=>Zl n0 o|none=>true)then some (v,st,V)
 else some (v,st.take n0,V)
def Ls(C:Eo)(f:FuncId)(vs:List D)(st:St):Option (List D × St):=
 if C.keepArr.contains f then some (vs,st)
 else if C.keepNil.contains f then match vs with
  | [.nilsl]=>some ([.nilsl],st)
  |vs=>Cw st vs
 else Cw st vs
def run(C:Eo)(cf:Ah)(N:Nat)(f:FuncId)(args:List D)(st:St):Res:=
 match C.P.funcs[f]? with
 |none=>none
 |some fn=>match fn.body with
  |none=>none
  |some c=>
   match exec C (C.hnd.contains f) (C.ords f) cf N c (args++List.replicate (fn.ntmps - args.length) .undef) st with
   |some (.exit _,_,_,_)|none=>none
   |some (_,e,st1,W)=>
    match Gm C.P e st1 fn.results.toList with
    |none=>none
    |some vs=>
     match Ls C f vs st1 with
     |some (vs,st2)=>finish st.length (oneOf vs) st2 (Dj (Dn st1 st2) W)
     |none=>none
abbrev Bz:=Ah→List D→St→Res
def Ii(C:Eo)(nat:FuncId→Option Bz)(N:Nat):Nat→Ah
 |0,_,_,_=>none
 |n+1,f,args,st=>match nat f with
  |some g=>g (Ii C nat N n) args st
  |none=>run C (Ii C nat N n) N f args st
structure Tk where
 gen:Nat
 blk:Nat
 hi:Nat
 ce:Nat
structure G where
 loc:Nat→Option Nat
 bs:Nat→Nat
 tk:Nat→Option Tk
 I:Nat→Nat→Option Value
 base:Nat→Nat→Option Value
def Aca(g:G)(gr:Gr)(c o len sz cap:Nat):Prop:=
 match gr with
 | .none=>True
 | .exact=>cap=len
 | .tok t gen=>∃k,g.tk t=some k∧gen≤k.gen∧(gen=k.gen→k.blk=c∧k.hi=o+len*sz∧o+cap*sz≤k.ce)
inductive VR(g:G):D→Value→Prop
 |undef (v:Value):VR g .undef v
 |int (k:IntKind) (n:Int):VR g (.int k n) (.int k n)
 |bool (b:Bool):VR g (.bool b) (.bool b)
 |str (s:ByteArray):VR g (.str s.data.toList) (.string s)
 |nilp:VR g .nilp (.pointer none)
 |ptr {id off c:Nat} (h:g.loc id=some c):VR g (.ptr id off) (.pointer (some ⟨c,off,none⟩))
 |eptr {cs:List D} {c o:Nat} (hI:∀(j:Nat) (d:D),cs[j]?=some d→∃v,g.I c (o+j)=some v)
   (hv:∀(j:Nat) (d:D) (v:Value),cs[j]?=some d→g.I c (o+j)=some v→VR g d v):VR g (.eptr cs) (.pointer (some ⟨c,o,none⟩))
 |nilsl:VR g .nilsl (.slice none 0 0)
 |slNil {gr:Gr} (h:∀t n,gr≠ .tok t n):VR g (.sl [] gr) (.slice none 0 0)
 |slEmp {gr:Gr} {a:Addr} {cap:Nat} (h:∀t n,gr≠ .tok t n) (hc:gr= .exact→cap=0):VR g (.sl [] gr) (.slice (some a) 0 cap)
 |sl {rows:List (List D)} {gr:Gr} {c o sz cap:Nat} (hsz:∀r∈rows,r.length=sz)
   (hI:∀(i:Nat) (r:List D) (j:Nat) (d:D),rows[i]?=some r→r[j]?=some d→∃v,g.I c (o+i*sz+j)=some v)
   (hv:∀(i:Nat) (r:List D) (j:Nat) (d:D) (v:Value),rows[i]?=some r→r[j]?=some d→g.I c (o+i*sz+j)=some v→VR g d v)
   (hcap:rows.length≤cap) (hgr:Aca g gr c o rows.length sz cap):VR g (.sl rows gr) (.slice (some ⟨c,o,none⟩) rows.length cap)
 |arr {sz id off len cap cap' c:Nat} (h:g.loc id=some c) (h1:len≤cap) (h2:cap≤cap') (h3:off+cap'*sz≤g.bs c):
   VR g (.arr sz id off len cap) (.slice (some ⟨c,off,none⟩) len cap')
 |nilmap:VR g .nilmap (.map none)
 |map {id c:Nat} (h:g.loc id=some c):VR g (.map id) (.map (some c))
 |nilfunc:VR g .nilfunc .nilFunc
 |func {f:FuncId} {a b:List D} {A B:Array Value} (ha:A.size=a.length) (hb:B.size=b.length)
   (hva:∀(j:Nat) (d:D) (v:Value),a[j]?=some d→A[j]?=some v→VR g d v)
   (hvb:∀(j:Nat) (d:D) (v:Value),b[j]?=some d→B[j]?=some v→VR g d v):VR g (.func f a b) (.func (.func f) A B)
 |nilif:VR g .nilif .nilIface
 |iface {t:TypeId} {d:D} {v:Value} (h:VR g d v):VR g (.iface t d) (.iface t v)
 |agg {cs:List D} {A:Array Value} (hs:A.size=cs.length) (hv:∀(j:Nat) (d:D) (v:Value),cs[j]?=some d→A[j]?=some v→VR g d v):
   VR g (.agg cs) (.agg A)
 |tup {cs:List D} {A:Array Value} (hs:A.size=cs.length) (hv:∀(j:Nat) (d:D) (v:Value),cs[j]?=some d→A[j]?=some v→VR g d v):
   VR g (.tup cs) (.tuple A)
structure F8(g:G)(cs:List D)(A:Array Value):Prop where
 size:A.size=cs.length
 at_:∀(j:Nat) (d:D) (v:Value),cs[j]?=some d→A[j]?=some v→VR g d v
structure Gd(g g':G):Prop where
 loc:∀id c,g.loc id=some c→g'.loc id=some c∧g'.bs c=g.bs c
 I:∀b o v,g.I b o=some v→g'.I b o=some v
 tk:∀t k,g.tk t=some k→∃k',g'.tk t=some k'∧k.gen≤k'.gen∧(k.gen=k'.gen→k'=k)
 base:g'.base=g.base
theorem Gd.refl(g:G):Gd g g:=⟨fun _ _ h=>⟨h,rfl⟩,fun _ _ _ h=>h,fun _ k h=>⟨k,h,Nat.le_refl _,fun _=>rfl⟩,rfl⟩
theorem Gd.trans{g1 g2 g3:G}(h:Gd g1 g2)(h':Gd g2 g3):Gd g1 g3:= {
 loc id c e:=by obtain⟨a,b⟩:=h.loc id c e;obtain⟨a',b'⟩:=h'.loc id c a;exact⟨a',b'.trans b⟩
 I b o v e:=h'.I b o v (h.I b o v e)
 tk t k e:=by
  obtain⟨k1,e1,l1,q1⟩:=h.tk t k e;obtain⟨k2,e2,l2,q2⟩:=h'.tk t k1 e1;refine⟨k2,e2,Nat.le_trans l1 l2,fun hq=>?_⟩;have h1:k.gen=k1.gen:=by omega
  have h2:k1.gen=k2.gen:=by omega
  rw[q2 h2,q1 h1]
 base:=h'.base.trans h.base}
theorem Aca.mono{g g':G}{gr:Gr}{c o len sz cap:Nat}(h:Gd g g')(hg:Aca g gr c o len sz cap):Aca g' gr c o len sz cap:=by
 cases gr with
 |none=>trivial
 |exact=>exact hg
 |tok t gen=>
  obtain⟨k,e,l,q⟩:=hg;obtain⟨k',e',l',q'⟩:=h.tk t k e;refine⟨k',e',by omega,fun hq=>?_⟩
  have:k.gen=k'.gen:=by omega
  rw[q' this];exact q (by omega)
theorem VR.mono{g g':G}(h:Gd g g'){d:D}{v:Value}(hv:VR g d v):VR g' d v:=by
 induction hv with
 |undef v=>exact .undef v
 |int k n=>exact .int k n
 |bool b=>exact .bool b
 |str s=>exact .str s
 |nilp=>exact .nilp
 |ptr e=>exact .ptr (h.loc _ _ e).1
 |eptr hI hv ih=>
  refine .eptr (fun j d hj=>?_) (fun j d v hj hv=>?_)
  ·obtain⟨v,e⟩:=hI j d hj;exact⟨v,h.I _ _ _ e⟩
  ·obtain⟨v',e⟩:=hI j d hj;have:=h.I _ _ _ e;rw[this]at hv;cases hv;exact ih j d _ hj e
 |nilsl=>exact .nilsl
 |slNil hn=>exact .slNil hn
 |slEmp hn hc=>exact .slEmp hn hc
 |sl hsz hI hv hcap hgr ih=>
  refine .sl hsz (fun i r j d hr hj=>?_) (fun i r j d v hr hj hv=>?_) hcap (hgr.mono h)
  ·obtain⟨v,e⟩:=hI i r j d hr hj;exact⟨v,h.I _ _ _ e⟩
  ·obtain⟨v',e⟩:=hI i r j d hr hj;have:=h.I _ _ _ e;rw[this]at hv;cases hv;exact ih i r j d _ hr hj e
 |arr e h1 h2 h3=>exact .arr (h.loc _ _ e).1 h1 h2 (by rw[(h.loc _ _ e).2];exact h3)
 |nilmap=>exact .nilmap
 |map e=>exact .map (h.loc _ _ e).1
 |nilfunc=>exact .nilfunc
 |func ha hb _ _ iha ihb=>exact .func ha hb iha ihb
 |nilif=>exact .nilif
 |iface _ ih=>exact .iface ih
 |agg hs _ ih=>exact .agg hs ih
 |tup hs _ ih=>exact .tup hs ih
theorem F8.mono{g g':G}(h:Gd g g'){cs:List D}{A:Array Value}(hv:F8 g cs A):F8 g' cs A:=
 ⟨hv.size,fun j d v a b=>(hv.at_ j d v a b).mono h⟩
def notFrozen(fr:Nat × Nat)(n:Nat):Prop:=∀o,o<n→¬ (fr.1≤o∧o<fr.2)
structure Aea(g:G)(cs:List D)(c:Nat)(A:Array Value)(T:TypeId)(fr:Nat × Nat)(w:World):Prop where
 heap:w.heap[c]?=some (.cells A T fr)
 size:A.size=g.bs c
 fr:notFrozen fr A.size
 len:cs.length≤A.size
 at_:∀(j:Nat) (d:D) (v:Value),cs[j]?=some d→A[j]?=some v→VR g d v
 own:∀o,g.I c o=none
structure Asb(g:G)(es:List (D × D))(c:Nat)(M:Array MapEntry)(k:Nat)(w:World):Prop where
 heap:w.heap[c]?=some (.map M k)
 size:M.size=es.length
 at_:∀(j:Nat) (e:D × D) (m:MapEntry),es[j]?=some e→M[j]?=some m→VR g e.1 m.key∧VR g e.2 m.val
 born:(M.toList.map (·.born)).Nodup
 lt:∀m∈M.toList,m.born<k
def Ri(g:G)(o:Obj)(c:Nat)(w:World):Prop:=
 match o with
 | .cells cs=>∃A T fr,Aea g cs c A T fr w
 | .fcells cs=>∀(j:Nat) (d:D),cs[j]?=some d→∃v,g.I c j=some v∧VR g d v
 | .map es=>∃M k,Asb g es c M k w
 | .iter s pos=>∃b:ByteArray,w.heap[c]?=some (.stringIter b pos)∧b.data.toList=s
 | .dead=>True
 | .tok _=>False
structure Asa(g:G)(k:Tk)(A:Array Value)(T:TypeId)(fr:Nat × Nat)(w:World):Prop where
 heap:w.heap[k.blk]?=some (.cells A T fr)
 hi:k.hi≤k.ce
 ce:k.ce≤A.size
 fr:∀o,k.hi≤o→o<A.size→¬ (fr.1≤o∧o<fr.2)
 own:∀o v,g.I k.blk o=some v→o<k.hi
def live:Obj→Bool
 | .dead| .fcells _=>false
 |_=>true
def Own(g:G)(st:St)(id b:Nat):Prop:=
 (g.loc id=some b∧∃o,st[id]?=some o∧live o=true)∨∃k,g.tk id=some k∧k.blk=b
structure Co(g:G)(st:St)(w:World):Prop where
 obj:∀id c,g.loc id=some c→∃o,st[id]?=some o∧Ri g o c w
 tok:∀t k,g.tk t=some k→st[t]?=some (.tok k.gen)∧∃A T fr,Asa g k A T fr w
 inj:∀id id' b,Own g st id b→Own g st id' b→id=id'
 imm:∀b o v,g.I b o=some v→w.cell? ⟨b,o,none⟩=some v
 blk:∀id c,g.loc id=some c→c<w.heap.size
 base:∀b o v,g.base b o=some v→g.I b o=some v∧(∀id,¬ Own g st id b)∧∀o',g.base b o'=none→w.cell? ⟨b,o',none⟩=none
theorem Co.base_lt{g:G}{st:St}{w:World}(hs:Co g st w){b o:Nat}{v:Value}(h:g.base b o=some v):b<w.heap.size:=by
 have h1:=hs.imm _ _ _ (hs.base b o v h).1;unfold World.cell? at h1;cases hh:w.heap[b]? with
 |none=>simp[hh]at h1
 |some _=>exact(Array.getElem?_eq_some_iff.1 hh).1
theorem Co.base_step{g g':G}{st st':St}{w w':World}(hs:Co g st w)(hm:Gd g g')(hown:∀id b o v,g.base b o=some v→Own g' st' id b→Own g st id b)
  (hh:∀b o v,g.base b o=some v→b<w.heap.size→(∀id,¬ Own g st id b)→w'.heap[b]?=w.heap[b]?):
  ∀b o v,g'.base b o=some v→g'.I b o=some v∧(∀id,¬ Own g' st' id b)∧∀o',g'.base b o'=none→w'.cell? ⟨b,o',none⟩=none:=by
 intro b o v h;rw[hm.base]at h;obtain⟨h1,h2,h3⟩:=hs.base b o v h;refine⟨hm.I _ _ _ h1,fun id ho=>h2 id (hown id b o v h ho),fun o' ho'=>?_⟩;rw[hm.base]at ho';have h4:=h3 o' ho';have h5:=hh b o v h (hs.base_lt h) h2;unfold World.cell? at h4 ⊢;rw[h5];exact h4
structure Step(g:G)(st:St)(w:World)(W:Cb)(g':G)(st':St)(w':World):Prop where
 mono:Gd g g'
 size:w.heap.size≤w'.heap.size
 fr:∀b,b<w.heap.size→(∀id∈W,¬ Own g st id b)→w'.heap[b]?=w.heap[b]?
 own:∀id b,Own g' st' id b→b<w.heap.size→Own g st id b∨∃id'∈W,Own g st id' b
 os:w'.os=w.os
 out:w'.output=w.output
theorem Step.refl(g:G)(st:St)(w:World):Step g st w [] g st w:=
 ⟨Gd.refl g,Nat.le_refl _,fun _ _ _=>rfl,fun _ _ h _=> .inl h,rfl,rfl⟩
theorem Avy{W:Cb}{x y:Nat}:x∈Art W y↔x=y∨x∈W:=by
 unfold Art;split
 ·rename_i h;simp only[List.contains_iff_mem]at h;constructor
  ·exact .inr
  ·rintro(rfl|h')
   ·exact h
   ·exact h'
 ·simp
theorem Cm{V W:Cb}{x:Nat}:x∈Dj V W↔x∈V∨x∈W:=by
 unfold Dj;induction V generalizing W with
 |nil=>simp
 |cons y V ih=>
  simp only[List.foldl_cons,ih,Avy,List.mem_cons];constructor
  ·rintro(h|rfl|h)
   ·exact .inl (.inr h)
   ·exact .inl (.inl rfl)
   ·exact .inr h
  ·rintro((rfl|h)|h)
   ·exact .inr (.inl rfl)
   ·exact .inl h
   ·exact .inr (.inr h)
theorem Step.trans{g g1 g2:G}{st st1 st2:St}{w w1 w2:World}{W V:Cb}(h:Step g st w W g1 st1 w1)(h':Step g1 st1 w1 V g2 st2 w2):
  Step g st w (Dj V W) g2 st2 w2:= {
 mono:=h.mono.trans h'.mono
 size:=Nat.le_trans h.size h'.size
 fr b hb hn:=by
  rw[h'.fr b (Nat.lt_of_lt_of_le hb h.size) ?_,h.fr b hb ?_]
  ·exact fun id hid=>hn id (Cm.2 (.inr hid))
  ·intro id hid ho;rcases h.own id b ho hb with h1|⟨id',hid',h1⟩
   ·exact hn id (Cm.2 (.inl hid)) h1
   ·exact hn id' (Cm.2 (.inr hid')) h1
 own id b ho hb:=by
  rcases h'.own id b ho (Nat.lt_of_lt_of_le hb h.size)with h1|⟨id',hid',h1⟩
  ·rcases h.own id b h1 hb with h2|⟨i2,hi2,h2⟩
   ·exact .inl h2
   ·exact .inr ⟨i2,Cm.2 (.inr hi2),h2⟩
  ·rcases h.own id' b h1 hb with h2|⟨i2,hi2,h2⟩
   ·exact .inr ⟨id',Cm.2 (.inl hid'),h2⟩
   ·exact .inr ⟨i2,Cm.2 (.inr hi2),h2⟩
 os:=h'.os.trans h.os
 out:=h'.out.trans h.out}
theorem Step.weaken{g g':G}{st st':St}{w w':World}{W V:Cb}(h:Step g st w W g' st' w')(hs:∀id∈W,∀b,Own g st id b→∃i∈V,Own g st i b):
  Step g st w V g' st' w':= {
 mono:=h.mono
 size:=h.size
 fr b hb hn:=h.fr b hb fun id hid ho=>by obtain⟨i,hi,h1⟩:=hs id hid b ho;exact hn i hi h1
 own id b ho hb:=by
  rcases h.own id b ho hb with h1|⟨id',hid',h1⟩
  ·exact .inl h1
  ·obtain⟨i,hi,h2⟩:=hs id' hid' b h1;exact .inr ⟨i,hi,h2⟩
 os:=h.os
 out:=h.out}
def Dx(g:G)(st:St)(g':G):Prop:=∀id,id<st.length→g.loc id=none→g.tk id=none→g'.loc id=none∧g'.tk id=none
theorem Dx.refl(g:G)(st:St):Dx g st g:=fun _ _ h h'=>⟨h,h'⟩
theorem Dx.trans{g g1 g2:G}{st st1:St}(h:Dx g st g1)(h':Dx g1 st1 g2)(hl:st.length≤st1.length):Dx g st g2:=fun id hi a b=>by obtain⟨c,d⟩:=h id hi a b;exact h' id (by omega) c d
def Ji(P:Program)(β:Nat→Nat→Option Value)(f:FuncId)(c:List D→St→Res):Prop:=
 ∀args st v st' W,c args st=some (v,st',W)→∀g w (A:Array Value),g.base=β→Co g st w→F8 g args A→Calls P f A w fun e w'=>∃r g',e= .returned r∧VR g' v r∧Co g' st' w'∧Step g st w W g' st' w'∧Dx g st g'
def Ba(c:List D→St→Res):Prop:=
 ∀args st v st' W,c args st=some (v,st',W)→st.length≤st'.length∧∀id,id<st.length→id ∉ W→st'[id]?=st[id]?
section
variable{P:Program}{w:World}{g:G}
theorem run_typeInfo{t:TypeId}{i:TypeInfo}(h:P.info? t=some i):(typeInfo t).run P w= .ok i w:=by simp[typeInfo,program,Sem.run,h]
theorem Adl{t:TypeId}{n:Nat}(h:Bw P t=some n):∃i,P.info? t=some i∧i.size=n:=by
 unfold Bw at h;cases hi:P.info? t with
 |none=>simp[hi]at h
 |some i=>exact⟨i,rfl,by simpa[hi]using h⟩
theorem Zp{t:TypeId}{n:Nat}(h:Jm P t=some n):∃i,P.info? t=some i∧i.bytes=n:=by
 unfold Jm at h;cases hi:P.info? t with
 |none=>simp[hi]at h
 |some i=>exact⟨i,rfl,by simpa[hi]using h⟩
theorem run_sizeOf{t:TypeId}{n:Nat}(h:Bw P t=some n):(sizeOf t).run P w= .ok n w:=by obtain⟨i,hi,rfl⟩:=Adl h;simp[sizeOf,run_typeInfo hi]
theorem Jw{t:TypeId}(h:(P.underlying t).isSome=true):(isAgg t).run P w= .ok (Jg P t) w:=by obtain⟨d,hd⟩:=Option.isSome_iff_exists.1 h;cases d<;>simp[isAgg,run_underlying hd,Jg,hd]
theorem Sd{v:Value}:VR g (Ag v) v:=by
 unfold Ag;split
 ·exact .bool _
 ·exact .int _ _
 ·exact .str _
 ·exact .nilp
 ·split
  ·rename_i h;simp at h;obtain⟨rfl,rfl⟩:=h;exact .nilsl
  ·exact .undef _
 ·exact .nilmap
 ·exact .nilfunc
 ·exact .nilif
 ·split
  ·rename_i h;simp at h;obtain⟨rfl,rfl⟩:=h;exact .func (by simp) (by simp) (by simp) (by simp)
  ·exact .undef _
 ·exact .undef _
theorem Abq{v:Value}:VR g (Ak v) v:=by
 unfold Ak;split
 ·rename_i cs;refine .agg (by simp) (fun j d v hj hv=>?_)
  rw[List.getElem?_map,Array.getElem?_toList,hv]at hj;simp at hj;subst hj;exact Sd
 ·exact Sd
theorem F8.nil:F8 g [] #[]:=⟨rfl,by simp⟩
theorem F8.agg{cs:List D}{A:Array Value}(h:F8 g cs A):VR g (.agg cs) (.agg A):= .agg h.size h.at_
theorem F8.tup{cs:List D}{A:Array Value}(h:F8 g cs A):VR g (.tup cs) (.tuple A):= .tup h.size h.at_
theorem VR.cells{d:D}{v:Value}(h:VR g d v)(hd:d≠ .undef):F8 g d.cells v.cells:=by
 have one:∀{d:D} {v:Value},VR g d v→F8 g [d] #[v]:=fun {d v} h=>⟨rfl,fun j d' v' hj hv=>by
  cases j with
  |zero=>simp at hj hv;subst hj;subst hv;exact h
  |succ j=>simp at hj⟩
 cases h with
 |undef=>exact absurd rfl hd
 |agg hs hv=>exact⟨hs,hv⟩
 |int k n=>exact one (.int k n)
 |bool b=>exact one (.bool b)
 |str s=>exact one (.str s)
 |nilp=>exact one .nilp
 |ptr e=>exact one (.ptr e)
 |eptr a b=>exact one (.eptr a b)
 |nilsl=>exact one .nilsl
 |slNil a=>exact one (.slNil a)
 |slEmp a b=>exact one (.slEmp a b)
 |sl a b c d e=>exact one (.sl a b c d e)
 |arr a b c d=>exact one (.arr a b c d)
 |nilmap=>exact one .nilmap
 |map a=>exact one (.map a)
 |nilfunc=>exact one .nilfunc
 |func a b c d=>exact one (.func a b c d)
 |nilif=>exact one .nilif
 |iface a=>exact one (.iface a)
 |tup a b=>exact one (.tup a b)
theorem Je{t:TypeId}{cs:List D}(h:zeroOf P t=some cs):∃i z,P.info? t=some i∧i.zero=some z∧F8 g cs z.cells:=by
 unfold zeroOf at h;cases hi:P.info? t with
 |none=>simp[hi]at h
 |some i=>
  simp only[hi]at h;cases hz:i.zero with
  |none=>simp[hz]at h
  |some z=>
   simp only[hz]at h;split at h
   ·cases h;refine⟨i,z,rfl,hz,by simp,fun j d v hj hv=>?_⟩
    rw[List.getElem?_map,Array.getElem?_toList,hv]at hj;simp at hj;subst hj;exact Sd
   ·cases h
theorem Dz{t:TypeId}{i:TypeInfo}{z:Value}(hi:P.info? t=some i)(hz:i.zero=some z):(zeroValue t).run P w= .ok z w:=by simp[zeroValue,run_typeInfo hi,hz]
theorem Ga(b o n:Nat):(⟨b,o,none⟩:Addr).add n=⟨b,o+n,none⟩:=by
 unfold Addr.add;split
 ·rename_i h;subst h;rfl
 ·rfl
structure Reads(g:G)(w:World)(c o:Nat)(cs:List D):Prop where
 at_:∀(j:Nat) (d:D),cs[j]?=some d→∃v,w.cell? ⟨c,o+j,none⟩=some v∧VR g d v
theorem Reads.drop{c o:Nat}{cs:List D}(h:Reads g w c o cs)(n:Nat):Reads g w c (o+n) (cs.drop n):=
 ⟨fun j d hj=>by
  rw[List.getElem?_drop]at hj;have:=h.at_ _ _ hj
  rwa [← Nat.add_assoc]at this⟩
theorem Reads.take{c o:Nat}{cs:List D}(h:Reads g w c o cs)(n:Nat):Reads g w c o (cs.take n):=
 ⟨fun j d hj=>by
  rw[List.getElem?_take]at hj;split at hj
  ·exact h.at_ _ _ hj
  ·cases hj⟩
theorem Reads.vals{c o:Nat}{cs:List D}(h:Reads g w c o cs):∃A:List Value,A.length=cs.length∧(∀(j:Nat) (v:Value),A[j]?=some v→w.cell? ⟨c,o+j,none⟩=some v)∧F8 g cs A.toArray:=by
 induction cs generalizing o with
 |nil=>exact⟨[],rfl,by simp,⟨rfl,by simp⟩⟩
 |cons d cs ih=>
  obtain⟨v,hv,hvr⟩:=h.at_ 0 d rfl;obtain⟨A,hl,ha,hs⟩:=ih (o:=o+1) (by simpa using h.drop 1)
  refine⟨v::A,by simp[hl],fun j u hj=>?_,by simp[hl],fun j d' u hj hu=>?_⟩
  ·cases j with
   |zero=>simp at hj;subst hj;exact hv
   |succ j=>
    simp at hj;have:=ha j u hj
    rwa [show o+1+j=o+(j+1)from by omega]at this
  ·cases j with
   |zero=>simp at hj hu;subst hj;subst hu;exact hvr
   |succ j=>refine hs.at_ j d' u (by simpa using hj) (by simpa using hu)
theorem Es{c o:Nat}{cs:List D}(h:Reads g w c o cs):∃A:Array Value,(loadCells ⟨c,o,none⟩ cs.length).run P w= .ok A w∧F8 g cs A:=by obtain⟨A,hl,ha,hs⟩:=h.vals;refine⟨A.toArray,?_,hs⟩;rw[← hl];exact run_loadCells_list w _ A fun j v hj=>by rw[Ga];exact ha j v hj
theorem Oq{t:TypeId}{c o off:Nat}{cs:List D}{d:D}(h:Reads g w c o cs)(ht:Dk P t cs off=some d):
  ∃r,(loadVar t ⟨c,o+off,none⟩).run P w= .ok r w∧VR g d r:=by
 unfold Dk at ht;cases hn:Bw P t with
 |none=>simp[hn]at ht
 |some n=>
  simp only[hn]at ht;split at ht
  case isFalse=>cases ht
  rename_i hc;simp only[Bool.and_eq_true,decide_eq_true_eq]at hc;obtain⟨hle,hu⟩:=hc;cases ha:Jg P t with
  |true=>
   simp only[ha,if_true]at ht;cases ht;have h1:=(h.drop off).take n;have hlen:((cs.drop off).take n).length=n:=by simp;omega
   obtain⟨A,hr,hs⟩:=Es (P:=P) h1;rw[hlen]at hr;exact⟨.agg A,by simp[loadVar,Jw hu,ha,run_sizeOf hn,hr],hs.agg⟩
  |false=>
   simp only[ha]at ht;split at ht
   case isTrue h=>cases h
   split at ht
   case isFalse=>cases ht
   obtain⟨v,hv,hvr⟩:=h.at_ off d ht;exact⟨v,by simp[loadVar,Jw hu,ha,hv],hvr⟩
theorem Tf{t:TypeId}{off:Nat}{cs:List D}{A:Array Value}{d:D}(h:F8 g cs A)(ht:Dk P t cs off=some d):
  ∃r,(part t A off).run P w= .ok r w∧VR g d r:=by
 unfold Dk at ht;cases hn:Bw P t with
 |none=>simp[hn]at ht
 |some n=>
  simp only[hn]at ht;split at ht
  case isFalse=>cases ht
  rename_i hc;simp only[Bool.and_eq_true,decide_eq_true_eq]at hc;obtain⟨hle,hu⟩:=hc;cases ha:Jg P t with
  |true=>
   simp only[ha,if_true]at ht;cases ht;refine⟨.agg (A.extract off (off+n)),by simp[part,Jw hu,ha,run_sizeOf hn],.agg ?_ ?_⟩
   ·simp[h.size];omega
   ·intro j d v hj hv;rw[List.getElem?_take]at hj;split at hj
    ·rw[List.getElem?_drop]at hj;refine h.at_ (off+j) d v hj ?_;rw[Array.getElem?_extract]at hv;split at hv
     ·exact hv
     ·cases hv
    ·cases hj
  |false=>
   simp only[ha]at ht;split at ht
   case isTrue h=>cases h
   split at ht
   case isFalse=>cases ht
   have hl:off<A.size:=by rw[h.size];exact(List.getElem?_eq_some_iff.1 ht).1
   exact⟨A[off],by simp[part,Jw hu,ha,hl],h.at_ off d _ ht (Array.getElem?_eq_getElem hl)⟩
end
section
variable{P:Program}{w w':World}{g g':G}{st st':St}
theorem Tm{b o:Nat}(h:w'.heap[b]?=w.heap[b]?):w'.cell? ⟨b,o,none⟩=w.cell? ⟨b,o,none⟩:=by simp only[World.cell?,h]
theorem Aea.same{cs:List D}{c:Nat}{A:Array Value}{T:TypeId}{fr:Nat × Nat}(h:Aea g cs c A T fr w)(hm:Gd g g')(hb:g'.bs c=g.bs c)
  (hh:w'.heap[c]?=w.heap[c]?)(ho:∀o,g'.I c o=none):Aea g' cs c A T fr w':=
 ⟨hh.trans h.heap,h.size.trans hb.symm,h.fr,h.len,fun j d v a b=>(h.at_ j d v a b).mono hm,ho⟩
theorem Asb.same{es:List (D × D)}{c:Nat}{M:Array MapEntry}{k:Nat}(h:Asb g es c M k w)(hm:Gd g g')(hh:w'.heap[c]?=w.heap[c]?):Asb g' es c M k w':=
 ⟨hh.trans h.heap,h.size,fun j e m a b=>⟨(h.at_ j e m a b).1.mono hm,(h.at_ j e m a b).2.mono hm⟩,h.born,h.lt⟩
theorem Ri.same{o:Obj}{c:Nat}(h:Ri g o c w)(hm:Gd g g')(hb:g'.bs c=g.bs c)(hh:w'.heap[c]?=w.heap[c]?)
  (ho:∀cs,o= .cells cs→∀p,g'.I c p=none):Ri g' o c w':=by
 cases o with
 |cells cs=>obtain⟨A,T,fr,h⟩:=h;exact⟨A,T,fr,h.same hm hb hh (ho cs rfl)⟩
 |fcells cs=>intro j d hj;obtain⟨v,a,b⟩:=h j d hj;exact⟨v,hm.I _ _ _ a,b.mono hm⟩
 |map es=>obtain⟨M,k,h⟩:=h;exact⟨M,k,h.same hm hh⟩
 |iter s pos=>obtain⟨b,h1,h2⟩:=h;exact⟨b,hh.trans h1,h2⟩
 |dead=>trivial
 |tok _=>exact h
theorem Asa.same{k:Tk}{A:Array Value}{T:TypeId}{fr:Nat × Nat}(h:Asa g k A T fr w)(hh:w'.heap[k.blk]?=w.heap[k.blk]?)
  (ho:∀o v,g'.I k.blk o=some v→o<k.hi):Asa g' k A T fr w':=
 ⟨hh.trans h.heap,h.hi,h.ce,h.fr,ho⟩
theorem lt_of_heap{b:Nat}{o:Go.Obj}(h:w.heap[b]?=some o):b<w.heap.size:=(Array.getElem?_eq_some_iff.1 h).1
theorem Co.own_lt(hs:Co g st w){id b:Nat}(h:Own g st id b):b<w.heap.size:=by
 rcases h with⟨h,_⟩|⟨k,h,rfl⟩
 ·exact hs.blk _ _ h
 ·obtain⟨_,A,T,fr,hk⟩:=hs.tok _ _ h;exact lt_of_heap hk.heap
theorem Co.loc_lt(hs:Co g st w){id c:Nat}(h:g.loc id=some c):id<st.length:=by obtain⟨o,ho,_⟩:=hs.obj _ _ h;exact(List.getElem?_eq_some_iff.1 ho).1
theorem Co.tk_lt(hs:Co g st w){id:Nat}{k:Tk}(h:g.tk id=some k):id<st.length:=
 (List.getElem?_eq_some_iff.1 (hs.tok _ _ h).1).1
theorem Co.grow(hs:Co g st w)(hm:Gd g g')(hsz:w.heap.size≤w'.heap.size)(hh:∀b,b<w.heap.size→w'.heap[b]?=w.heap[b]?)
  (hst:∀(id:Nat) (o:Obj),st[id]?=some o→st'[id]?=some o)
  (hI:∀b o v,g'.I b o=some v→g.I b o=some v∨(w.heap.size≤b∧w'.cell? ⟨b,o,none⟩=some v))
  (hloc:∀id c,g'.loc id=some c→g.loc id=some c∨(w.heap.size≤c∧c<w'.heap.size∧∃o,st'[id]?=some o∧Ri g' o c w'))
  (htk:∀t k,g'.tk t=some k→g.tk t=some k∨(w.heap.size≤k.blk∧st'[t]?=some (.tok k.gen)∧∃A T fr,Asa g' k A T fr w'))
  (hinj:∀id id' b,w.heap.size≤b→Own g' st' id b→Own g' st' id' b→id=id')
  (hos:w'.os=w.os)(hout:w'.output=w.output):Co g' st' w'∧Step g st w [] g' st' w':=by
 have hown:∀id b,Own g' st' id b→b<w.heap.size→Own g st id b:=by
  rintro id b (⟨h,o,ho,hl⟩|⟨k,h,rfl⟩) hb
  ·rcases hloc _ _ h with h1|⟨h1,_⟩
   ·obtain⟨o',ho',_⟩:=hs.obj _ _ h1;have:=hst _ _ ho';rw[ho]at this;cases this;exact .inl ⟨h1,o,ho',hl⟩
   ·omega
  ·rcases htk _ _ h with h1|⟨h1,_⟩
   ·exact .inr ⟨k,h1,rfl⟩
   ·omega
 refine⟨⟨?_,?_,?_,?_,?_,hs.base_step hm (fun id b o v h ho=>hown id b ho (hs.base_lt h)) (fun b o v _ hb _=>hh b hb)⟩,⟨hm,hsz,fun b hb _=>hh b hb,fun id b h hb=> .inl (hown id b h hb),hos,hout⟩⟩
 ·intro id c h;rcases hloc _ _ h with h1|⟨_,_,h1⟩
  ·obtain⟨o,ho,hr⟩:=hs.obj _ _ h1;have hc:=hs.blk _ _ h1;refine⟨o,hst _ _ ho,hr.same hm (hm.loc _ _ h1).2 (hh _ hc) ?_⟩;rintro cs rfl p;obtain⟨A,T,fr,hr⟩:=hr;cases hp:g'.I c p with
   |none=>rfl
   |some v=>
    rcases hI _ _ _ hp with h2|⟨h2,_⟩
    ·rw[hr.own p]at h2;cases h2
    ·omega
  ·exact h1
 ·intro t k h;rcases htk _ _ h with h1|⟨_,h1⟩
  ·obtain⟨h2,A,T,fr,h3⟩:=hs.tok _ _ h1;have hc:=lt_of_heap h3.heap;refine⟨hst _ _ h2,A,T,fr,h3.same (hh _ hc) fun o v hv=>?_⟩;rcases hI _ _ _ hv with h4|⟨h4,_⟩
   ·exact h3.own o v h4
   ·omega
  ·exact h1
 ·intro id id' b h h';by_cases hb:b<w.heap.size
  ·exact hs.inj id id' b (hown _ _ h hb) (hown _ _ h' hb)
  ·exact hinj id id' b (by omega) h h'
 ·intro b o v h;rcases hI _ _ _ h with h1|⟨_,h1⟩
  ·have hc:=hs.imm _ _ _ h1;have hb:b<w.heap.size:=by
    unfold World.cell? at hc;split at hc
    ·rename_i hx;exact lt_of_heap hx
    ·cases hc
   rw[Tm (hh b hb)];exact hc
  ·exact h1
 ·intro id c h;rcases hloc _ _ h with h1|⟨_,h1,_⟩
  ·exact Nat.lt_of_lt_of_le (hs.blk _ _ h1) hsz
  ·exact h1
theorem Co.still(hs:Co g st w)(hsz:w.heap.size≤w'.heap.size)(hh:∀b,b<w.heap.size→w'.heap[b]?=w.heap[b]?)
  (hos:w'.os=w.os)(hout:w'.output=w.output):Co g st w'∧Step g st w [] g st w':=
 hs.grow (Gd.refl g) hsz hh (fun _ _ h=>h) (fun _ _ _ h=> .inl h) (fun _ _ h=> .inl h) (fun _ _ h=> .inl h)
  (fun id id' b hb h h'=>absurd (hs.own_lt h) (by omega)) hos hout
theorem Co.more(hs:Co g st w)(hst:∀(id:Nat) (o:Obj),st[id]?=some o→st'[id]?=some o):Co g st' w∧Step g st w [] g st' w:=
 hs.grow (Gd.refl g) (Nat.le_refl _) (fun _ _=>rfl) hst (fun _ _ _ h=> .inl h) (fun _ _ h=> .inl h) (fun _ _ h=> .inl h)
  (fun id id' b hb h h'=>by
   rcases h with⟨h,_⟩|⟨k,h,rfl⟩
   ·exact absurd (hs.blk _ _ h) (by omega)
   ·obtain⟨_,A,T,fr,hk⟩:=hs.tok _ _ h;exact absurd (lt_of_heap hk.heap) (by omega)) rfl rfl
def upd{α:Type}(f:Nat→α)(i:Nat)(x:α):Nat→α:=fun j=>if j=i then x else f j
theorem Bv{α:Type}(f:Nat→α)(i:Nat)(x:α):upd f i x i=x:=by simp[upd]
theorem upd_ne{α:Type}{f:Nat→α}{i j:Nat}{x:α}(h:j≠i):upd f i x j=f j:=by simp[upd,h]
def G.addLoc(g:G)(id c n:Nat):G:= {g with loc:=upd g.loc id (some c),bs:=upd g.bs c n}
structure Push(w w':World)(o:Go.Obj):Prop where
 heap:w'.heap=w.heap.push o
 os:w'.os=w.os
 out:w'.output=w.output
theorem Push.mk'(w:World)(o:Go.Obj):Push w {w with heap:=w.heap.push o} o:=⟨rfl,rfl,rfl⟩
theorem Push.old{o:Go.Obj}(h:Push w w' o){b:Nat}(hb:b<w.heap.size):w'.heap[b]?=w.heap[b]?:=by rw[h.heap];simp[Array.getElem?_push,hb];omega
theorem Push.new{o:Go.Obj}(h:Push w w' o):w'.heap[w.heap.size]?=some o:=by rw[h.heap];simp
theorem Push.size{o:Go.Obj}(h:Push w w' o):w'.heap.size=w.heap.size+1:=by rw[h.heap];simp
theorem Co.addObj(hs:Co g st w){id:Nat}{o:Obj}{ob:Go.Obj}{n:Nat}(hp:Push w w' ob)(ho:st[id]?=some o)(hn:g.loc id=none)(hk:g.tk id=none)
  (hr:∀g' w',Gd g g'→g'.bs w.heap.size=n→(∀p,g'.I w.heap.size p=none)→w'.heap[w.heap.size]?=some ob→Ri g' o w.heap.size w'):
  Co (g.addLoc id w.heap.size n) st w'∧Step g st w [] (g.addLoc id w.heap.size n) st w':=by
 have hm:Gd g (g.addLoc id w.heap.size n):=by
  refine⟨fun i c h=>⟨?_,?_⟩,fun _ _ _ h=>h,fun _ k h=>⟨k,h,Nat.le_refl _,fun _=>rfl⟩,rfl⟩
  ·have:i≠id:=by rintro rfl;rw[hn]at h;cases h
   simp[G.addLoc,upd_ne this,h]
  ·have:=hs.blk _ _ h;simp only[G.addLoc];rw[upd_ne (by omega)]
 have hI0:∀p,g.I w.heap.size p=none:=fun p=>by
  cases hp:g.I w.heap.size p with
  |none=>rfl
  |some v=>have:=hs.imm _ _ _ hp;simp[World.cell?]at this
 refine hs.grow hm (by rw[hp.size];omega) (fun b hb=>hp.old hb) (fun _ _ h=>h) (fun _ _ _ h=> .inl h) ?_ (fun _ _ h=> .inl h) ?_ hp.os hp.out
 ·intro i c h;by_cases hi:i=id
  ·subst hi;simp only[G.addLoc,Bv]at h;cases h;refine .inr ⟨Nat.le_refl _,by rw[hp.size];omega,o,ho,hr _ _ hm (by simp[G.addLoc,Bv]) hI0 hp.new⟩
  ·simp only[G.addLoc,upd_ne hi]at h;exact .inl h
 ·have key:∀i b,w.heap.size≤b→Own (g.addLoc id w.heap.size n) st i b→i=id:=by
   rintro i b hb (⟨h,_⟩|⟨k,h,rfl⟩)
   ·by_cases hi:i=id
    ·exact hi
    ·simp only[G.addLoc,upd_ne hi]at h;exact absurd (hs.blk _ _ h) (by omega)
   ·obtain⟨_,A,T,fr,hk⟩:=hs.tok _ _ h;exact absurd (lt_of_heap hk.heap) (by omega)
  intro i i' b hb h h';rw[key i b hb h,key i' b hb h']
def G.addI(g:G)(c:Nat)(A:Array Value):G:= {g with I:=fun b o=>if b=c then A[o]? else g.I b o}
theorem Co.addRow(hs:Co g st w){A:Array Value}{T:TypeId}{fr:Nat × Nat}(hp:Push w w' (.cells A T fr)):
  Co (g.addI w.heap.size A) st w'∧Step g st w [] (g.addI w.heap.size A) st w':=by
 have hI0:∀p,g.I w.heap.size p=none:=fun p=>by
  cases hp:g.I w.heap.size p with
  |none=>rfl
  |some v=>have:=hs.imm _ _ _ hp;simp[World.cell?]at this
 have hm:Gd g (g.addI w.heap.size A):=by
  refine⟨fun i c h=>⟨h,rfl⟩,fun b o v h=>?_,fun _ k h=>⟨k,h,Nat.le_refl _,fun _=>rfl⟩,rfl⟩;simp only[G.addI];split
  ·rename_i hb;subst hb;rw[hI0]at h;cases h
  ·exact h
 refine hs.grow hm (by rw[hp.size];omega) (fun b hb=>hp.old hb) (fun _ _ h=>h) ?_ (fun _ _ h=> .inl h) (fun _ _ h=> .inl h) ?_ hp.os hp.out
 ·intro b o v h;simp only[G.addI]at h;split at h
  ·rename_i hb;subst hb;refine .inr ⟨Nat.le_refl _,?_⟩;simp[World.cell?,hp.new,h]
  ·exact .inl h
 ·intro i i' b hb h h';have:Own g st i b:=h;exact absurd (hs.own_lt this) (by omega)
end
def Gf(P:Program)(s:Sem Next)(v:D)(g:G)(st:St)(w:World)(new:Option Nat):Prop:=
 ∃r g' w',s.run P w= .ok (.value r) w'∧VR g' v r∧Co g' st w'∧Step g st w [] g' st w'∧∀id,new≠some id→g'.loc id=g.loc id∧g'.tk id=g.tk id
section
variable{P:Program}{w:World}{g:G}{st:St}{s:Sem Next}{v:D}{new:Option Nat}
theorem Gf.same(hs:Co g st w){r:Value}(h:s.run P w= .ok (.value r) w)(hv:VR g v r):Gf P s v g st w new:=
 ⟨r,g,w,h,hv,hs,Step.refl g st w,fun _ _=>⟨rfl,rfl⟩⟩
theorem Gf.of_val(hs:Co g st w){q:Sem Value}{r:Value}(h:q.run P w= .ok r w)(hv:VR g v r):
  Gf P (do pure (.value (← q))) v g st w new:=Gf.same hs (r:=r) (by simp[h]) hv
theorem Gf.obj{w':World}(hs:Co g st w){id:Nat}{o:Obj}{ob:Go.Obj}{n:Nat}{r:Value}(ho:st[id]?=some o)(hn:g.loc id=none)(hk:g.tk id=none)
  (hr:∀g' w',Gd g g'→g'.bs w.heap.size=n→(∀p,g'.I w.heap.size p=none)→w'.heap[w.heap.size]?=some ob→Ri g' o w.heap.size w')
  (h:s.run P w= .ok (.value r) w')(hp:Push w w' ob)(hv:∀g',g'.loc id=some w.heap.size→g'.bs w.heap.size=n→VR g' v r):
  Gf P s v g st w (some id):=by
 obtain⟨h1,h2⟩:=hs.addObj hp ho hn hk hr;refine⟨r,_,_,h,hv _ (by simp[G.addLoc,Bv]) (by simp[G.addLoc,Bv]),h1,h2,fun i hi=>⟨?_,rfl⟩⟩
 have:i≠id:=by rintro rfl;exact hi rfl
 simp[G.addLoc,upd_ne this]
theorem Gf.row{w':World}(hs:Co g st w){A:Array Value}{T:TypeId}{fr:Nat × Nat}{r:Value}
  (h:s.run P w= .ok (.value r) w')(hp:Push w w' (.cells A T fr))
  (hv:∀g',Gd g g'→(∀o,g'.I w.heap.size o=A[o]?)→VR g' v r):Gf P s v g st w new:=by
 obtain⟨h1,h2⟩:=hs.addRow hp;exact⟨r,_,_,h,hv _ h2.mono (fun o=>by simp[G.addI]),h1,h2,fun _ _=>⟨rfl,rfl⟩⟩
end
section
variable{P:Program}{w:World}{g:G}{st st0:St}{ρ:Operand→D}{σ:Operand→Value}{v:D}{fx:Fx}
theorem A2e{t:TypeId}{id:Nat}{cs:List D}(hs:Co g st w)(hz:zeroOf P t=some cs)(ho:st[id]?=some (.cells cs))(hn:g.loc id=none)(hk:g.tk id=none):
  Gf P (do pure (.value (← Instr.alloc t true (.tuple #[])))) (.ptr id 0) g st w (some id):=by
 obtain⟨i,z,hi,hz0,hzs⟩:=Je (g:=g) hz;refine Gf.obj (ob:= .cells z.cells t) (n:=z.cells.size) (r:= .pointer (some ⟨w.heap.size,0,none⟩)) hs ho hn hk ?_ ?_ (Push.mk' _ _) ?_
 ·intro g' w' hm hb hI hh;exact⟨z.cells,t,(0,0),hh,hb.symm,fun o _=>by simp,by rw[hzs.size];exact Nat.le_refl _,(hzs.mono hm).at_,hI⟩
 ·simp[Instr.alloc,Dz hi hz0,newVar,newRow,newObj,Sem.run]
 ·intro g' hl _;exact .ptr hl
theorem Bd5{t:TypeId}{id:Nat}{d:D}{x:Value}(hs:Co g st w)(hx:VR g d x)(ho:st[id]?=some (.cells d.cells))(hn:g.loc id=none)(hk:g.tk id=none)
  (hd:d≠ .undef):
  Gf P (do pure (.value (← Instr.box t x))) (.ptr id 0) g st w (some id):=by
 have hc:=hx.cells hd;refine Gf.obj (ob:= .cells x.cells t) (n:=x.cells.size) (r:= .pointer (some ⟨w.heap.size,0,none⟩)) hs ho hn hk ?_ ?_ (Push.mk' _ _) ?_
 ·intro g' w' hm hb hI hh;exact⟨x.cells,t,(0,0),hh,hb.symm,fun o _=>by simp,by rw[hc.size];exact Nat.le_refl _,(hc.mono hm).at_,hI⟩
 ·simp[Instr.box,newVar,newRow,newObj,Sem.run]
 ·intro g' hl _;exact .ptr hl
theorem J3(hs:Co g st w){id c:Nat}{cs:List D}(hl:g.loc id=some c)(ho:st[id]?=some (.cells cs)∨st[id]?=some (.fcells cs)):Reads g w c 0 cs:=by
 obtain⟨o,ho',hr⟩:=hs.obj _ _ hl;rcases ho with ho|ho
 ·rw[ho]at ho';cases ho';obtain⟨A,T,fr,hr⟩:=hr;refine⟨fun j d hj=>?_⟩;have hj':j<A.size:=Nat.lt_of_lt_of_le (List.getElem?_eq_some_iff.1 hj).1 hr.len;refine⟨A[j],?_,hr.at_ j d _ hj (Array.getElem?_eq_getElem hj')⟩;simp[World.cell?,hr.heap,hj']
 ·rw[ho]at ho';cases ho';refine⟨fun j d hj=>?_⟩;obtain⟨v,a,b⟩:=hr j d hj;exact⟨v,by rw[Nat.zero_add];exact hs.imm _ _ _ a,b⟩
theorem Acm(hs:Co g st w){cs:List D}{c o:Nat}(hI:∀(j:Nat) (d:D),cs[j]?=some d→∃v,g.I c (o+j)=some v)
  (hv:∀(j:Nat) (d:D) (v:Value),cs[j]?=some d→g.I c (o+j)=some v→VR g d v):Reads g w c o cs:=
 ⟨fun j d hj=>by obtain⟨v,h⟩:=hI j d hj;exact⟨v,hs.imm _ _ _ h,hv j d v hj h⟩⟩
theorem A77{t:TypeId}{a:D}{x:Value}(hs:Co g st w)(hx:VR g a x)(h:Fp P t a st0=some (v,fx))
  (hf:∀ids,fx= .rd ids→∀id∈ids,st[id]?=st0[id]?):
  Gf P (do pure (.value (← Instr.loadAt t x))) v g st w none∧∃ids,fx= .rd ids:=by
 unfold Fp at h;split at h
 ·rename_i id off;cases hx with
  |ptr hl=>
   split at h
   case h_3=>cases h
   all_goals
    rename_i cs hst;cases ht:Dk P t cs off with
    |none=>simp[ht]at h
    |some v'=>
     simp only[ht,Option.map_some,Option.some.injEq,Prod.mk.injEq]at h;obtain⟨rfl,rfl⟩:=h;have hst':=hf [id] rfl id (by simp)
     rw[hst]at hst';have hr:=J3 hs hl (by first|exact .inl hst'|exact .inr hst')
     obtain⟨r,h1,h2⟩:=Oq (P:=P) (off:=off) hr ht;rw[Nat.zero_add]at h1;exact⟨Gf.of_val hs (by simp[Instr.loadAt,Instr.sureAddr,h1]) h2,_,rfl⟩
 ·rename_i cs;cases hx with
  |eptr hI hv=>
   cases ht:Dk P t cs 0 with
   |none=>simp[ht]at h
   |some v'=>simp only[ht,Option.map_some,Option.some.injEq,Prod.mk.injEq]at h;obtain⟨rfl,rfl⟩:=h;obtain⟨r,h1,h2⟩:=Oq (P:=P) (off:=0) (Acm hs hI hv) ht;rw[Nat.add_zero]at h1;exact⟨Gf.of_val hs (by simp[Instr.loadAt,Instr.sureAddr,h1]) h2,_,rfl⟩
 ·cases h
theorem Alu{t:TypeId}{a:D}{x:Value}{f:Nat}(hs:Co g st w)(hx:VR g a x)(h:Eh P t a f=some (v,fx)):
  Gf P (do pure (.value (← Instr.fieldAt t x f))) v g st w none∧fx= .pure:=by
 unfold Eh at h;split at h
 case h_2=>cases h
 rename_i fs hu;split at h
 case h_2=>cases h
 rename_i fd hfd;split at h
 case h_2=>cases h
 rename_i n hn;split at h
 case isTrue=>cases h
 rename_i hn0;have hrun:∀c o,(Instr.fieldAt t (.pointer (some ⟨c,o,none⟩)) f).run P w= .ok (.pointer (some ⟨c,o+fd.offset,none⟩)) w:=by intro c o;simp[Instr.fieldAt,run_underlying hu,hfd,Instr.sureAddr,fieldPlace,run_sizeOf hn,hn0,Ga]
 split at h
 ·cases h;cases hx with
  |ptr hl=>exact⟨Gf.of_val hs (hrun _ _) (.ptr hl),rfl⟩
 ·cases h;cases hx with
  |eptr hI hv=>
   refine⟨Gf.of_val hs (hrun _ _) (.eptr (fun j d hj=>?_) (fun j d v hj h=>?_)),rfl⟩
   ·rw[List.getElem?_drop]at hj;rw[Nat.add_assoc];exact hI _ _ hj
   ·rw[List.getElem?_drop]at hj;rw[Nat.add_assoc]at h;exact hv _ _ _ hj h
 ·cases h
theorem A32{t:TypeId}{a:D}{x:Value}{f:Nat}(hs:Co g st w)(hx:VR g a x)(h:M8 P t a f=some (v,fx)):
  Gf P (do pure (.value (← Instr.field t x f))) v g st w none∧fx= .pure:=by
 unfold M8 at h;split at h
 case h_2=>cases h
 rename_i fs cs hu;split at h
 case h_2=>cases h
 rename_i fd hfd;cases ht:Dk P fd.type cs fd.offset with
 |none=>simp[ht]at h
 |some v'=>
  simp only[ht,Option.map_some,Option.some.injEq,Prod.mk.injEq]at h;obtain⟨rfl,rfl⟩:=h;cases hx with
  |agg hz hv=>obtain⟨r,h1,h2⟩:=Tf (P:=P) (w:=w) ⟨hz,hv⟩ ht;exact⟨Gf.of_val hs (by simp[Instr.field,run_underlying hu,hfd,asAgg,h1]) h2,rfl⟩
theorem Nb{d:D}{n:Nat}(h:E5 d=some n):∃k m,d= .int k m∧0≤m∧m.toNat=n:=by
 unfold E5 at h;split at h
 ·rename_i k m;split at h
  ·rename_i h0;cases h;exact⟨k,m,rfl,h0,rfl⟩
  ·cases h
 ·cases h
theorem VR.int_inv{k:IntKind}{n:Int}{x:Value}(h:VR g (.int k n) x):x= .int k n:=by cases h;rfl
theorem VR.bool_inv{b:Bool}{x:Value}(h:VR g (.bool b) x):x= .bool b:=by cases h;rfl
theorem VR.str_inv{s:List UInt8}{x:Value}(h:VR g (.str s) x):∃b:ByteArray,b.data.toList=s∧x= .string b:=by cases h;exact⟨_,rfl,rfl⟩
theorem Akd{t:TypeId}{a i:D}{x y:Value}(hs:Co g st w)(hx:VR g a x)(hy:VR g i y)(h:Cf P t a i=some (v,fx)):
  Gf P (do pure (.value (← Instr.indexAt t x y))) v g st w none∧fx= .pure:=by
 unfold Cf at h;split at h
 case h_1=>cases h
 rename_i n hn;obtain⟨k,m,rfl,hm0,rfl⟩:=Nb hn;cases hy.int_inv;split at h
 ·rename_i e rows gr hu;split at h
  case h_2=>cases h
  rename_i r hr;split at h
  case isFalse=>cases h
  rename_i hsz;cases h;have hlt:m.toNat<rows.length:=(List.getElem?_eq_some_iff.1 hr).1;cases hx with
  |slNil=>simp at hlt
  |slEmp=>simp at hlt
  |sl hsz' hI hv hcap hgr=>
   rename_i c o sz cap;have hrl:r.length=sz:=hsz' r (List.mem_of_getElem? hr);rw[hrl]at hsz;refine⟨Gf.of_val hs (r:= .pointer (some ⟨c,o+m.toNat*sz,none⟩)) ?_ (.eptr (fun j d hj=>?_) (fun j d v hj h=>?_)),rfl⟩
   ·have:0≤m∧m<(rows.length:Int):=by omega
    simp[Instr.indexAt,run_underlying hu,asIntOf,this,run_sizeOf hsz,Ga]
   ·exact hI _ _ _ _ hr hj
   ·exact hv _ _ _ _ _ hr hj h
 ·rename_i e sz id off len cap hu;split at h
  case isFalse=>cases h
  rename_i hc;simp only[Bool.and_eq_true,decide_eq_true_eq]at hc;cases h;cases hx with
  |arr hl h1 h2 h3=>
   rename_i cap' c;refine⟨Gf.of_val hs (r:= .pointer (some ⟨c,off+m.toNat*sz,none⟩)) ?_ (.ptr hl),rfl⟩;have:0≤m∧m<(len:Int):=by omega
   simp[Instr.indexAt,run_underlying hu,asIntOf,this,run_sizeOf hc.2,Ga]
 ·rename_i len e id off hu;split at h
  case h_2=>cases h
  rename_i sz hsz;split at h
  case isFalse=>cases h
  rename_i hc;cases h;cases hx with
  |ptr hl=>
   rename_i c;refine⟨Gf.of_val hs (r:= .pointer (some ⟨c,off+m.toNat*sz,none⟩)) ?_ (.ptr hl),rfl⟩;have:0≤m∧m<(len:Int):=by omega
   simp[Instr.indexAt,run_underlying hu,asIntOf,Instr.sureAddr,this,run_sizeOf hsz,Ga]
 ·rename_i len e cs hu;split at h
  case h_2=>cases h
  rename_i sz hsz;split at h
  case isFalse=>cases h
  rename_i hc;cases h;cases hx with
  |eptr hI hv=>
   rename_i c o;refine⟨Gf.of_val hs (r:= .pointer (some ⟨c,o+m.toNat*sz,none⟩)) ?_ (.eptr (fun j d hj=>?_) (fun j d v hj h=>?_)),rfl⟩
   ·have:0≤m∧m<(len:Int):=by omega
    simp[Instr.indexAt,run_underlying hu,asIntOf,Instr.sureAddr,this,run_sizeOf hsz,Ga]
   ·rw[List.getElem?_drop]at hj;rw[Nat.add_assoc];exact hI _ _ hj
   ·rw[List.getElem?_drop]at hj;rw[Nat.add_assoc]at h;exact hv _ _ _ hj h
 ·cases h
theorem Azz{t:TypeId}{a i:D}{x y:Value}(hs:Co g st w)(hx:VR g a x)(hy:VR g i y)(h:Qa P t a i=some (v,fx)):
  Gf P (do pure (.value (← Instr.index t x y))) v g st w none∧fx= .pure:=by
 unfold Qa at h;split at h
 case h_1=>cases h
 rename_i n hn;obtain⟨k,m,rfl,hm0,rfl⟩:=Nb hn;cases hy.int_inv;split at h
 ·rename_i s hu;split at h
  case h_2=>cases h
  rename_i b hb;cases h;obtain⟨bs,rfl,rfl⟩:=hx.str_inv;refine⟨Gf.of_val hs (r:= .int .u8 b.toNat) ?_ (.int _ _),rfl⟩;have:bs[m.toNat]?=some b:=by rw[Array.getElem?_toList]at hb;exact hb
  simp[Instr.index,run_underlying hu,asIntOf,hm0,this]
 ·rename_i len e cs hu;split at h
  case isFalse=>cases h
  rename_i hc;split at h
  case h_2=>cases h
  rename_i sz hsz;cases ht:Dk P e cs (m.toNat*sz)with
  |none=>simp[ht]at h
  |some v'=>
   simp only[ht,Option.map_some,Option.some.injEq,Prod.mk.injEq]at h;obtain⟨rfl,rfl⟩:=h;cases hx with
   |agg hz hv=>
    obtain⟨r,h1,h2⟩:=Tf (P:=P) (w:=w) ⟨hz,hv⟩ ht;refine⟨Gf.of_val hs (r:=r) ?_ h2,rfl⟩;have:0≤m∧m<(len:Int):=by omega
    simp[Instr.index,run_underlying hu,asIntOf,this,run_sizeOf hsz,h1]
 ·cases h
end
section
variable{P:Program}{w:World}{g:G}{st st0:St}{v:D}{fx:Fx}
theorem Jo{s:Sem Value}{d:D}(h:Ai s=some d):∃r,s.run P w= .ok r w∧VR g d r:=by
 unfold Ai at h;split at h
 ·cases h;exact⟨_,rfl,.int _ _⟩
 ·cases h;exact⟨_,rfl,.bool _⟩
 ·cases h
theorem T9:∀(n d:Nat) (t:TypeId) (a b:D) (x y:Value) (r:Bool),n≤d→VR g a x→VR g b y→eqT P n t a b=some r→(Op.equalIn d t x y).run P w= .ok r w
 |0,_,_,_,_,_,_,_,_,_,_,h=>by simp[eqT]at h
 |n+1,0,_,_,_,_,_,_,hd,_,_,_=>by omega
 |n+1,d+1,t,a,b,x,y,r,hd,ha,hb,h=>by
  unfold eqT at h;split at h
  ·rename_i hu;cases h;cases ha;cases hb;exact run_equalIn_bool' w d t _ _ hu
  ·rename_i k' hu;split at h
   ·rename_i hk;subst hk;cases h;cases ha;cases hb;exact run_equalIn_int w d t _ _ _ _ hu
   ·cases h
  ·rename_i hu;cases h;obtain⟨s1,rfl,rfl⟩:=ha.str_inv;obtain⟨s2,rfl,rfl⟩:=hb.str_inv;rw[run_equalIn_string w d t _ _ hu,ByteArray.toList_eq,ByteArray.toList_eq]
  ·rename_i fs _ _ hu;split at h
   ·cases h
   ·rename_i hp;have hp':P.stoodInHeld t=false:=by simpa using hp
    have hf:P.fieldsOf t=fs:=by simp[Program.fieldsOf,hu]
    cases ha with
    |agg hsx hvx=>
     cases hb with
     |agg hsy hvy=>
      rename_i cx cy A B;rw[run_equalIn_struct (P:=P) w d t _ _ (by rw[hf];exact hu) hp',hf]
      have key:∀(l:List Field) (r:Bool),eqF P (eqT P n) cx cy l=some r→(Op.eqFields d A B l).run P w= .ok r w:=by
       intro l;induction l with
       |nil=>intro r h;simp[eqF]at h;subst h;simp[Op.eqFields]
       |cons f fs ih=>
        intro r h;unfold eqF at h;unfold Op.eqFields;by_cases hn:f.name≠ "_"
        ·rw[if_pos hn]at h;rw[if_pos hn];split at h
         case h_2=>cases h
         rename_i p q hp hq;obtain⟨u,hu1,hu2⟩:=Tf (P:=P) (w:=w) ⟨hsx,hvx⟩ hp;obtain⟨u',hu1',hu2'⟩:=Tf (P:=P) (w:=w) ⟨hsy,hvy⟩ hq;split at h
         ·rename_i he;have:=T9 n d f.type p q u u' true (by omega) hu2 hu2' he
          simp only[Sem.run_bind,hu1,hu1',this,Result.andThen_ok];simpa using ih r h
         ·rename_i he;have:=T9 n d f.type p q u u' false (by omega) hu2 hu2' he
          cases h;simp[hu1,hu1',this]
         ·cases h
        ·rw[if_neg hn]at h;rw[if_neg hn];exact ih r h
      exact key _ _ h
  ·cases h
theorem G7{op:BinOp}{t:TypeId}{x y:Operand}{a b:Value}(h:¬ (a= .nilIface∧b= .nilIface))(h':∀p q,a≠ .agg p∨b≠ .agg q):
  (eqGuard op t x y a b).run P w= .ok () w:=by
 unfold eqGuard;split
 case h_3=>simp
 all_goals
  simp only[Bool.not_true,BF];split
  ·exact absurd ⟨rfl,rfl⟩ h
  ·rename_i p q;rcases h' p q with h|h<;>exact absurd rfl h
  ·simp
theorem Aef{t:TypeId}{a b:D}{x y:Value}{r:Bool}(ha:VR g a x)(hb:VR g b y)(h:eqD P t a b=some r):
  (Op.equal t x y).run P w= .ok r w∧∀op ox oy,(eqGuard op t ox oy x y).run P w= .ok () w:=by
 unfold eqD at h;unfold Op.equal Op.maxDepth;split at h
 case h_21=>cases h
 case h_19=>
  rename_i hu;split at h
  ·cases h
  ·rename_i hg;refine⟨T9 20 10000 t _ _ _ _ r (by omega) ha hb h,fun op ox oy=>?_⟩
   cases ha with
   |agg=>cases hb with
    |agg=>exact run_eqGuard_agg w op t ox oy _ _ (by simpa using hg)
 case h_20=>
  refine⟨T9 20 10000 t _ _ _ _ r (by omega) ha hb h,fun op ox oy=>?_⟩
  cases ha;cases hb;exact G7 (by simp) (by simp)
 all_goals
  rename_i hu;cases h;show(Op.equalIn (9999+1) t x y).run P w=_∧_;generalize 9999=dd;cases ha<;>cases hb<;>exact⟨by simp[Op.equalIn,run_underlying hu],fun _ _ _=>G7 (by simp) (by simp)⟩
end
section
variable{P:Program}{w:World}{g:G}{st st0:St}{v:D}{fx:Fx}
theorem Amh{op:BinOp}{a b:List UInt8}{s u:ByteArray}{d:D}(ha:s.data.toList=a)(hb:u.data.toList=b)(h:Af1 op a b=some d):
  ∃r,(Op.stringOp op s u).run P w= .ok r w∧VR g d r:=by
 subst ha;subst hb;have e1:s.toList=s.data.toList:=ByteArray.toList_eq s;have e2:u.toList=u.data.toList:=ByteArray.toList_eq u;unfold Af1 at h;split at h
 ·split at h
  ·rename_i hl;cases h;refine⟨.string (s++u),?_,?_⟩
   ·have h1:s.size=s.data.toList.length:=by rw[Array.length_toList];rfl
    have h2:u.size=u.data.toList.length:=by rw[Array.length_toList];rfl
    have:¬ (((s.size+u.size:Nat):Int)>IntKind.i64.max):=by
     rw[h1,h2];have:IntKind.i64.max=9223372036854775807:=by decide
     rw[this];have:(2:Nat) ^ 40=1099511627776:=by decide
     omega
    simp only[Op.stringOp];rw[if_neg this];rfl
   ·have:(s++u).data.toList=s.data.toList++u.data.toList:=by simp
    rw[← this];exact .str _
  ·cases h
 all_goals first
  |(cases h;done)
  |(cases h;exact⟨_,by simp only[Op.stringOp,e1,e2];rfl,.bool _⟩)
theorem Ar1{op:BinOp}{t:TypeId}{a b:D}{x y:Value}{d:D}{ox oy:Operand}(ha:VR g a x)(hb:VR g b y)(h:Bo P op t a b=some d):
  ∃r,(do eqGuard op t ox oy x y;binOp op t x y:Sem Value).run P w= .ok r w∧VR g d r:=by
 unfold Bo at h;split at h
 ·rename_i k p k' q;cases ha.int_inv;cases hb.int_inv;have hg:(eqGuard op t ox oy (.int k p) (.int k' q)).run P w= .ok () w:=G7 (by simp) (by simp)
  split at h
  ·obtain⟨r,h1,h2⟩:=Jo (P:=P) (w:=w) (g:=g) h;exact⟨r,by simp only[Sem.run_bind,hg,Result.andThen_ok];exact h1,h2⟩
  ·obtain⟨r,h1,h2⟩:=Jo (P:=P) (w:=w) (g:=g) h;exact⟨r,by simp only[Sem.run_bind,hg,Result.andThen_ok];exact h1,h2⟩
  all_goals
   split at h
   case isFalse=>cases h
   rename_i hk;subst hk;obtain⟨r,h1,h2⟩:=Jo (P:=P) (w:=w) (g:=g) h;refine⟨r,?_,h2⟩;simp only[Sem.run_bind,hg,Result.andThen_ok]
   first
    |(simp only[binOp,ne_eq,not_true_eq_false,if_false];exact h1)
    |(cases op<;>first|(exact absurd rfl ‹_›)|(simp_all [binOp];done))
 ·obtain⟨s,hs,rfl⟩:=ha.str_inv;obtain⟨u,hu,rfl⟩:=hb.str_inv;obtain⟨r,h1,h2⟩:=Amh (P:=P) (w:=w) (g:=g) hs hu h;have hg:(eqGuard op t ox oy (.string s) (.string u)).run P w= .ok () w:=G7 (by simp) (by simp)
  refine⟨r,?_,h2⟩;simp only[Sem.run_bind,hg,Result.andThen_ok];cases op<;>exact h1
 ·rename_i n1 n2;split at h
  ·cases he:eqD P t a b with
   |none=>simp[he]at h
   |some r=>
    simp only[he,Option.map_some,Option.some.injEq]at h;subst h;obtain⟨h1,h2⟩:=Aef (P:=P) (w:=w) ha hb he;refine⟨.bool r,?_,.bool _⟩;simp only[Sem.run_bind,h2,Result.andThen_ok];have:(binOp .eql t x y).run P w=((Op.equal t x y).run P w).andThen fun b w'=> .ok (.bool b) w':=by cases ha<;>cases hb<;>first|(simp[binOp];done)|(exfalso;first|exact n1 _ _ _ _ rfl rfl|exact n2 _ _ rfl rfl|simp[eqD]at he)
    rw[this,h1];rfl
  ·cases he:eqD P t a b with
   |none=>simp[he]at h
   |some r=>
    simp only[he,Option.map_some,Option.some.injEq]at h;subst h;obtain⟨h1,h2⟩:=Aef (P:=P) (w:=w) ha hb he;refine⟨.bool (!r),?_,.bool _⟩;simp only[Sem.run_bind,h2,Result.andThen_ok];have:(binOp .neq t x y).run P w=((Op.equal t x y).run P w).andThen fun b w'=> .ok (.bool !b) w':=by cases ha<;>cases hb<;>first|(simp[binOp];done)|(exfalso;first|exact n1 _ _ _ _ rfl rfl|exact n2 _ _ rfl rfl|simp[eqD]at he)
    rw[this,h1];rfl
  ·cases h
theorem At5{op:UnOp}{a:D}{x:Value}{d:D}(ha:VR g a x)(h:Gc op a=some d):∃r,(Op.unary op x).run P w= .ok r w∧VR g d r:=by
 unfold Gc at h;split at h
 ·cases ha.int_inv;exact Jo (P:=P) (w:=w) (g:=g) h
 ·cases ha.int_inv;exact Jo (P:=P) (w:=w) (g:=g) h
 ·cases ha.bool_inv;cases h;exact⟨_,rfl,.bool _⟩
 ·cases h
end
section
variable{P:Program}{w:World}{g:G}{st st0:St}{v:D}{fx:Fx}
theorem Aiw{ds:List D}{A:Array Value}{bs:List UInt8}(h:F8 g ds A)(hb:Ip ds=some bs):
  ∃ns:List Int,A=(ns.map (Value.int .u8)).toArray∧ns.map (fun n=>UInt8.ofNat n.toNat)=bs:=by
 obtain⟨A⟩:=A;induction ds generalizing A bs with
 |nil=>
  have:A= []:=by have:=h.size;simpa using this
  subst this;simp[Ip]at hb;subst hb;exact⟨[],rfl,rfl⟩
 |cons d ds ih=>
  cases A with
  |nil=>have:=h.size;simp at this
  |cons x A=>
   unfold Ip at hb;split at hb
   case h_2=>cases hb
   rename_i b bs' hd hds;cases hb;have hx:=h.at_ 0 d x rfl rfl;have htl:F8 g ds ⟨A⟩:=⟨by have:=h.size;simpa using this,fun j d' v' a b=>h.at_ (j+1) d' v' (by simpa using a) (by simpa using b)⟩
   obtain⟨ns,h1,h2⟩:=ih hds A htl;unfold toByte at hd;split at hd
   ·rename_i n;cases hd;cases hx.int_inv;refine⟨n::ns,?_,by simp[h2]⟩
    have:A=ns.map (Value.int .u8):=by simpa using h1
    simp[this]
   ·cases hd
theorem An1(ns:List Int)(s:ByteArray):(ns.foldl (fun r n=>r.push (UInt8.ofNat n.toNat)) s).data.toList=s.data.toList++ns.map (fun n=>UInt8.ofNat n.toNat):=by
 induction ns generalizing s with
 |nil=>simp
 |cons a l ih=>simp[ih]
theorem Rq{c o len cap:Nat}{ds:List D}{bs:List UInt8}(hr:Reads g w c o ds)(hl:ds.length=len)(hb:Ip ds=some bs):
  ∃r,(Conv.bytesToString (.slice (some ⟨c,o,none⟩) len cap)).run P w= .ok r w∧VR g (.str bs) r:=by
 obtain⟨A,h1,h2⟩:=Es (P:=P) hr;rw[hl]at h1;obtain⟨ns,rfl,h4⟩:=Aiw h2 hb;refine⟨_,run_bytesToString w _ len cap ns h1,?_⟩;have:(ns.foldl (fun r n=>r.push (UInt8.ofNat n.toNat)) ByteArray.empty).data.toList=bs:=by rw[An1,h4];rfl
 rw[← this];exact .str _
theorem Ann(w0:World)(A:Array Value)(T:TypeId)(n:Nat):
  ({w0 with heap:=w0.heap.push (.cells A T)}:World).freeze {block:=w0.heap.size,off:=n} 1= {w0 with heap:=w0.heap.push (.cells A T (n,n+1))}:=by
 simp only[World.freeze];rw[if_neg (by omega)]
 congr 1;apply Array.ext_getElem?;intro i;rw[Array.getElem?_modify,Array.getElem?_push,Array.getElem?_push];by_cases hi:i=w0.heap.size
 ·subst hi;simp
 ·simp[Ne.symm hi,hi]
theorem Reads.ofRows(hs:Co g st w){rows:List (List D)}{c o sz:Nat}(hsz:∀r∈rows,r.length=sz)
  (hI:∀(i:Nat) (r:List D) (j:Nat) (d:D),rows[i]?=some r→r[j]?=some d→∃v,g.I c (o+i*sz+j)=some v)
  (hv:∀(i:Nat) (r:List D) (j:Nat) (d:D) (v:Value),rows[i]?=some r→r[j]?=some d→g.I c (o+i*sz+j)=some v→VR g d v):
  Reads g w c o rows.flatten:=by
 induction rows generalizing o with
 |nil=>exact⟨by simp⟩
 |cons r rows ih=>
  have hr:r.length=sz:=hsz r (by simp)
  have htl:=ih (o:=o+sz) (fun r hr=>hsz r (by simp[hr]))
   (fun i r j d a b=>by have:=hI (i+1) r j d (by simpa using a) b;rwa [show o+(i+1)*sz+j=o+sz+i*sz+j from by rw[Nat.add_mul];omega]at this)
   (fun i r j d v a b e=>hv (i+1) r j d v (by simpa using a) b (by rw[show o+(i+1)*sz+j=o+sz+i*sz+j from by rw[Nat.add_mul];omega];exact e))
  refine⟨fun j d hj=>?_⟩;rw[List.flatten_cons,List.getElem?_append]at hj;split at hj
  ·obtain⟨v,e⟩:=hI 0 r j d rfl hj;rw[Nat.zero_mul,Nat.add_zero]at e;exact⟨v,hs.imm _ _ _ e,hv 0 r j d v rfl hj (by rw[Nat.zero_mul,Nat.add_zero];exact e)⟩
  ·rename_i hn;obtain⟨v,e,q⟩:=htl.at_ (j - r.length) d hj;rw[hr]at e hn;rw[show o+sz+(j - sz)=o+j from by omega]at e
   exact⟨v,e,q⟩
theorem He{rows:List (List D)}{sz:Nat}(hsz:∀r∈rows,r.length=sz):rows.flatten.length=rows.length*sz:=by
 induction rows with
 |nil=>simp
 |cons r rows ih=>
  rw[List.flatten_cons,List.length_append,ih (fun r hr=>hsz r (by simp[hr])),hsz r (by simp),List.length_cons,Nat.add_mul]
  omega
theorem Asw{s d:TypeId}{a:D}{x:Value}(hs:Co g st w)(hx:VR g a x)(h:Dr P s d a st0=some (v,fx))
  (hf:∀ids,fx= .rd ids→∀id∈ids,st[id]?=st0[id]?)
  (ha:∀o,fx= .al o→st[st0.length]?=some o∧g.loc st0.length=none∧g.tk st0.length=none):
  Gf P (do pure (.value (← convert s d x))) v g st w (match fx with| .al _=>some st0.length|_=>none):=by
 unfold Dr at h;split at h
 ·rename_i k0 k k' n h1 h2 _;cases h;cases hx.int_inv;exact Gf.of_val hs (by simp[convert,run_underlying h1,run_underlying h2,Conv.intToInt]) (.int _ _)
 ·rename_i s' h1 h2 _;cases h;obtain⟨b,hb,rfl⟩:=hx.str_inv;exact Gf.of_val hs (by simp[convert,run_underlying h1,run_underlying h2]) hx
 ·rename_i e s' h1 h2 _;split at h
  case h_2=>cases h
  rename_i he;split at h
  case isFalse=>cases h
  rename_i hc;simp only[Bool.and_eq_true,decide_eq_true_eq]at hc;cases h;obtain⟨b,rfl,rfl⟩:=hx.str_inv;obtain⟨ho,hn,hk⟩:=ha _ rfl;have hlen:b.data.toList.length=b.size:=by rw[Array.length_toList];rfl
  let cap:=Question.cut (.appendCap b.size 0 e) (w.tape w.drawn (.appendCap b.size 0 e));have hcap:b.size≤cap:=by simp only[cap,Question.cut];omega
  let A:Array Value:=(b.data.map fun x=> .int .u8 x.toNat)++Array.replicate (cap - b.size) (.int .u8 0);have hA:A.size=cap:=by have:b.data.size=b.size:=rfl;simp only[A,Array.size_append,Array.size_map,Array.size_replicate,this];omega
  refine Gf.obj (ob:= .cells A e (A.size,A.size+1)) (n:=cap) (r:= .slice (some ⟨w.heap.size,0,none⟩) b.size cap)
   (w':= {w with heap:=w.heap.push (.cells A e (A.size,A.size+1)),drawn:=w.drawn+1}) hs ho hn hk ?_ ?_ ⟨rfl,rfl,rfl⟩ ?_
  ·intro g' w' hm hb hI hh;refine⟨A,e,_,hh,by rw[hb,hA],fun o ho=>by simp;omega,?_,?_,hI⟩
   ·simp[bytesD,hlen,hA,hcap]
   ·intro j d v hj hv;simp only[bytesD,List.getElem?_map]at hj;cases hbj:b.data.toList[j]? with
    |none=>simp[hbj]at hj
    |some y=>
     simp only[hbj,Option.map_some,Option.some.injEq]at hj;subst hj;have hlt:j<b.data.size:=by have:=(List.getElem?_eq_some_iff.1 hbj).1;simpa using this
     simp only[A]at hv;rw[Array.getElem?_append]at hv;simp only[Array.size_map,hlt,if_true,Array.getElem?_map]at hv;rw[Array.getElem?_toList]at hbj;rw[hbj]at hv;simp at hv;subst hv;exact .int _ _
  ·have hA':A.size=b.size+(cap - b.size):=by rw[hA];omega
   simp only[convert,Sem.run_bind,run_underlying h1,run_underlying h2,run_underlying he,Result.andThen_ok];simp only[Conv.stringToBytes,Sem.run_bind,choose,Sem.run,Question.forced,BF,Result.andThen_ok,newRow,newObj,Sem.run_pure,markStringish,shape,freeze];have e2:=Ann ({w with drawn:=w.drawn+1}:World) A e A.size;simp only[World.shape?,Array.getElem?_push_size];simp only[Sem.run];exact congrArg (fun w'=>Result.ok (Next.value (Value.slice (some {block:=w.heap.size,off:=0}) b.size cap)) w') e2
  ·intro g' hl hb;rw[hlen];refine .arr hl (Nat.le_refl _) hcap ?_;rw[hb];omega
 ·rename_i e h1 h2 _;split at h
  ·rename_i he _;cases h;cases hx;refine Gf.of_val hs (r:= .string .empty) ?_ (.str ByteArray.empty);rw[run_convert_bytes_string w _ _ e _ _ _ h1 he h2];simp[Conv.bytesToString]
  ·rename_i rows gr he _;split at h
   case isFalse=>cases h
   rename_i h1s;cases hb:Ip rows.flatten with
   |none=>simp[hb]at h
   |some bs=>
    simp only[hb,Option.map_some,Option.some.injEq,Prod.mk.injEq]at h;obtain⟨rfl,rfl⟩:=h;cases hx with
    |slNil hn=>simp[Ip]at hb;subst hb;refine Gf.of_val hs (r:= .string .empty) ?_ (.str ByteArray.empty);rw[run_convert_bytes_string w _ _ e _ _ _ h1 he h2];simp[Conv.bytesToString]
    |slEmp hn hc=>simp[Ip]at hb;subst hb;refine Gf.of_val hs (r:= .string .empty) ?_ (.str ByteArray.empty);rw[run_convert_bytes_string w _ _ e _ _ _ h1 he h2];simp[Conv.bytesToString,loadCells,loadCellsFrom]
    |sl hsz hI hv hcap hgr=>
     rename_i c o sz cap;have hr:=Reads.ofRows hs hsz hI hv;have hl:rows.flatten.length=rows.length:=by rw[He (sz:=1) (fun r hr=>by simpa using List.all_eq_true.1 h1s r hr)];omega
     obtain⟨r,h3,h4⟩:=Rq (P:=P) (cap:=cap) hr hl hb;refine Gf.of_val hs (r:=r) ?_ h4;rw[run_convert_bytes_string w _ _ e _ _ _ h1 he h2];exact h3
  ·rename_i sz id off len cap he _;split at h
   case h_3=>cases h
   all_goals
    rename_i cs hst;split at h
    case isFalse=>cases h
    rename_i hle;cases hb:Ip ((cs.drop off).take len)with
    |none=>simp[hb]at h
    |some bs=>
     simp only[hb,Option.map_some,Option.some.injEq,Prod.mk.injEq]at h;obtain⟨rfl,rfl⟩:=h;cases hx with
     |arr hl h3 h4 h5=>
      rename_i cap' c;have hst':=hf [id] rfl id (by simp)
      rw[hst]at hst';have hr:=((J3 hs hl (by first|exact .inl hst'|exact .inr hst')).drop off).take len
      rw[Nat.zero_add]at hr;obtain⟨r,h6,h7⟩:=Rq (P:=P) (len:=len) (cap:=cap') hr (by simp;omega) hb
      refine Gf.of_val hs (r:=r) ?_ h7;rw[run_convert_bytes_string w _ _ e _ _ _ h1 he h2];exact h6
  ·cases h
 ·cases h
end
section
variable{P:Program}{w:World}{g:G}{st st0:St}{v:D}{fx:Fx}{ρ:Operand→D}{σ:Operand→Value}
theorem Sj{x:Option Operand}{n:Option Nat}(hv:∀y,x=some y→VR g (ρ y) (σ y))(h:Vg ρ x=some n):
  (x=none∧n=none)∨∃y k m,x=some y∧n=some m∧σ y= .int k m:=by
 unfold Vg at h;split at h
 ·cases h;exact .inl ⟨rfl,rfl⟩
 ·rename_i y;split at h
  ·rename_i m hm;cases h;obtain⟨k,z,hz,h0,rfl⟩:=Nb hm;have:=hv y rfl;rw[hz]at this;refine .inr ⟨y,k,z.toNat,rfl,rfl,?_⟩;rw[this.int_inv,Int.toNat_of_nonneg h0]
  ·cases h
theorem Arc{k:IntKind}{m y:Nat}{c:BoundsCode}(h:m≤y):(Instr.sliceBound (.int k m) y c).run P w= .ok m w:=by
 have:(0:Int)≤m∧(m:Int)≤y:=by omega
 simp[Instr.sliceBound,asIntOf,this]
theorem Gs{b:Bool}{len cap:Nat}{lo hi mx:Option Operand}{l h m:Option Nat}
  (hl:(lo=none∧l=none)∨∃y k n,lo=some y∧l=some n∧σ y= .int k n)
  (hh:(hi=none∧h=none)∨∃y k n,hi=some y∧h=some n∧σ y= .int k n)
  (hm:(mx=none∧m=none)∨∃y k n,mx=some y∧m=some n∧σ y= .int k n)
  (hmh:m.isSome=true→h.isSome=true)(h1:l.getD 0≤h.getD len)(h2:h.getD len≤m.getD cap)(h3:m.getD cap≤cap):
  (Instr.sliceBounds b len cap (lo.map σ) (hi.map σ) (mx.map σ)).run P w= .ok (l.getD 0,h.getD len,m.getD cap) w:=by
 rcases hl with⟨rfl,rfl⟩|⟨y1,k1,n1,rfl,rfl,e1⟩<;>rcases hh with⟨rfl,rfl⟩|⟨y2,k2,n2,rfl,rfl,e2⟩<;>
  rcases hm with⟨rfl,rfl⟩|⟨y3,k3,n3,rfl,rfl,e3⟩<;>simp at h1 h2 h3 hmh
 all_goals simp_all [Instr.sliceBounds,Arc]
theorem Azp{t:TypeId}{a:D}{x:Value}{lo hi mx:Option Operand}{l h m:Option Nat}(hs:Co g st w)(hx:VR g a x)
  (hl:(lo=none∧l=none)∨∃y k n,lo=some y∧l=some n∧σ y= .int k n)
  (hh:(hi=none∧h=none)∨∃y k n,hi=some y∧h=some n∧σ y= .int k n)
  (hm:(mx=none∧m=none)∨∃y k n,mx=some y∧m=some n∧σ y= .int k n)
  (he:Lu P t a l h m=some (v,fx))(hmh:m.isSome=true→h.isSome=true):
  Gf P (do pure (.value (← Instr.sliceAt t x (lo.map σ) (hi.map σ) (mx.map σ)))) v g st w none∧fx= .pure:=by
 unfold Lu at he;split at he
 ·rename_i s hu;dsimp only at he;split at he
  case isFalse=>cases he
  rename_i hc;simp only[Bool.and_eq_true,decide_eq_true_eq]at hc;obtain⟨⟨hmn,h1⟩,h2⟩:=hc;cases he;obtain⟨b,rfl,rfl⟩:=hx.str_inv;have hlen:b.data.toList.length=b.size:=by rw[Array.length_toList];rfl
  rw[hlen]at h1 h2 ⊢;have hm0:m=none:=by cases m with|none=>rfl|some _=>simp at hmn
  subst hm0;have hmx:mx=none:=by
   rcases hm with⟨e,_⟩|⟨_,_,_,_,e,_⟩
   ·exact e
   ·cases e
  subst hmx;have hb:=Gs (P:=P) (w:=w) (b:=false) (len:=b.size) (cap:=b.size) hl hh (.inl ⟨rfl,rfl⟩) (by simp) h1 (by simpa using h2) (by simp)
  refine⟨Gf.of_val hs (r:= .string (b.extract (l.getD 0) (h.getD b.size))) ?_ ?_,rfl⟩
  ·simp[Instr.sliceAt,Instr.slice,run_underlying hu]at hb ⊢;simp[hb]
  ·have:(b.extract (l.getD 0) (h.getD b.size)).data.toList=((b.data.toList.take (h.getD b.size)).drop (l.getD 0)):=by
    rw[← ByteArray.toList_eq,Lib.extract_toList,List.drop_take]
   rw[← this];exact .str _
 ·rename_i e hu;split at he
  case isFalse=>cases he
  rename_i hc;simp only[Bool.and_eq_true,decide_eq_true_eq]at hc;obtain⟨⟨⟨h1,h2⟩,h3⟩,h4⟩:=hc;cases he;cases hx;obtain⟨n,hn⟩:=Option.isSome_iff_exists.1 h4;have hb:=Gs (P:=P) (w:=w) (b:=true) (len:=0) (cap:=0) hl hh hm hmh (by omega) (by omega) (by omega)
  rw[h1,h2,h3]at hb;refine⟨Gf.of_val hs (r:= .slice none 0 0) ?_ .nilsl,rfl⟩;simp[Instr.sliceAt,Instr.slice,run_underlying hu,hb,run_sizeOf hn]
 ·rename_i e rows gr hu;dsimp only at he;split at he
  case isFalse=>cases he
  rename_i hc;simp only[Bool.and_eq_true,decide_eq_true_eq]at hc;obtain⟨⟨h1,h2⟩,h3⟩:=hc;unfold rowsFit at h3;split at h3
  case h_2=>cases h3
  rename_i z hz;have hfin:∃gr',v= .sl ((rows.take (h.getD rows.length)).drop (l.getD 0)) gr'∧fx= .pure∧((m=none∧(gr'=if h.getD rows.length=rows.length && l.getD 0 !=h.getD rows.length then gr else .none))∨(m=some (h.getD rows.length)∧gr'= .exact)):=by
   split at he
   ·cases he;exact⟨_,rfl,rfl,.inl ⟨rfl,rfl⟩⟩
   ·split at he
    ·rename_i hmm;cases he;subst hmm;exact⟨_,rfl,rfl,.inr ⟨rfl,rfl⟩⟩
    ·cases he
  obtain⟨gr',rfl,rfl,hg⟩:=hfin;refine⟨?_,rfl⟩;have hlen':((rows.take (h.getD rows.length)).drop (l.getD 0)).length=h.getD rows.length - l.getD 0:=by simp;omega
  cases hx with
  |slNil hn=>
   have hh0:h.getD 0=0:=by simpa using h2
   have hl0:l.getD 0=0:=by have:l.getD 0≤h.getD 0:=h1;omega
   have hm0:m.getD 0=0:=by
    rcases hg with⟨rfl,_⟩|⟨rfl,_⟩
    ·rfl
    ·exact hh0
   have hb:=Gs (P:=P) (w:=w) (b:=true) (len:=0) (cap:=0) hl hh hm hmh (by omega) (by omega) (by omega)
   rw[hl0,hh0,hm0]at hb;refine Gf.of_val hs (r:= .slice none 0 0) ?_ ?_
   ·simp[Instr.sliceAt,Instr.slice,run_underlying hu,hb,run_sizeOf hz]
   ·simp only[List.take_nil,List.drop_nil];refine .slNil ?_;rcases hg with⟨_,rfl⟩|⟨_,rfl⟩
    ·simp only[List.length_nil,hh0,hl0];simp
    ·simp
  |slEmp hn hcx=>
   rename_i a cap;have hh0:h.getD 0=0:=by simpa using h2
   have hl0:l.getD 0=0:=by have:l.getD 0≤h.getD 0:=h1;omega
   have hmc:m.getD cap≤cap:=by
    rcases hg with⟨rfl,_⟩|⟨rfl,_⟩
    ·exact Nat.le_refl _
    ·show h.getD 0≤cap;omega
   have hb:=Gs (P:=P) (w:=w) (b:=true) (len:=0) (cap:=cap) hl hh hm hmh (by omega) (by omega) hmc
   rw[hl0,hh0]at hb;refine Gf.of_val hs (r:= .slice (some a) 0 (m.getD cap)) ?_ ?_
   ·simp[Instr.sliceAt,Instr.slice,run_underlying hu,hb,run_sizeOf hz,Addr.add]
   ·simp only[List.take_nil,List.drop_nil];rcases hg with⟨rfl,rfl⟩|⟨rfl,rfl⟩
    ·refine .slEmp ?_ ?_
     ·simp only[List.length_nil,hh0,hl0];simp
     ·simp only[List.length_nil,hh0,hl0];simp
    ·exact .slEmp (by simp) (fun _=>hh0)
  |sl hsz hI hv hcap hgr=>
   rename_i c o sz cap;have hmc:m.getD cap≤cap∧h.getD rows.length≤m.getD cap:=by
    rcases hg with⟨rfl,_⟩|⟨rfl,_⟩
    ·exact⟨Nat.le_refl _,Nat.le_trans h2 hcap⟩
    ·exact⟨Nat.le_trans h2 hcap,Nat.le_refl _⟩
   have hb:=Gs (P:=P) (w:=w) (b:=true) (len:=rows.length) (cap:=cap) hl hh hm hmh h1 hmc.2 hmc.1;have hrun:(Instr.sliceAt t (.slice (some ⟨c,o,none⟩) rows.length cap) (lo.map σ) (hi.map σ) (mx.map σ)).run P w=
     .ok (.slice (if m.getD cap=l.getD 0 then some ⟨c,o,none⟩else some ⟨c,o+l.getD 0*z,none⟩) (h.getD rows.length - l.getD 0) (m.getD cap - l.getD 0)) w:=by
    simp[Instr.sliceAt,Instr.slice,run_underlying hu,hb,run_sizeOf hz,Ga]
   refine Gf.of_val hs hrun ?_;rw[← hlen'];by_cases hemp:l.getD 0=h.getD rows.length
   ·have hnil:(rows.take (h.getD rows.length)).drop (l.getD 0)= []:=by
     apply List.eq_nil_of_length_eq_zero;rw[hlen'];omega
    rw[hnil];have hok:∀o',VR g (.sl [] gr') (.slice (some ⟨c,o',none⟩) ([]:List (List D)).length (m.getD cap - l.getD 0)):=fun o'=>
     .sl (sz:=0) (by simp) (by simp) (by simp) (by simp) (by
      rcases hg with⟨rfl,rfl⟩|⟨rfl,rfl⟩
      ·have:(l.getD 0 !=h.getD rows.length)=false:=by simp[hemp]
       rw[this];simp[Aca]
      ·simp[Aca];omega)
    split
    ·exact hok _
    ·exact hok _
   ·have hml:m.getD cap≠l.getD 0:=by omega
    rw[if_neg hml];have hne:0<rows.length:=by omega
    have hszz:sz=z:=by have h4:=hsz rows[0] (List.getElem_mem hne);have h5:=List.all_eq_true.1 h3 rows[0] (List.getElem_mem hne);simp at h5;omega
    subst hszz;refine .sl (sz:=sz) (fun r hr=>hsz r (List.mem_of_mem_take (List.mem_of_mem_drop hr))) (fun i r j d hr hj=>?_) (fun i r j d v hr hj h=>?_) (by rw[hlen'];omega) ?_
    ·rw[List.getElem?_drop,List.getElem?_take]at hr;split at hr
     ·obtain⟨v,hv'⟩:=hI _ _ _ _ hr hj;refine⟨v,?_⟩;rw[← hv'];congr 1;rw[Nat.add_mul];omega
     ·cases hr
    ·rw[List.getElem?_drop,List.getElem?_take]at hr;split at hr
     ·refine hv _ _ _ _ _ hr hj ?_;rw[← h];congr 1;rw[Nat.add_mul];omega
     ·cases hr
    ·rcases hg with⟨rfl,rfl⟩|⟨rfl,rfl⟩
     ·have hne':(l.getD 0 !=h.getD rows.length)=true:=by simpa using hemp
      rw[hne',Bool.and_true];split
      ·rename_i heq;simp only[decide_eq_true_eq]at heq;have hlen2:((rows.take (h.getD rows.length)).drop (l.getD 0)).length=rows.length - l.getD 0:=by rw[hlen'];omega
       rw[hlen2];cases gr with
       |none=>trivial
       |exact=>simp only[Aca]at hgr ⊢;simp;omega
       |tok tt gen=>
        obtain⟨k,e1,e2,e3⟩:=hgr;refine⟨k,e1,e2,fun e4=>?_⟩;obtain⟨e5,e6,e7⟩:=e3 e4;have hle:l.getD 0≤rows.length:=by omega
        have hlc:l.getD 0≤cap:=by omega
        refine⟨e5,?_,?_⟩
        ·rw[e6,Nat.add_assoc,← Nat.add_mul];congr 2;omega
        ·simp only[Option.getD_none];rw[Nat.add_assoc,← Nat.add_mul,Nat.add_sub_cancel' hlc];exact e7
      ·trivial
     ·simp only[Aca,Option.getD_some];rw[hlen']
 ·rename_i e sz id off len cap hu;dsimp only at he;split at he
  case isFalse=>
   split at he
   case isFalse=>cases he
   rename_i hc;simp only[Bool.and_eq_true,decide_eq_true_eq]at hc;obtain⟨⟨⟨⟨hz,hms⟩,h1⟩,h2⟩,h3⟩:=hc;obtain⟨k,rfl⟩:=Option.isSome_iff_exists.1 hms;cases he;cases hx with
   |arr hl' h4 h5 h6=>
    rename_i cap' c;have hb:=Gs (P:=P) (w:=w) (b:=true) (len:=len) (cap:=cap') hl hh hm hmh h1 (by simpa using h2) (by simp at h3 ⊢;omega)
    have hrun:(Instr.sliceAt t (.slice (some ⟨c,off,none⟩) len cap') (lo.map σ) (hi.map σ) (mx.map σ)).run P w=
      .ok (.slice (if k=l.getD 0 then some ⟨c,off,none⟩else some ⟨c,off+l.getD 0*sz,none⟩) (h.getD len - l.getD 0) (k - l.getD 0)) w:=by
     simp[Instr.sliceAt,Instr.slice,run_underlying hu,hb,run_sizeOf hz,Ga]
    exact⟨Gf.of_val hs hrun (.undef _),rfl⟩
  rename_i hc;simp only[Bool.and_eq_true,decide_eq_true_eq]at hc;obtain⟨⟨⟨hz,hmn⟩,h1⟩,h2⟩:=hc;have hm0:m=none:=by cases m with|none=>rfl|some _=>simp at hmn
  subst hm0;cases hx with
  |arr hl' h3 h4 h5=>
   rename_i cap' c;have hb:=Gs (P:=P) (w:=w) (b:=true) (len:=len) (cap:=cap') hl hh hm hmh h1 (by simp;omega) (by simp)
   have hrun:(Instr.sliceAt t (.slice (some ⟨c,off,none⟩) len cap') (lo.map σ) (hi.map σ) (mx.map σ)).run P w=
     .ok (.slice (if cap'=l.getD 0 then some ⟨c,off,none⟩else some ⟨c,off+l.getD 0*sz,none⟩) (h.getD len - l.getD 0) (cap' - l.getD 0)) w:=by
    simp[Instr.sliceAt,Instr.slice,run_underlying hu,hb,run_sizeOf hz,Ga]
   split at he
   ·rename_i hemp;cases he;refine⟨Gf.of_val hs hrun ?_,rfl⟩;have e0:h.getD len - l.getD 0=([]:List (List D)).length:=by simp;omega
    rw[e0];split
    ·exact .sl (sz:=0) (by simp) (by simp) (by simp) (by simp) trivial
    ·exact .sl (sz:=0) (by simp) (by simp) (by simp) (by simp) trivial
   ·rename_i hemp;cases he;refine⟨Gf.of_val hs hrun ?_,rfl⟩;rw[if_neg (by omega)]
    refine .arr hl' (by omega) (by omega) ?_
    have:l.getD 0≤cap':=by omega
    rw[Nat.add_assoc,← Nat.add_mul,Nat.add_sub_cancel' this];exact h5
 ·cases he
theorem B6n{b:Bool}{t:TypeId}{a:D}{x:Value}{lo hi mx:Option Operand}{l h m:Option Nat}(hs:Co g st w)(hx:VR g a x)
  (hl:(lo=none∧l=none)∨∃y k n,lo=some y∧l=some n∧σ y= .int k n)
  (hh:(hi=none∧h=none)∨∃y k n,hi=some y∧h=some n∧σ y= .int k n)
  (hm:(mx=none∧m=none)∨∃y k n,mx=some y∧m=some n∧σ y= .int k n)
  (he:Bqz P b t a l h m=some (v,fx))(hmh:m.isSome=true→h.isSome=true):
  Gf P (do pure (.value (← Instr.sliceAt t x (lo.map σ) (hi.map σ) (mx.map σ)))) v g st w none∧fx= .pure:=by
 unfold Bqz at he;split at he
 ·rename_i sz id off len cap;split at he
  case isFalse=>exact Azp hs hx hl hh hm he hmh
  rename_i hc;simp only[Bool.and_eq_true,decide_eq_true_eq]at hc;obtain⟨⟨⟨hz,hmn⟩,h1⟩,h2⟩:=hc;obtain⟨e,hu,hz⟩:=Option.bind_eq_some_iff.1 hz;unfold Cx at hu;split at hu
  case h_2=>cases hu
  rename_i e' hu';cases hu;have hm0:m=none:=by cases m with|none=>rfl|some _=>simp at hmn
  subst hm0;cases he;cases hx with
  |arr hl' h3 h4 h5=>
   rename_i cap' c;have hb:=Gs (P:=P) (w:=w) (b:=true) (len:=len) (cap:=cap') hl hh hm hmh (by omega) (by simp;omega) (by simp)
   have hrun:(Instr.sliceAt t (.slice (some ⟨c,off,none⟩) len cap') (lo.map σ) (hi.map σ) (mx.map σ)).run P w=
     .ok (.slice (if cap'=l.getD 0 then some ⟨c,off,none⟩else some ⟨c,off+l.getD 0*sz,none⟩) (h.getD len - l.getD 0) (cap' - l.getD 0)) w:=by
    simp[Instr.sliceAt,Instr.slice,run_underlying hu',hb,run_sizeOf hz,Ga]
   rw[if_neg (by omega),show h.getD len - l.getD 0=0 from by omega]at hrun
   refine⟨Gf.of_val hs hrun ?_,rfl⟩;refine .arr hl' (by omega) (by omega) ?_
   have:l.getD 0≤cap':=by omega
   rw[Nat.add_assoc,← Nat.add_mul,Nat.add_sub_cancel' this];exact h5
 ·exact Azp hs hx hl hh hm he hmh
end
section
variable{P:Program}{w:World}{g:G}{st st0:St}{v:D}{fx:Fx}{ρ:Operand→D}{σ:Operand→Value}
theorem run_checkKey(em:Bool):∀(n d:Nat) (t:TypeId) (a:D) (x:Value),n≤d→VR g a x→Va P n t a=true→(Instr.checkKey em d t x).run P w= .ok () w
 |0,_,_,_,_,_,_,h=>by simp[Va]at h
 |n+1,0,_,_,_,hd,_,_=>by omega
 |n+1,d+1,t,a,x,hd,ha,h=>by
  unfold Va at h;split at h
  ·rename_i hu;cases ha;simp[Instr.checkKey,run_underlying hu]
  ·rename_i hu;cases ha;simp[Instr.checkKey,run_underlying hu]
  ·rename_i hu;cases ha;simp[Instr.checkKey,run_underlying hu]
  ·rename_i fs c1 hu;cases ha with
   |agg hs hv=>
    rename_i A;have key:∀(l:List Field) (u:PUnit),(l.all fun f=>f.name == "_" || (match Dk P f.type c1 f.offset with
      |some a=>Va P n f.type a
      |none=>false))=true→
      (forIn l u fun f r=>
       if f.name= "_" then pure (ForInStep.yield PUnit.unit)
       else do
        let x←part f.type A f.offset
        (fun a=>ForInStep.yield PUnit.unit) <$> Instr.checkKey em d f.type x:Sem PUnit).run P w= .ok PUnit.unit w:=by
     intro l;induction l with
     |nil=>intro u _;simp
     |cons f fs ih=>
      intro u h;rw[List.all_cons,Bool.and_eq_true]at h;obtain⟨h1,h2⟩:=h;have hrest:=ih PUnit.unit h2;simp only[List.forIn_cons,Sem.run_bind,Sem.run_ite];by_cases hn:f.name= "_"
      ·rw[if_pos hn];simp only[Sem.run_pure,Result.andThen_ok];exact hrest
      ·rw[if_neg hn];have hn':(f.name == "_")=false:=by simpa using hn
       rw[hn',Bool.false_or]at h1;split at h1
       case h_2=>cases h1
       rename_i p hp;obtain⟨y,hy1,hy2⟩:=Tf (P:=P) (w:=w) ⟨hs,hv⟩ hp;have hck:=run_checkKey em n d f.type p y (by omega) hy2 h1
       simp only[Sem.run_map,hy1,Result.andThen_ok,hck];exact hrest
    have:=key fs.toList PUnit.unit h;simp[Instr.checkKey,run_underlying hu];rw[← Array.forIn_toList];exact this
  ·cases h
theorem Abo{k:TypeDesc}{t:TypeId}{a b:D}{x y:Value}{n:Nat}{r r':Bool}(hu:P.underlying t=some k)(ha:VR g a x)(hb:VR g b y)
  (h:eqT P n t a b=some r)(h':Instr.sameNow k x y=some r'):r=r':=by
 cases n with
 |zero=>simp[eqT]at h
 |succ n=>
  unfold eqT at h;rw[hu]at h;split at h
  ·rename_i hk;cases ha;cases hb;cases hk;simp[Instr.sameNow]at h';cases h;exact h'
  ·rename_i hk;cases ha;cases hb;cases hk;split at h
   ·rename_i hkk;subst hkk;simp[Instr.sameNow]at h';cases h;exact h'
   ·cases h
  ·rename_i hk;obtain⟨s,rfl,rfl⟩:=ha.str_inv;obtain⟨u,rfl,rfl⟩:=hb.str_inv;cases hk;simp only[Instr.sameNow,Option.some.injEq]at h';cases h;rw[← h',beq_toListBytes,ByteArray.toList_eq,ByteArray.toList_eq]
  ·rename_i hk;cases ha;cases hb;cases hk;simp[Instr.sameNow]at h'
  ·cases h
def Found(g:G)(M:List MapEntry)(i:Nat)(r:Option (Nat × D))(r':Option (Nat × Value)):Prop:=
 match r,r' with
 |none,none=>True
 |some (j,d),some (j',v)=>j=j'∧i≤j∧VR g d v∧∃m,M[j - i]?=some m∧m.val=v
 |_,_=>False
theorem Aez{kt:TypeId}{kd:TypeDesc}{k:D}{kv:Value}(hu:P.underlying kt=some kd)(hk:VR g k kv):
  ∀(es:List (D × D)) (M:List MapEntry) (i:Nat) (r:Option (Nat × D)) (r':Option (Nat × Value)),M.length=es.length→(∀(j:Nat) (e:D × D) (m:MapEntry),es[j]?=some e→M[j]?=some m→VR g e.1 m.key∧VR g e.2 m.val)→Jc P kt k es i=some r→Instr.findNow kd kv M i=some r'→Found g M i r r':=by
 intro es;induction es with
 |nil=>
  intro M i r r' hl _ h h';have:M= []:=by simpa using hl
  subst this;simp[Jc]at h;simp[Instr.findNow]at h';subst h;subst h'
  trivial
 |cons e es ih=>
  intro M i r r' hl hv h h';cases M with
  |nil=>simp at hl
  |cons m M=>
   obtain⟨h1,h2⟩:=hv 0 e m rfl rfl;unfold Jc at h;unfold Instr.findNow at h';split at h
   ·rename_i he;cases h;split at h'
    ·rename_i hn;cases h';exact⟨rfl,Nat.le_refl _,h2,m,by simp,rfl⟩
    ·rename_i hn;have:=Abo hu hk h1 he hn;cases this
    ·cases h'
   ·rename_i he;split at h'
    ·rename_i hn;have:=Abo hu hk h1 he hn;cases this
    ·rename_i hn;have:=ih M (i+1) r r' (by simpa using hl) (fun j e' m' a b=>hv (j+1) e' m' (by simpa using a) (by simpa using b)) h h'
     unfold Found at this ⊢;split at this
     ·trivial
     ·obtain⟨a,b,c,m',d,e'⟩:=this;rename_i jj _ _ _;refine⟨a,by omega,c,m',?_,e'⟩
      rw[show jj - i=(jj - (i+1))+1 from by omega]
      simpa using d
     ·exact this
    ·cases h'
   ·cases h
theorem Y4{kt:TypeId}{k:D}{kv:Value}(hk:VR g k kv):
  ∀(es:List (D × D)) (M:List MapEntry) (i:Nat) (r:Option (Nat × D)),M.length=es.length→(∀(j:Nat) (e:D × D) (m:MapEntry),es[j]?=some e→M[j]?=some m→VR g e.1 m.key∧VR g e.2 m.val)→Jc P kt k es i=some r→∃r',(Instr.findAsking kt kv M i).run P w= .ok r' w∧Found g M i r r':=by
 intro es;induction es with
 |nil=>
  intro M i r hl _ h;have:M= []:=by simpa using hl
  subst this;simp[Jc]at h;subst h;exact⟨none,by simp[Instr.findAsking],trivial⟩
 |cons e es ih=>
  intro M i r hl hv h;cases M with
  |nil=>simp at hl
  |cons m M=>
   obtain⟨h1,h2⟩:=hv 0 e m rfl rfl;unfold Jc at h;split at h
   ·rename_i he;cases h;have hq:=T9 (P:=P) (w:=w) 20 10000 kt k e.1 kv m.key true (by omega) hk h1 he
    refine⟨some (i,m.val),?_,rfl,Nat.le_refl _,h2,m,by simp,rfl⟩
    simp[Instr.findAsking,Op.equal,Op.maxDepth,hq]
   ·rename_i he;have hq:=T9 (P:=P) (w:=w) 20 10000 kt k e.1 kv m.key false (by omega) hk h1 he
    obtain⟨r',h3,h4⟩:=ih M (i+1) r (by simpa using hl) (fun j e' m' a b=>hv (j+1) e' m' (by simpa using a) (by simpa using b)) h
    refine⟨r',by simp[Instr.findAsking,Op.equal,Op.maxDepth,hq,h3],?_⟩
    unfold Found at h4 ⊢;split at h4
    ·trivial
    ·obtain⟨a,b,c,m',d,e'⟩:=h4;rename_i jj _ _ _;refine⟨a,by omega,c,m',?_,e'⟩
     rw[show jj - i=(jj - (i+1))+1 from by omega]
     simpa using d
    ·exact h4
   ·cases h
theorem run_findKey{kt:TypeId}{k:D}{kv:Value}{es:List (D × D)}{M:List MapEntry}{r:Option (Nat × D)}(hu:(P.underlying kt).isSome=true)(hk:VR g k kv)(hl:M.length=es.length)
  (hv:∀(j:Nat) (e:D × D) (m:MapEntry),es[j]?=some e→M[j]?=some m→VR g e.1 m.key∧VR g e.2 m.val)
  (h:Jc P kt k es 0=some r):∃r',(Instr.findKey kt kv M).run P w= .ok r' w∧Found g M 0 r r':=by
 obtain⟨kd,hkd⟩:=Option.isSome_iff_exists.1 hu;cases hn:Instr.findNow kd kv M 0 with
 |some r'=>exact⟨r',by simp[Instr.findKey,run_underlying hkd,hn],Aez hkd hk es M 0 r r' hl hv h hn⟩
 |none=>obtain⟨r',h1,h2⟩:=Y4 (P:=P) (w:=w) hk es M 0 r hl hv h;exact⟨r',by simp[Instr.findKey,run_underlying hkd,hn,h1],h2⟩
theorem Abs{t:TypeId}{d:D}(h:Xn P t=some d):∃i z,P.info? t=some i∧i.zero=some z∧VR g d z:=by
 unfold Xn at h;split at h
 ·rename_i i hi;split at h
  ·rename_i z hz;split at h
   ·cases h;exact⟨i,z,hi,hz,Abq⟩
   ·cases h
  ·cases h
 ·cases h
theorem Ol{n:Nat}{t:TypeId}{k:D}(h:Va P n t k=true):(P.underlying t).isSome=true:=by
 cases n with
 |zero=>simp[Va]at h
 |succ n=>unfold Va at h;split at h<;>first|(rename_i hu;simp[hu];done)|cases h
theorem Ug{t:TypeId}{a b:TypeId}(h:Aar P t=some (a,b)):P.underlying t=some (.map a b):=by
 unfold Aar at h;split at h
 ·rename_i hu;cases h;exact hu
 ·cases h
theorem Av2{t:TypeId}{m k:D}{x y:Value}{ok:Bool}(hs:Co g st w)(hx:VR g m x)(hy:VR g k y)(h:Io P t m k ok st0=some (v,fx))
  (hf:∀ids,fx= .rd ids→∀id∈ids,st[id]?=st0[id]?):
  Gf P (do pure (.value (← Instr.lookup t x y ok))) v g st w none∧∃ids,fx= .rd ids:=by
 unfold Io at h;split at h
 case h_1=>cases h
 rename_i kt et hmt;have hu:=Ug hmt;split at h
 case isFalse=>cases h
 rename_i hko;dsimp only at h;have hout:∀(d:D) (r:Value) (b:Bool),VR g d r→VR g (if ok then D.tup [d,.bool b]else d) (if ok then .tuple #[r,.bool b]else r):=by
  intro d r b hd;cases ok
  ·exact hd
  ·refine .tup rfl fun j d' v' a c=>?_
   match j,a,c with
   |0,a,c=>simp at a c;subst a;subst c;exact hd
   |1,a,c=>simp at a c;subst a;subst c;exact .bool b
   |j+2,a,c=>simp at a
 split at h
 ·cases hz:Xn P et with
  |none=>simp[hz]at h
  |some z=>
   simp only[hz,Option.map_some,Option.some.injEq,Prod.mk.injEq]at h;obtain⟨rfl,rfl⟩:=h;obtain⟨i,zv,hi,hz0,hzv⟩:=Abs (g:=g) hz;cases hx;have hck:=run_checkKey (P:=P) (w:=w) (g:=g) true 20 10000 kt k y (by omega) hy hko
   obtain⟨r',h1,h2⟩:=run_findKey (P:=P) (w:=w) (es:= []) (M:= []) (Ol hko) hy rfl (by simp) rfl
   have:r'=none:=by cases r' with|none=>rfl|some p=>simp[Found]at h2
   subst this;refine⟨Gf.of_val hs (r:=if ok then .tuple #[zv,.bool false]else zv) ?_ (hout z zv false hzv),_,rfl⟩;simp[Instr.lookup,run_underlying hu,hck,h1,Dz hi hz0]
 ·rename_i id;split at h
  case h_2=>cases h
  rename_i es hst;cases hx with
  |map hl=>
   rename_i c;have hrd:st[id]?=some (.map es):=by
    have:∃ids,fx= .rd ids∧id∈ids:=by
     split at h
     ·cases h;exact⟨_,rfl,by simp⟩
     ·cases hz:Xn P et with
      |none=>simp[hz]at h
      |some z=>simp[hz]at h;exact⟨_,h.2.symm,by simp⟩
     ·cases h
    obtain⟨ids,h1,h2⟩:=this;rw[hf ids h1 id h2,hst]
   obtain⟨o,ho,hr⟩:=hs.obj _ _ hl;rw[hrd]at ho;cases ho;obtain⟨M,kk,hM⟩:=hr;have hck:=fun em=>run_checkKey (P:=P) (w:=w) (g:=g) em 20 10000 kt k y (by omega) hy hko
   have hget:(getObj c).run P w= .ok (.map M kk) w:=by simp[getObj,Sem.run,hM.heap]
   have hfind:=fun r h=>run_findKey (P:=P) (w:=w) (M:=M.toList) (r:=r) (Ol hko) hy (by simpa using hM.size) (fun j e m a b=>hM.at_ j e m a (by simpa using b)) h
   split at h
   ·rename_i d hfd;cases h;obtain⟨r',h1,h2⟩:=hfind _ hfd;cases r' with
    |none=>simp[Found]at h2
    |some p=>obtain⟨j',pv⟩:=p;obtain⟨_,_,h3,_⟩:=h2;refine⟨Gf.of_val hs (r:=if ok then .tuple #[pv,.bool true]else pv) ?_ (hout d pv true h3),_,rfl⟩;simp[Instr.lookup,run_underlying hu,hget,hck,h1]
   ·rename_i hfd;cases hz:Xn P et with
    |none=>simp[hz]at h
    |some z=>
     simp only[hz,Option.map_some,Option.some.injEq,Prod.mk.injEq]at h;obtain⟨rfl,rfl⟩:=h;obtain⟨i,zv,hi,hz0,hzv⟩:=Abs (g:=g) hz;obtain⟨r',h1,h2⟩:=hfind _ hfd;have:r'=none:=by cases r' with|none=>rfl|some p=>simp[Found]at h2
     subst this;refine⟨Gf.of_val hs (r:=if ok then .tuple #[zv,.bool false]else zv) ?_ (hout z zv false hzv),_,rfl⟩;simp[Instr.lookup,run_underlying hu,hget,hck,h1,Dz hi hz0]
   ·cases h
 ·cases h
end
section
variable{P:Program}{w:World}{g:G}{st st0:St}{v:D}{fx:Fx}{ρ:Operand→D}{σ:Operand→Value}
theorem Ud(z:List D)(n:Nat):(J2 z n).length=n*z.length:=by
 induction n with
 |zero=>simp[J2]
 |succ n ih=>simp[J2,ih,Nat.add_mul];omega
theorem Azh(z:List D)(n j:Nat)(hz:0<z.length)(hj:j<n*z.length):(J2 z n)[j]?=z[j % z.length]?:=by
 induction n generalizing j with
 |zero=>simp at hj
 |succ n ih=>
  rw[J2,List.getElem?_append];split
  ·rename_i h;rw[Nat.mod_eq_of_lt h]
  ·rename_i h;have h':z.length≤j:=by omega
   rw[ih (j - z.length) (by rw[Nat.add_mul]at hj;omega),← Nat.mod_eq_sub_mod h']
theorem Aik{z:List D}{A:Array Value}{n:Nat}(h:F8 g z A)(hz:0<z.length):F8 g (J2 z n) ((Array.range (n*z.length)).map fun i=>A[i % A.size]!):=by
 refine⟨by simp[Ud],fun j d v hj hv=>?_⟩
 have hlt:j<n*z.length:=by
  have:=(List.getElem?_eq_some_iff.1 hj).1
  rwa [Ud]at this
 rw[Azh z n j hz hlt]at hj;rw[Array.getElem?_map,Array.getElem?_range]at hv;have hm:j % A.size<A.size:=Nat.mod_lt _ (by rw[h.size];exact hz)
 simp only[hlt,if_true,Option.map_some,Option.some.injEq]at hv;rw[getElem!_pos A _ hm]at hv;subst hv;refine h.at_ (j % z.length) d _ hj ?_;have:j % z.length=j % A.size:=by rw[h.size]
 rw[this];exact Array.getElem?_eq_getElem hm
theorem foldl_set(off:Nat):∀(l:List Value) (k:Nat) (cs:Array Value),((l.zipIdx k).foldl (fun(cs:Array Value) (p:Value × Nat)=>cs.setIfInBounds (off+p.2) p.1) cs).size=cs.size∧∀p:Nat,((l.zipIdx k).foldl (fun(cs:Array Value) (p:Value × Nat)=>cs.setIfInBounds (off+p.2) p.1) cs)[p]?=
    if off+k≤p∧p<off+k+l.length∧p<cs.size then l[p - (off+k)]? else cs[p]?
 | [],k,cs=>by
  refine⟨by simp,fun p=>?_⟩
  rw[if_neg (by simp;omega)]
  simp
 |v::l,k,cs=>by
  obtain⟨h1,h2⟩:=foldl_set off l (k+1) (cs.setIfInBounds (off+k) v);simp only[List.zipIdx_cons,List.foldl_cons];refine⟨by rw[h1];simp,fun p=>?_⟩
  rw[h2];simp only[Array.size_setIfInBounds,List.length_cons];by_cases hp:p=off+k
  ·subst hp;rw[if_neg (by omega),Array.getElem?_setIfInBounds]
   by_cases hl:off+k<cs.size
   ·simp[hl]
   ·have hnone:cs[off+k]?=none:=Array.getElem?_eq_none (by omega)
    simp[hl]
  ·by_cases hc:off+(k+1)≤p∧p<off+(k+1)+l.length∧p<cs.size
   ·rw[if_pos hc,if_pos (by omega),show p - (off+k)=(p - (off+(k+1)))+1 from by omega]
    simp
   ·rw[if_neg hc,if_neg (by omega),Array.getElem?_setIfInBounds_ne (by omega)]
theorem Amo{cells vs:List D}{A B:Array Value}{off:Nat}(hc:F8 g cells A)(hv:F8 g vs B)(hle:off+vs.length≤cells.length):
  F8 g (cells.take off++vs++cells.drop (off+vs.length)) (B.zipIdx.foldl (fun(cs:Array Value) (p:Value × Nat)=>cs.setIfInBounds (off+p.2) p.1) A):=by
 have hf:=foldl_set off B.toList 0 A;have heq:B.zipIdx.foldl (fun(cs:Array Value) (p:Value × Nat)=>cs.setIfInBounds (off+p.2) p.1) A=
   (B.toList.zipIdx 0).foldl (fun(cs:Array Value) (p:Value × Nat)=>cs.setIfInBounds (off+p.2) p.1) A:=by
  rw[← Array.foldl_toList,Array.toList_zipIdx]
 rw[heq];have hBl:B.toList.length=vs.length:=by rw[Array.length_toList,hv.size]
 refine⟨?_,fun j d v hj hv'=>?_⟩
 ·rw[hf.1,hc.size];simp;omega
 ·rw[hf.2,hBl,Array.getElem?_toList]at hv';rw[List.getElem?_append,List.getElem?_append]at hj;simp only[List.length_append,List.length_take]at hj;have hmin:min off cells.length=off:=by omega
  rw[hmin]at hj;by_cases h1:j<off
  ·rw[if_pos (by omega),if_pos h1,List.getElem?_take,if_pos h1]at hj
   rw[if_neg (by omega)]at hv'
   exact hc.at_ j d v hj hv'
  ·by_cases h2:j<off+vs.length
   ·rw[if_pos h2,if_neg h1]at hj;have hsz:=hc.size;rw[if_pos (by omega)]at hv'
    rw[Nat.add_zero]at hv';exact hv.at_ _ d v hj hv'
   ·rw[if_neg h2,List.getElem?_drop]at hj;rw[if_neg (by omega)]at hv'
    refine hc.at_ j d v ?_ hv';rw[← hj];congr 1;omega
theorem Adp{place place':Nat→Option (Nat × Nat)}(hpl:∀i r,place i=some r→place' i=some r):
  ∀(parts:List (Nat × D)) (parts':List (Nat × Value)) (cells:List D) (A:Array Value) (r:List D),F8 g cells A→parts'.length=parts.length→(∀(j:Nat) (p:Nat × D) (q:Nat × Value),parts[j]?=some p→parts'[j]?=some q→p.1=q.1∧VR g p.2 q.2)→I8 place cells parts=some r→∃B,Instr.fill place' A parts'=some B∧F8 g r B:=by
 intro parts;induction parts with
 |nil=>
  intro parts' cells A r hc hl _ h;have:parts'= []:=by simpa using hl
  subst this;simp[I8]at h;subst h;exact⟨A,by simp[Instr.fill],hc⟩
 |cons p parts ih=>
  intro parts' cells A r hc hl hv h;cases parts' with
  |nil=>simp at hl
  |cons q parts'=>
   obtain⟨h1,h2⟩:=hv 0 p q rfl rfl;obtain⟨i,d⟩:=p;obtain⟨i',x⟩:=q;simp only at h1 h2;subst h1;unfold I8 at h;split at h
   ·cases h
   ·rename_i off size hp;dsimp only at h;split at h
    ·cases h
    ·rename_i hcond;simp only[Bool.or_eq_true,decide_eq_true_eq,not_or,Bool.not_eq_true',Decidable.not_not]at hcond;obtain⟨⟨h3,h4⟩,h5⟩:=hcond;have hkn:d≠ .undef:=by rintro rfl;simp[D.known]at h5
     have hcells:=h2.cells hkn;have hle:off+d.cells.length≤cells.length:=by omega
     have hs:=Amo hc hcells hle;rw[← h3]at h;obtain⟨B,h6,h7⟩:=ih parts' _ _ r hs (by simpa using hl) (fun j p q a b=>hv (j+1) p q (by simpa using a) (by simpa using b)) h
     refine⟨B,?_,h7⟩;unfold Instr.fill;rw[hpl _ _ hp];dsimp only;have hsz1:=hcells.size;have hsz2:=hc.size;rw[if_neg (by simp only[Bool.or_eq_true,decide_eq_true_eq,not_or];omega)]
     exact h6
theorem Aqv{parts:Array (Nat × Operand)}(hv:∀p∈parts.toList,VR g (ρ p.2) (σ p.2)):
  ((parts.map fun(i,x)=>(i,σ x)).toList).length=(parts.toList.map fun p=>(p.1,ρ p.2)).length∧∀(j:Nat) (p:Nat × D) (q:Nat × Value),(parts.toList.map fun p=>(p.1,ρ p.2))[j]?=some p→((parts.map fun(i,x)=>(i,σ x)).toList)[j]?=some q→p.1=q.1∧VR g p.2 q.2:=by
 refine⟨by simp,fun j p q a b=>?_⟩
 simp only[List.getElem?_map,Array.toList_map,Option.map_eq_some_iff]at a b;obtain⟨x,hx,rfl⟩:=a;obtain⟨y,hy,rfl⟩:=b;rw[hx]at hy;cases hy;exact⟨rfl,hv x (List.mem_of_getElem? hx)⟩
theorem run_places{fs:Array Field}(h:fs.toList.all (fun f=>(Bw P f.type).isSome)=true):
  (fs.mapM fun f=>do pure (f.offset,← sizeOf f.type):Sem (Array (Nat × Nat))).run P w= .ok (fs.map fun f=>(f.offset,(Bw P f.type).getD 0)) w:=by
 have hfun:(fun f:Field=>(do pure (f.offset,← sizeOf f.type):Sem (Nat × Nat)))=fun f=>Prod.mk f.offset <$> sizeOf f.type:=by funext f;simp
 rw[hfun,Array.mapM_eq_mapM_toList];have key:∀l:List Field,l.all (fun f=>(Bw P f.type).isSome)=true→(l.mapM fun f=>Prod.mk f.offset <$> sizeOf f.type:Sem (List (Nat × Nat))).run P w= .ok (l.map fun f=>(f.offset,(Bw P f.type).getD 0)) w:=by
  intro l;induction l with
  |nil=>intro _;simp
  |cons f l ih=>intro h;rw[List.all_cons,Bool.and_eq_true]at h;obtain⟨n,hn⟩:=Option.isSome_iff_exists.1 h.1;simp[List.mapM_cons,run_sizeOf hn,ih h.2,hn]
 simp only[Sem.run_map,key fs.toList h,Result.andThen_ok];congr 1;apply Array.ext';simp
theorem A2r{t:TypeId}{parts:Array (Nat × Operand)}(hs:Co g st w)(hv:∀p∈parts.toList,VR g (ρ p.2) (σ p.2))
  (h:Adc P t (parts.toList.map fun p=>(p.1,ρ p.2))=some v):
  Gf P (do pure (.value (← Instr.build t (parts.map fun(i,x)=>(i,σ x))))) v g st w none:=by
 obtain⟨hp1,hp2⟩:=Aqv hv;unfold Adc at h;split at h
 ·rename_i z fs hz hu;split at h
  case isFalse=>cases h
  rename_i hall;cases hfd:I8 (Lb P fs) z (parts.toList.map fun p=>(p.1,ρ p.2))with
  |none=>simp[hfd]at h
  |some r=>
   simp only[hfd,Option.map_some,Option.some.injEq]at h;subst h;obtain⟨i,zv,hi,hz0,hzs⟩:=Je (g:=g) hz;obtain⟨B,h1,h2⟩:=Adp (place':=((fs.map fun f=>(f.offset,(Bw P f.type).getD 0))[·]?)) (fun i r h=>by
    unfold Lb at h;split at h
    ·rename_i f hf;split at h
     ·rename_i n hn;cases h;simp[hf,hn]
     ·cases h
    ·cases h) _ _ z zv.cells r hzs hp1 hp2 hfd
   refine Gf.of_val hs (r:= .agg B) ?_ h2.agg;simp only[Instr.build,Sem.run_bind,Dz hi hz0,Result.andThen_ok,run_underlying hu,run_places hall,h1,Sem.run_pure]
 ·rename_i z ln e hz hu;split at h
  case h_2=>cases h
  rename_i n hn;cases hfd:I8 (fun i=>some (i*n,n)) z (parts.toList.map fun p=>(p.1,ρ p.2))with
  |none=>simp[hfd]at h
  |some r=>simp only[hfd,Option.map_some,Option.some.injEq]at h;subst h;obtain⟨i,zv,hi,hz0,hzs⟩:=Je (g:=g) hz;obtain⟨B,h1,h2⟩:=Adp (place':=fun i=>some (i*n,n)) (fun i r h=>h) _ _ z zv.cells r hzs hp1 hp2 hfd;refine Gf.of_val hs (r:= .agg B) ?_ h2.agg;simp only[Instr.build,Sem.run_bind,Dz hi hz0,Result.andThen_ok,run_underlying hu,run_sizeOf hn,h1,Sem.run_pure]
 ·cases h
end
section
variable{P:Program}{w:World}{g:G}{st st0:St}{v:D}{fx:Fx}{ρ:Operand→D}{σ:Operand→Value}
theorem Jb(sz n:Nat)(l:List D):(chunk sz n l).length=n:=by
 induction n generalizing l with
 |zero=>rfl
 |succ n ih=>simp[chunk,ih]
theorem Agg(sz n:Nat)(l:List D)(i:Nat):(chunk sz n l)[i]?=if i<n then some ((l.drop (i*sz)).take sz)else none:=by
 induction n generalizing l i with
 |zero=>simp[chunk]
 |succ n ih=>
  cases i with
  |zero=>simp[chunk]
  |succ i=>
   simp only[chunk,List.getElem?_cons_succ,ih,Nat.add_lt_add_iff_right];split
   ·rw[List.drop_drop,Nat.add_mul,Nat.one_mul,Nat.add_comm sz]
   ·rfl
theorem Yl{sz n:Nat}{l:List D}(hl:n*sz≤l.length):∀r∈chunk sz n l,r.length=sz:=by
 intro r hr;obtain⟨i,hi⟩:=List.mem_iff_getElem?.1 hr;rw[Agg]at hi;split at hi
 ·rename_i hlt;cases hi;have:(i+1)*sz≤n*sz:=Nat.mul_le_mul_right sz hlt;rw[Nat.add_mul]at this;simp;omega
 ·cases hi
theorem Qq{sz n:Nat}{l:List D}{i j:Nat}{r:List D}{d:D}(hr:(chunk sz n l)[i]?=some r)(hj:r[j]?=some d):l[i*sz+j]?=some d:=by
 rw[Agg]at hr;split at hr
 ·cases hr;rw[List.getElem?_take]at hj;split at hj
  ·rw[List.getElem?_drop]at hj;exact hj
  ·cases hj
 ·cases hr
theorem Mj{sz off len:Nat}{cs:List D}{rows:List (List D)}(h:Kr sz off len cs=some rows):rows=chunk sz len (cs.drop off)∧off+len*sz≤cs.length:=by
 unfold Kr at h;split at h
 ·rename_i hc;simp only[Bool.and_eq_true,decide_eq_true_eq]at hc;cases h;exact⟨rfl,hc.1⟩
 ·cases h
theorem VR.frozen{sz id off len cap:Nat}{cs:List D}{rows:List (List D)}{x:Value}(hx:VR g (.arr sz id off len cap) x)
  (hc:∀c,g.loc id=some c→∀(j:Nat) (d:D),cs[j]?=some d→∃v,g.I c j=some v∧VR g d v)(h:Kr sz off len cs=some rows):VR g (.sl rows .none) x:=by
 obtain⟨rfl,hle⟩:=Mj h;cases hx with
 |arr hl h1 h2 h3=>
  rename_i cap' c;have hlen:=Jb sz len (cs.drop off);have hrow:∀r∈chunk sz len (cs.drop off),r.length=sz:=Yl (by simp;omega)
  have:VR g (.sl (chunk sz len (cs.drop off)) .none) (.slice (some ⟨c,off,none⟩) (chunk sz len (cs.drop off)).length cap'):=by
   refine .sl (sz:=sz) hrow (fun i r j d hr hj=>?_) (fun i r j d v hr hj hv=>?_) (by omega) trivial
   ·have h4:=Qq hr hj;rw[List.getElem?_drop]at h4;obtain⟨v,h5,_⟩:=hc c hl _ _ h4;exact⟨v,by rw[Nat.add_assoc];exact h5⟩
   ·have h4:=Qq hr hj;rw[List.getElem?_drop]at h4;obtain⟨v',h5,h6⟩:=hc c hl _ _ h4;rw[Nat.add_assoc,h5]at hv;cases hv;exact h6
  rwa [hlen]at this
theorem Akf(hs:Co g st w){d d':D}{x:Value}(hx:VR g d x)(h:Oa st0 d=some d')(hf:∀id∈F4 d,st[id]?=st0[id]?):VR g d' x:=by
 unfold Oa at h;split at h
 ·cases h;cases hx with
  |slNil hn=>exact .slNil (by simp)
  |slEmp hn hc=>exact .slEmp (by simp) (by simp)
  |sl a b c d e=>exact .sl a b c d trivial
 ·cases h;cases hx;exact .slNil (by simp)
 ·rename_i sz id off len cap;split at h
  case h_2=>cases h
  rename_i cs hst;split at h
  case h_2=>cases h
  rename_i rows hr;cases h;refine hx.frozen (fun c hl=>?_) hr;obtain⟨o,ho,hor⟩:=hs.obj _ _ hl;rw[hf id (by simp[F4]),hst]at ho
  cases ho;exact hor
 ·cases h;exact hx
theorem Ard{f:D→Option D}{cs cs':List D}(h:Eb f cs=some cs'):cs'.length=cs.length∧∀(j:Nat) (d:D),cs[j]?=some d→∃d',cs'[j]?=some d'∧f d=some d':=by
 induction cs generalizing cs' with
 |nil=>simp[Eb]at h;subst h;simp
 |cons d cs ih=>
  unfold Eb at h;split at h
  ·rename_i d1 cs1 h1 h2;cases h;obtain⟨h3,h4⟩:=ih h2;refine⟨by simp[h3],fun j e hj=>?_⟩
   cases j with
   |zero=>simp at hj;subst hj;exact⟨d1,rfl,h1⟩
   |succ j=>simpa using h4 j e (by simpa using hj)
  ·cases h
theorem Ap8(hs:Co g st w){d d':D}{x:Value}(hx:VR g d x)(h:B5q st0 d=some d')(hf:∀id∈Iz d,st[id]?=st0[id]?):VR g d' x:=by
 unfold B5q at h;split at h
 ·rename_i cs;cases hm:Eb (Oa st0) cs with
  |none=>simp[hm]at h
  |some cs'=>
   simp only[hm,Option.map_some,Option.some.injEq]at h;subst h;obtain⟨h1,h2⟩:=Ard hm;cases hx with
   |agg hsz hv=>
    refine .agg (by rw[hsz,h1]) (fun j d' v hj hv'=>?_)
    have hlt:j<cs.length:=by have:=(List.getElem?_eq_some_iff.1 hj).1;omega
    obtain⟨d2,h3,h4⟩:=h2 j cs[j] (List.getElem?_eq_getElem hlt);rw[hj]at h3;cases h3;refine Akf hs (hv j _ v (List.getElem?_eq_getElem hlt) hv') h4 fun id hid=>hf id ?_;simp only[Iz,List.mem_flatMap];exact⟨cs[j],List.getElem_mem hlt,hid⟩
 ·rename_i hn;refine Akf hs hx h fun id hid=>hf id ?_;unfold Iz;split
  ·exact absurd rfl (hn _)
  ·exact hid
theorem Ae4(hs:Co g st w){l:List (Nat × Operand)}{ps:List (Nat × D)}(hv:∀p∈l,VR g (ρ p.2) (σ p.2))(h:Fs st0 (l.map fun p=>(p.1,ρ p.2))=some ps)
  (hf:∀id∈l.flatMap (fun p=>Iz (ρ p.2)),st[id]?=st0[id]?):
  ps.length=l.length∧∀(j:Nat) (p:Nat × D) (q:Nat × Operand),ps[j]?=some p→l[j]?=some q→p.1=q.1∧VR g p.2 (σ q.2):=by
 induction l generalizing ps with
 |nil=>simp[Fs]at h;subst h;simp
 |cons q l ih=>
  simp only[List.map_cons]at h;unfold Fs at h;split at h
  ·rename_i d1 ps1 h1 h2;cases h;obtain⟨h3,h4⟩:=ih (fun p hp=>hv p (by simp[hp])) h2 (fun id hid=>hf id (by simp only[List.flatMap_cons,List.mem_append];exact .inr hid))
   refine⟨by simp[h3],fun j p q' hj hq=>?_⟩
   cases j with
   |zero=>simp at hj hq;subst hj;subst hq;exact⟨rfl,Ap8 hs (hv q (by simp)) h1 (fun id hid=>hf id (by simp only[List.flatMap_cons,List.mem_append];exact .inl hid))⟩
   |succ j=>exact h4 j p q' (by simpa using hj) (by simpa using hq)
  ·cases h
theorem Dq{t e:TypeId}(h:Cx P t=some e):P.underlying t=some (.slice e):=by
 unfold Cx at h;split at h
 ·rename_i hu;cases h;exact hu
 ·cases h
theorem Xp{t e:TypeId}{len sz:Nat}{parts:Array (Nat × Operand)}{z cs:List D}{ps:List (Nat × D)}{hb:Bool}(hs:Co g st w)(hv:∀p∈parts.toList,VR g (ρ p.2) (σ p.2))
  (he:Cx P t=some e)(hsz:Bw P e=some sz)(hz:zeroOf P e=some z)(hps:ps.length=parts.toList.length)
  (hpr:∀(j:Nat) (p:Nat × D) (q:Nat × Operand),ps[j]?=some p→parts.toList[j]?=some q→p.1=q.1∧VR g p.2 (σ q.2))
  (hlen:len*sz≤2 ^ 20)(hzl:z.length=sz)(hz0:sz≠0)(hf:I8 (fun i=>some (i*sz,sz)) (J2 z len) ps=some cs):
  ∃A:Array Value,(Instr.buildSlice t len (parts.map fun(i,x)=>(i,σ x))).run P w=
    .ok (.slice (some ⟨w.heap.size,0,none⟩) len len) {w with heap:=w.heap.push (.cells A e)}∧F8 g cs A∧cs.length=len*sz:=by
 have hu:=Dq he;obtain⟨i,zv,hi,hzz,hzs⟩:=Je (g:=g) hz;have hpos:0<z.length:=by omega
 have hrep:=Aik (n:=len) hzs hpos;rw[hzl]at hrep;obtain⟨B,h1,h2⟩:=Adp (place':=fun i=>some (i*sz,sz)) (fun i r h=>h) ps ((parts.map fun(i,x)=>(i,σ x)).toList) _ _ cs hrep
  (by simp[hps]) (fun j p q a b=>by simp only[Array.toList_map,List.getElem?_map,Option.map_eq_some_iff]at b;obtain⟨y,hy,rfl⟩:=b;exact hpr j p y a hy) hf
 have hcl:cs.length=len*sz:=by
  have key:∀(ps:List (Nat × D)) (cells r:List D),I8 (fun i=>some (i*sz,sz)) cells ps=some r→r.length=cells.length:=by
   intro ps;induction ps with
   |nil=>intro cells r h;simp[I8]at h;subst h;rfl
   |cons p ps ih=>
    intro cells r h;obtain⟨i,d⟩:=p;unfold I8 at h;dsimp only at h;split at h
    ·cases h
    ·rename_i hc;simp only[Bool.or_eq_true,decide_eq_true_eq,not_or,Decidable.not_not]at hc;rw[ih _ _ h];simp;omega
  rw[key _ _ _ hf,Ud,hzl]
 have h24:¬ len*sz>2 ^ 24:=by
  have:(2:Nat) ^ 20≤2 ^ 24:=Nat.pow_le_pow_right (by omega) (by omega)
  omega
 refine⟨B,?_,h2,hcl⟩;simp only[Instr.buildSlice,Sem.run_bind,run_underlying hu,Result.andThen_ok,run_sizeOf hsz,Sem.run_ite];rw[if_neg h24];by_cases hl0:len*sz=0
 ·have hln:len=0:=by
   rcases Nat.mul_eq_zero.1 hl0 with h|h
   ·exact h
   ·omega
  subst hln;simp only[Nat.zero_mul,if_true,Sem.run_pure,Result.andThen_ok]at h1 ⊢;have:((Array.range 0).map fun x=>(#[]:Array Value)[x % (#[]:Array Value).size]!)=((Array.range 0).map fun i=>zv.cells[i % zv.cells.size]!):=by simp
  rw[this,h1];simp[newRow,newObj,Sem.run]
 ·simp only[hl0,if_false,Sem.run_bind,Dz hi hzz,Result.andThen_ok,Sem.run_pure,h1];simp[newRow,newObj,Sem.run]
theorem Aj3{t e:TypeId}{l c:D}{x y:Value}{sz by_ n m id:Nat}{z:List D}(hs:Co g st w)(hx:VR g l x)(hy:VR g c y)
  (he:Cx P t=some e)(hsz:Bw P e=some sz)(hby:Jm P e=some by_)(hz:zeroOf P e=some z)(hn:E5 l=some n)(hm:E5 c=some m)
  (h1:n≤m)(h2:m≤Dh)(h3:m*by_≤Dh)(hzl:z.length=sz)(hz0:sz≠0)
  (ho:st[id]?=some (.cells (J2 z m)))(hln:g.loc id=none)(hk:g.tk id=none):
  Gf P (do pure (.value (← Instr.makeSlice t x y))) (.arr sz id 0 n m) g st w (some id):=by
 have hu:=Dq he;obtain⟨i,zv,hi,hzz,hzs⟩:=Je (g:=g) hz;obtain⟨i',hi',hb'⟩:=Zp hby;rw[hi]at hi';cases hi';obtain⟨k1,a,rfl,ha0,rfl⟩:=Nb hn;obtain⟨k2,b,rfl,hb0,rfl⟩:=Nb hm;cases hx.int_inv;cases hy.int_inv;have hmax:Dh=68719476736:=by decide
 rw[hmax]at h2 h3;have hwa:IntKind.i64.wrap a=a:=by simp only[IntKind.wrap,IntKind.bits,IntKind.signed];simp;omega
 have hwb:IntKind.i64.wrap b=b:=by simp only[IntKind.wrap,IntKind.bits,IntKind.signed];simp;omega
 have hpos:0<z.length:=by omega
 have hrep:=Aik (n:=b.toNat) hzs hpos;rw[hzl]at hrep;let A:=(Array.range (b.toNat*sz)).map fun i=>zv.cells[i % zv.cells.size]!;have hAs:A.size=b.toNat*sz:=by simp[A]
 have hb1:¬ ((i.bytes:Int)*b>2 ^ 48):=by
  have:((b.toNat*i.bytes:Nat):Int)≤68719476736:=by rw[hb'];omega
  have e:(b.toNat:Int)=b:=Int.toNat_of_nonneg hb0;rw[Int.natCast_mul,e]at this;rw[Int.mul_comm];have h48:(2:Int) ^ 48=281474976710656:=by decide
  omega
 refine Gf.obj (ob:= .cells A e) (n:=b.toNat*sz) (r:= .slice (some ⟨w.heap.size,0,none⟩) a.toNat b.toNat) hs ho hln hk ?_ ?_ (Push.mk' _ _) ?_
 ·intro g' w' hmono hb hI hh;exact⟨A,e,(0,0),hh,by rw[hAs,hb],fun o _=>by simp,by rw[Ud,hzl,hAs];exact Nat.le_refl _,(hrep.mono hmono).at_,hI⟩
 ·have hroom:¬ b.toNat*i.bytes>roomBytes:=by
   have:roomBytes=140737488355328:=by decide
   rw[hb',this];omega
  simp only[Instr.makeSlice,Sem.run_bind,run_underlying hu,Result.andThen_ok,asInt,asIntOf,Sem.run_pure,run_typeInfo hi,hwa,hwb];have hc1:¬ ((decide (b<0) || decide ((i.bytes:Int)*b>2 ^ 48))=true∨decide (a<0)=true∨decide (a>b)=true):=by simp only[Bool.or_eq_true,decide_eq_true_eq];omega
  have hc2:((decide (b<0) || decide ((i.bytes:Int)*b>2 ^ 48)) || decide (a<0) || decide (a>b))=false:=by
   have e1:decide (b<0)=false:=by simp;omega
   have e2:decide ((i.bytes:Int)*b>2 ^ 48)=false:=by simpa using hb1
   have e3:decide (a<0)=false:=by simp;omega
   have e4:decide (a>b)=false:=by simp;omega
   rw[e1,e2,e3,e4];rfl
  simp only[hc2,BF,askRoom,hroom,Sem.run_bind,Sem.run_pure,Result.andThen_ok,run_sizeOf hsz,Sem.run_ite];by_cases hl0:b.toNat*sz=0
  ·have hbz:b.toNat=0:=by
    rcases Nat.mul_eq_zero.1 hl0 with h|h
    ·exact h
    ·omega
   simp only[hl0,if_true,Sem.run_pure,Result.andThen_ok,Sem.run_bind,newRow,newObj,Sem.run];have:(Array.range 0).map (fun x=>(#[]:Array Value)[x % (#[]:Array Value).size]!)=A:=by simp only[A,hl0];simp
   rw[this]
  ·simp only[hl0,if_false,Sem.run_bind,Dz hi hzz,Result.andThen_ok,Sem.run_pure,newRow,newObj,Sem.run];rfl
 ·intro g' hl hb;refine .arr hl h1 (Nat.le_refl _) ?_;rw[hb];omega
end
section
variable{P:Program}{w:World}{g:G}{st st0:St}{v:D}{fx:Fx}{ρ:Operand→D}{σ:Operand→Value}
theorem q_len{t ty:TypeId}{ts:List TypeId}{a:D}{x:Value}(hs:Co g st w)(hx:VR g a x)(h:Ny P t a st0=some (v,fx))
  (hf:∀ids,fx= .rd ids→∀id∈ids,st[id]?=st0[id]?):
  (∃r,(Builtin.len_ (t::ts).toArray ty #[x]).run P w= .ok r w∧VR g v r)∧∃ids,fx= .rd ids:=by
 unfold Ny at h;split at h
 ·rename_i s hu;cases h;obtain⟨b,rfl,rfl⟩:=hx.str_inv;refine⟨⟨.int .i64 b.size,by simp[Builtin.len_,run_underlying hu,goInt],?_⟩,_,rfl⟩
  rw[Array.length_toList];exact .int _ _
 ·rename_i e hu;cases h;cases hx;exact⟨⟨.int .i64 0,by simp[Builtin.len_,run_underlying hu,goInt],.int _ _⟩,_,rfl⟩
 ·rename_i e rows gr hu;cases h;cases hx with
  |slNil=>exact⟨⟨.int .i64 0,by simp[Builtin.len_,run_underlying hu,goInt],.int _ _⟩,_,rfl⟩
  |slEmp=>exact⟨⟨.int .i64 0,by simp[Builtin.len_,run_underlying hu,goInt],.int _ _⟩,_,rfl⟩
  |sl=>exact⟨⟨.int .i64 rows.length,by simp[Builtin.len_,run_underlying hu,goInt],.int _ _⟩,_,rfl⟩
 ·rename_i e sz id off len cap hu;cases h;cases hx;exact⟨⟨.int .i64 len,by simp[Builtin.len_,run_underlying hu,goInt],.int _ _⟩,_,rfl⟩
 ·rename_i e k hu;cases h;cases hx;exact⟨⟨.int .i64 0,by simp[Builtin.len_,run_underlying hu,goInt],.int _ _⟩,_,rfl⟩
 ·rename_i k e id hu;split at h
  case h_2=>cases h
  rename_i es hst;cases h;cases hx with
  |map hl=>
   rename_i c;obtain⟨o,ho,hr⟩:=hs.obj _ _ hl;rw[hf [id] rfl id (by simp),hst]at ho
   cases ho;obtain⟨M,kk,hM⟩:=hr;refine⟨⟨.int .i64 M.size,by simp[Builtin.len_,run_underlying hu,goInt,getObj,Sem.run,hM.heap],?_⟩,_,rfl⟩
   rw[hM.size];exact .int _ _
 ·rename_i n e hu;cases h;exact⟨⟨.int .i64 n,by simp[Builtin.len_,run_underlying hu,goInt],.int _ _⟩,_,rfl⟩
 ·cases h
theorem Beo{t ty:TypeId}{ts:List TypeId}{a:D}{x:Value}(hx:VR g a x)(h:Ar8 P t a=some (v,fx)):
  (∃r,(Builtin.cap_ (t::ts).toArray ty #[x]).run P w= .ok r w∧VR g v r)∧∃ids,fx= .rd ids:=by
 unfold Ar8 at h;split at h
 ·rename_i e hu;cases h;cases hx;exact⟨⟨.int .i64 0,by simp[Builtin.cap_,run_underlying hu,goInt],.int _ _⟩,_,rfl⟩
 ·rename_i e rows hu;cases h;cases hx with
  |slNil=>exact⟨⟨.int .i64 0,by simp[Builtin.cap_,run_underlying hu,goInt],.int _ _⟩,_,rfl⟩
  |slEmp _ hc=>cases hc rfl;exact⟨⟨.int .i64 0,by simp[Builtin.cap_,run_underlying hu,goInt],.int _ _⟩,_,rfl⟩
  |sl hsz hI hv hcap hgr=>simp only[Aca]at hgr;subst hgr;exact⟨⟨.int .i64 rows.length,by simp[Builtin.cap_,run_underlying hu,goInt],.int _ _⟩,_,rfl⟩
 ·cases h
theorem Y1{f:D→D→Option D}{q:Value→Value→Sem Value}(hfq:∀a b x y c,VR g a x→VR g b y→f a b=some c→∃r,(q x y).run P w= .ok r w∧VR g c r):
  ∀(l:List D) (L:List Value) (a:D) (x:Value) (c:D),VR g a x→L.length=l.length→(∀(j:Nat) (d:D) (v:Value),l[j]?=some d→L[j]?=some v→VR g d v)→Om f a l=some c→∃r,(L.foldlM q x).run P w= .ok r w∧VR g c r
 | [],L,a,x,c,hx,hl,_,h=>by
  have:L= []:=by simpa using hl
  subst this;simp[Om]at h;subst h;exact⟨x,by simp,hx⟩
 |d::l,L,a,x,c,hx,hl,hv,h=>by
  cases L with
  |nil=>simp at hl
  |cons y L=>
   unfold Om at h;split at h
   ·rename_i c1 h1;obtain⟨r,h2,h3⟩:=hfq a d x y c1 hx (hv 0 d y rfl rfl) h1;obtain⟨r',h4,h5⟩:=Y1 hfq l L c1 r c h3 (by simpa using hl) (fun j d v a b=>hv (j+1) d v (by simpa using a) (by simpa using b)) h
    exact⟨r',by simp[List.foldlM_cons,h2,h4],h5⟩
   ·cases h
theorem At7(a b:D)(x y:Value)(c:D)(ha:VR g a x)(hb:VR g b y)(h:Abk a b=some c):∃r,(Builtin.min2 x y).run P w= .ok r w∧VR g c r:=by
 unfold Abk at h;split at h
 ·split at h
  ·rename_i hk;subst hk;cases h;cases ha.int_inv;cases hb.int_inv;exact⟨_,rfl,.int _ _⟩
  ·cases h
 ·cases h
theorem At0(a b:D)(x y:Value)(c:D)(ha:VR g a x)(hb:VR g b y)(h:Ab0 a b=some c):∃r,(Builtin.max2 x y).run P w= .ok r w∧VR g c r:=by
 unfold Ab0 at h;split at h
 ·split at h
  ·rename_i hk;subst hk;cases h;cases ha.int_inv;cases hb.int_inv;exact⟨_,rfl,.int _ _⟩
  ·cases h
 ·cases h
theorem P6{args:Array Operand}(hv:∀x∈args.toList,VR g (ρ x) (σ x)):F8 g (args.toList.map ρ) (args.map σ):=by
 refine⟨by simp,fun j d v a b=>?_⟩
 simp only[List.getElem?_map,Option.map_eq_some_iff]at a;obtain⟨x,hx,rfl⟩:=a;rw[Array.getElem?_map,← Array.getElem?_toList,hx]at b;simp at b;subst b;exact hv x (List.mem_of_getElem? hx)
theorem Aq7{b:Builtin}{ts:Array TypeId}{ty:TypeId}{cs:Array Bool}{as:List D}{A:Array Value}(hs:Co g st w)(ha:F8 g as A)(h:Aj P b ts as st0=some (v,fx))
  (hf:∀ids,fx= .rd ids→∀id∈ids,st[id]?=st0[id]?):Gf P (builtin b ts ty cs A) v g st w none∧∃ids,fx= .rd ids:=by
 have hone:∀x:D,as= [x]→∃y,A= #[y]∧VR g x y:=by
  rintro x rfl;have h1:=ha.size;obtain⟨A⟩:=A
  match A,h1 with
  | [y],_=>exact⟨y,rfl,ha.at_ 0 x y rfl rfl⟩
 unfold Aj at h;split at h
 ·rename_i t ts' x hts;obtain⟨y,rfl,hy⟩:=hone x rfl;obtain⟨⟨r,h1,h2⟩,h3⟩:=q_len (P:=P) (ty:=ty) (ts:=ts') hs hy h hf;rw[← hts]at h1;simp only[Array.toArray_toList]at h1;exact⟨Gf.same hs (r:=r) (by simp[builtin,h1]) h2,h3⟩
 ·rename_i t ts' x hts;obtain⟨y,rfl,hy⟩:=hone x rfl;obtain⟨⟨r,h1,h2⟩,h3⟩:=Beo (P:=P) (w:=w) (ty:=ty) (ts:=ts') hy h;rw[← hts]at h1;simp only[Array.toArray_toList]at h1;exact⟨Gf.same hs (r:=r) (by simp[builtin,h1]) h2,h3⟩
 ·rename_i x xs;cases hfd:Om Abk x xs with
  |none=>simp[hfd]at h
  |some c=>
   simp only[hfd,Option.map_some,Option.some.injEq,Prod.mk.injEq]at h;obtain⟨rfl,rfl⟩:=h;obtain⟨A⟩:=A;cases A with
   |nil=>have:=ha.size;simp at this
   |cons y L=>
    obtain⟨r,h1,h2⟩:=Y1 (P:=P) (w:=w) At7 xs L x y c (ha.at_ 0 x y rfl rfl) (by have:=ha.size;simpa using this)
     (fun j d v a b=>ha.at_ (j+1) d v (by simpa using a) (by simpa using b)) hfd
    exact⟨Gf.same hs (r:=r) (by simp[builtin,Builtin.min_,h1]) h2,_,rfl⟩
 ·rename_i x xs;cases hfd:Om Ab0 x xs with
  |none=>simp[hfd]at h
  |some c=>
   simp only[hfd,Option.map_some,Option.some.injEq,Prod.mk.injEq]at h;obtain⟨rfl,rfl⟩:=h;obtain⟨A⟩:=A;cases A with
   |nil=>have:=ha.size;simp at this
   |cons y L=>
    obtain⟨r,h1,h2⟩:=Y1 (P:=P) (w:=w) At0 xs L x y c (ha.at_ 0 x y rfl rfl) (by have:=ha.size;simpa using this)
     (fun j d v a b=>ha.at_ (j+1) d v (by simpa using a) (by simpa using b)) hfd
    exact⟨Gf.same hs (r:=r) (by simp[builtin,Builtin.max_,h1]) h2,_,rfl⟩
 ·cases h
def Te(n:Nat):Fx→Option Nat
 | .al _=>some n
 | .rd _=>none
theorem Gf.none{s:Sem Next}{new:Option Nat}(h:Gf P s v g st w none):Gf P s v g st w new:=by obtain⟨r,g',w',a,b,c,d,e⟩:=h;exact⟨r,g',w',a,b,c,d,fun id _=>e id (by simp)⟩
theorem Aag{op:BinOp}{t:TypeId}{x y:Operand}(h:(isConst x || isConst y)=true):(eqGuard op t x y .nilIface .nilIface).run P w= .ok () w:=by cases x<;>cases y<;>simp[isConst]at h<;>cases op<;>simp[eqGuard]
theorem Z9{h:Bool}{o:Oper}(hq:Af P h o ρ st0=some (v,fx))(hs:Co g st w)(hv:∀x∈o.op.operands,VR g (ρ x) (σ x))
  (hf:∀ids,fx= .rd ids→∀id∈ids,st[id]?=st0[id]?)
  (ha:∀ob,fx= .al ob→st[st0.length]?=some ob∧g.loc st0.length=none∧g.tk st0.length=none):
  Gf P (execOp σ o) v g st w (Te st0.length fx):=by
 unfold Af at hq;unfold execOp;split at hq
 ·
  rename_i x hop;rw[hop]at hv ⊢;cases hq;exact Gf.same hs (r:=σ x) rfl (hv x (by simp[Op.operands]))
 ·rename_i x hop;rw[hop]at hv ⊢;cases hq;exact Gf.same hs (r:=σ x) rfl (hv x (by simp[Op.operands]))
 ·
  rename_i c a b hop;rw[hop]at hv ⊢;have hc:=hv c (by simp[Op.operands])
  split at hq
  ·rename_i hd;cases hq;rw[hd]at hc;refine Gf.same hs (r:=σ a) ?_ (hv a (by simp[Op.operands]))
   simp[hc.bool_inv,asBool]
  ·rename_i hd;cases hq;rw[hd]at hc;refine Gf.same hs (r:=σ b) ?_ (hv b (by simp[Op.operands]))
   simp[hc.bool_inv,asBool]
  ·cases hq
 ·
  rename_i t hop;rw[hop];cases hz:zeroOf P t with
  |none=>simp[hz]at hq
  |some cs=>simp only[hz,Option.map_some,Option.some.injEq,Prod.mk.injEq]at hq;obtain⟨rfl,rfl⟩:=hq;obtain⟨h1,h2,h3⟩:=ha _ rfl;exact A2e hs hz h1 h2 h3
 ·
  rename_i t x hop;rw[hop]at hv ⊢;split at hq
  case isFalse=>cases hq
  rename_i hk;cases hq;obtain⟨h1,h2,h3⟩:=ha _ rfl;exact Bd5 hs (hv x (by simp[Op.operands])) h1 h2 h3 (by rintro he;rw[he]at hk;simp[D.known]at hk)
 ·
  rename_i t parts hop;rw[hop]at hv ⊢;cases hb:Adc P t (parts.toList.map fun p=>(p.1,ρ p.2))with
  |none=>simp[hb]at hq
  |some c=>simp only[hb,Option.map_some,Option.some.injEq,Prod.mk.injEq]at hq;obtain⟨rfl,rfl⟩:=hq;exact(A2r hs (fun p hp=>hv p.2 (by simp only[Op.operands,List.mem_toArray,List.mem_map];exact⟨p,hp,rfl⟩)) hb).none
 ·
  rename_i t len parts hop;rw[hop]at hv ⊢;have hvp:∀p∈parts.toList,VR g (ρ p.2) (σ p.2):=fun p hp=>hv p.2 (by simp only[Op.operands,List.mem_toArray,List.mem_map];exact⟨p,hp,rfl⟩)
  split at hq
  ·cases hq
  ·rename_i e he;split at hq
   case h_2=>cases hq
   rename_i sz z ps hsz hz hps;split at hq
   case isFalse=>cases hq
   rename_i hc;simp only[Bool.and_eq_true,decide_eq_true_eq,bne_iff_ne]at hc;obtain⟨⟨hc1,hc2⟩,hc3⟩:=hc;split at hq
   case h_2=>cases hq
   rename_i cs hfd;cases h with
   |true=>
    simp only[if_true,Option.some.injEq]at hps hq;cases hq;obtain⟨h1,h2,h3⟩:=ha _ rfl;subst hps;obtain⟨A,hr,hA,hl⟩:=Xp (P:=P) (hb:=true) hs hvp he hsz hz (by simp) (fun j p q a b=>by simp only[List.getElem?_map,b,Option.map_some,Option.some.injEq]at a;subst a;exact⟨rfl,hvp q (List.mem_of_getElem? b)⟩) hc1 hc2 hc3 hfd
    refine Gf.obj (ob:= .cells A e) (n:=A.size) (r:= .slice (some ⟨w.heap.size,0,none⟩) len len) hs h1 h2 h3 ?_ ?_ (Push.mk' _ _) ?_
    ·intro g' w' hm hb hI hh;exact⟨A,e,(0,0),hh,hb.symm,fun o _=>by simp,by rw[hA.size];exact Nat.le_refl _,(hA.mono hm).at_,hI⟩
    ·simp[hr]
    ·intro g' hl' hb;refine .arr hl' (Nat.le_refl _) (Nat.le_refl _) ?_;rw[hb,hA.size,hl];omega
   |false=>
    simp only[BF]at hps hq;cases hq;obtain⟨h1,h2⟩:=Ae4 hs hvp hps (hf _ rfl);obtain⟨A,hr,hA,hl⟩:=Xp (P:=P) (hb:=true) hs hvp he hsz hz h1 h2 hc1 hc2 hc3 hfd;refine(Gf.row (fr:=(0,0)) (A:=A) (T:=e) (r:= .slice (some ⟨w.heap.size,0,none⟩) len len) hs (by simp[hr]) (Push.mk' _ _) ?_).none
    intro g' hm hI;have hlen:=Jb sz len cs;have:VR g' (.sl (chunk sz len cs) .exact) (.slice (some ⟨w.heap.size,0,none⟩) (chunk sz len cs).length len):=by
     refine .sl (sz:=sz) (Yl (by omega)) (fun i r j d hr hj=>?_) (fun i r j d v hr hj hv'=>?_) (by omega) (by simp[Aca,hlen])
     ·have h4:=Qq hr hj;have hlt:i*sz+j<A.size:=by rw[hA.size];exact(List.getElem?_eq_some_iff.1 h4).1
      exact⟨A[i*sz+j],by rw[hI,Nat.zero_add];exact Array.getElem?_eq_getElem hlt⟩
     ·have h4:=Qq hr hj;rw[hI,Nat.zero_add]at hv';exact(hA.at_ _ d v h4 hv').mono hm
    rwa [hlen]at this
 ·
  rename_i t a hop;rw[hop]at hv ⊢;exact(A77 hs (hv a (by simp[Op.operands])) hq hf).1.none
 ·
  rename_i x hop;rw[hop]at hv ⊢;have hx:=hv x (by simp[Op.operands])
  dsimp only;generalize σ x=y at hx ⊢;split at hq
  ·rename_i i o' hd;cases hq;rw[hd]at hx;have hx2:=hx;cases hx with
   |ptr hl=>exact(Gf.same hs (by rfl) hx2).none
  ·rename_i cs hd;cases hq;rw[hd]at hx;have hx2:=hx;cases hx with
   |eptr a b=>exact(Gf.same hs (by rfl) hx2).none
  ·rename_i f a cs hd;cases hq;rw[hd]at hx;have hx2:=hx;cases hx with
   |func a b c d=>exact(Gf.same hs (by rfl) hx2).none
  ·cases hq
 ·
  rename_i op t x y yt hop;rw[hop]at hv ⊢;have hx:=hv x (by simp[Op.operands])
  have hy:=hv y (by simp[Op.operands])
  dsimp only;split at hq
  ·rename_i hdx hdy;split at hq
   case isFalse=>cases hq
   rename_i hcst;rw[hdx]at hx;rw[hdy]at hy;generalize σ x=X at hx ⊢;generalize σ y=Y at hy ⊢;cases hx;cases hy;have hg:∀op,(eqGuard op t x y .nilIface .nilIface).run P w= .ok () w:=fun op=>Aag hcst;have heq:∀ms,P.underlying t=some (.interface ms)→(Op.equal t .nilIface .nilIface).run P w= .ok true w:=by intro ms hu;show(Op.equalIn (9999+1) t _ _).run P w=_;generalize 9999=dd;simp[Op.equalIn,run_underlying hu]
   split at hq
   ·rename_i ms hu;cases hq;refine(Gf.of_val hs (r:= .bool true) ?_ (.bool _)).none;simp[hg,binOp,heq ms hu]
   ·rename_i ms hu;cases hq;refine(Gf.of_val hs (r:= .bool false) ?_ (.bool _)).none;simp[hg,binOp,heq ms hu]
   ·cases hq
  ·rename_i hno;cases hb:Bo P op t (ρ x) (ρ y)with
   |none=>simp[hb]at hq
   |some d=>simp only[hb,Option.map_some,Option.some.injEq,Prod.mk.injEq]at hq;obtain⟨rfl,rfl⟩:=hq;obtain⟨r,h1,h2⟩:=Ar1 (P:=P) (w:=w) (ox:=x) (oy:=y) hx hy hb;exact(Gf.of_val hs h1 h2).none
 ·
  rename_i op t x hop;rw[hop]at hv ⊢;cases hb:Gc op (ρ x)with
  |none=>simp[hb]at hq
  |some d=>
   simp only[hb,Option.map_some,Option.some.injEq,Prod.mk.injEq]at hq;obtain⟨rfl,rfl⟩:=hq;obtain⟨r,h1,h2⟩:=At5 (P:=P) (w:=w) (hv x (by simp[Op.operands])) hb
   exact(Gf.of_val hs h1 h2).none
 ·
  rename_i s d x hop;rw[hop]at hv ⊢;have:=Asw hs (hv x (by simp[Op.operands])) hq hf ha
  cases fx with
  |rd ids=>exact this
  |al ob=>exact this
 ·
  rename_i t x hop;rw[hop]at hv ⊢;split at hq
  ·cases hq
  ·rename_i u d hn hu hsl;cases hq;have:=Ap8 hs (hv x (by simp[Op.operands])) hsl (hf _ rfl)
   refine(Gf.of_val hs (r:= .iface t (σ x)) ?_ (.iface this)).none;cases u with
   |interface ms=>exact absurd rfl (hn _)
   |_=>simp[Instr.makeInterface,run_underlying hu]
  ·cases hq
 ·
  rename_i f first caps hop
  rw[hop]at hv ⊢;cases hq;have h1:=P6 (args:=first) fun x hx=>hv x (by simp only[Op.operands,Array.mem_append];exact .inl (by simpa using hx))
  have h2:=P6 (args:=caps) fun x hx=>hv x (by simp only[Op.operands,Array.mem_append];exact .inr (by simpa using hx))
  exact(Gf.of_val hs (r:= .func (.func f) (first.map σ) (caps.map σ)) (by simp[Instr.makeFunc]) (.func h1.size h2.size h1.at_ h2.at_)).none
 ·
  rename_i t r hop;rw[hop]at hv ⊢;have key:(∀u,r.map σ=some u→∃k n,u= .int k n)→(r.isSome=true→(Aar P t).isSome=true)→v= .map st0.length→fx= .al (.map [])→Gf P (do pure (.value (← Instr.makeMap t (r.map σ)))) v g st w (Te st0.length fx):=by
   rintro hint hmt rfl rfl;obtain⟨h1,h2,h3⟩:=ha _ rfl;refine Gf.obj (ob:= .map #[] 0) (n:=0) (r:= .map (some w.heap.size)) hs h1 h2 h3 ?_ ?_ (Push.mk' _ _) ?_
   ·intro g' w' hm hb hI hh;exact⟨#[],0,hh,rfl,by simp,by simp,by simp⟩
   ·cases hr:r.map σ with
    |none=>simp[Instr.makeMap,newObj,Sem.run]
    |some u=>
     obtain⟨k,n,rfl⟩:=hint u hr;have:r.isSome=true:=by cases r with|none=>simp at hr|some _=>rfl
     obtain⟨⟨a,b⟩,hab⟩:=Option.isSome_iff_exists.1 (hmt this);simp[Instr.makeMap,run_underlying (Ug hab),asInt,asIntOf,newObj,Sem.run]
   ·intro g' hl _;exact .map hl
  split at hq
  ·cases hq;exact key (by simp) (by simp) rfl rfl
  ·rename_i x ab hmt;split at hq
   ·rename_i k n hd;cases hq;have hx:=hv x (by simp[Op.operands])
    rw[hd]at hx;exact key (fun u hu=>by simp at hu;subst hu;exact⟨k,n,hx.int_inv⟩) (fun _=>by simp[hmt]) rfl rfl
   ·cases hq
  ·cases hq
 ·
  rename_i t l c hop;rw[hop]at hv ⊢;split at hq
  ·cases hq
  ·rename_i e he;split at hq
   case h_2=>cases hq
   rename_i sz by_ z n m hsz hby hz hn hm;split at hq
   case isFalse=>cases hq
   rename_i hc;simp only[Bool.and_eq_true,decide_eq_true_eq,bne_iff_ne]at hc;obtain⟨⟨⟨⟨h1,h2⟩,h3⟩,h4⟩,h5⟩:=hc;cases hq;obtain⟨h6,h7,h8⟩:=ha _ rfl;exact Aj3 hs (hv l (by simp[Op.operands])) (hv c (by simp[Op.operands])) he hsz hby hz hn hm h1 h2 h3 h4 h5 h6 h7 h8
 ·
  rename_i t x lo hi mx hop;rw[hop]at hv ⊢;split at hq
  case h_2=>cases hq
  rename_i l h' m hl hh hm;split at hq
  case isTrue=>cases hq
  rename_i hc;have hmh:m.isSome=true→h'.isSome=true:=by
   intro hm1;cases h' with
   |some _=>rfl
   |none=>simp[hm1]at hc
  refine(B6n hs (hv x (by simp[Op.operands])) (Sj (fun y hy=>hv y ?_) hl) (Sj (fun y hy=>hv y ?_) hh) (Sj (fun y hy=>hv y ?_) hm) hq hmh).1.none
  all_goals (subst hy;simp[Op.operands])
 ·
  rename_i t x f hop;rw[hop]at hv ⊢;exact(Alu hs (hv x (by simp[Op.operands])) hq).1.none
 ·rename_i t x f hop;rw[hop]at hv ⊢;exact(A32 hs (hv x (by simp[Op.operands])) hq).1.none
 ·rename_i t x i hop;rw[hop]at hv ⊢;exact(Akd hs (hv x (by simp[Op.operands])) (hv i (by simp[Op.operands])) hq).1.none
 ·rename_i t x i hop;rw[hop]at hv ⊢;exact(Azz hs (hv x (by simp[Op.operands])) (hv i (by simp[Op.operands])) hq).1.none
 ·rename_i t m k ok hop;rw[hop]at hv ⊢;exact(Av2 hs (hv m (by simp[Op.operands])) (hv k (by simp[Op.operands])) hq hf).1.none
 ·
  rename_i t x hop;rw[hop]at hv ⊢;split at hq
  case h_2=>cases hq
  rename_i s hu hd;cases hq;obtain⟨h1,h2,h3⟩:=ha _ rfl;have hx:=hv x (by simp[Op.operands])
  rw[hd]at hx;obtain⟨b,hb,hxb⟩:=hx.str_inv;refine Gf.obj (ob:= .stringIter b 0) (n:=0) (r:= .pointer (some ⟨w.heap.size,0,none⟩)) hs h1 h2 h3 ?_ ?_ (Push.mk' _ _) ?_
  ·intro g' w' hm hbs hI hh;exact⟨b,hh,hb⟩
  ·simp[Instr.range,run_underlying hu,hxb,newObj,Sem.run]
  ·intro g' hl _;exact .ptr hl
 ·
  rename_i x i hop;rw[hop]at hv ⊢;have hx:=hv x (by simp[Op.operands])
  split at hq
  ·rename_i ds hd;cases hi:ds[i]? with
   |none=>simp[hi]at hq
   |some d=>
    simp only[hi,Option.map_some,Option.some.injEq,Prod.mk.injEq]at hq;obtain⟨rfl,rfl⟩:=hq;rw[hd]at hx;dsimp only;generalize σ x=y at hx ⊢;cases hx with
    |tup hsz hvv=>
     rename_i A;have hlt:i<A.size:=by rw[hsz];exact(List.getElem?_eq_some_iff.1 hi).1
     refine(Gf.of_val hs (r:=A[i]) ?_ (hvv i d _ hi (Array.getElem?_eq_getElem hlt))).none;simp[Instr.extract,hlt]
  ·cases hq
 ·
  rename_i b args ts hop;rw[hop]at hv ⊢;have hA:=P6 (args:=args) fun x hx=>hv x (by simp only[Op.operands,Call.operands];simpa using hx)
  obtain⟨h1,ids,rfl⟩:=Aq7 (P:=P) (ty:=o.type) (cs:=args.map fun| .const _=>true|_=>false) hs hA hq hf;obtain⟨r,g',w',h2,h3⟩:=h1;refine⟨r,g',w',?_,h3⟩;simp only[Sem.run_bind,resolve,Sem.run_pure,Result.andThen_ok,invoke];exact h2
 ·cases hq
end
end Go.Vam
