/-
  The abstract objects; the plain cache; what its functions do.
-/
import Derived.Test.YtanifnfklgldpaaGreatDoorVgb
import Derived.IntWalk
set_option linter.unusedSimpArgs false
set_option linter.unusedVariables false
set_option linter.unusedSectionVars false
namespace Go.Vam
open Go.Proofs Go.Proofs.Tryz Go.RowKit
def Akm(W:World):Nat→Nat→Option Value:=fun b o=>W.cell? ⟨b,o,none⟩
def gA(W:World):G:= {loc:=fun _=>none,bs:=fun _=>0,tk:=fun _=>none,I:=Akm W,base:=Akm W}
theorem Bhy(W:World):Co (gA W) [] W:=by
 refine⟨fun id c h=>(by cases h),fun t k h=>(by cases h),fun id id2 b h _=>?_,fun b o v h=>h,fun id c h=>(by cases h),fun b o v h=>⟨h,fun id ho=>?_,fun o' ho'=>ho'⟩⟩
 ·rcases h with⟨h,_⟩|⟨k,h,_⟩
  ·cases h
  ·cases h
 ·rcases ho with⟨h,_⟩|⟨k,h,_⟩
  ·cases h
  ·cases h
theorem Wm{w:World}{b:Nat}{cs:Array Value}{T:TypeId}{fr:Nat × Nat}(h:w.heap[b]?=some (.cells cs T fr))(o:Nat):w.cell? ⟨b,o,none⟩=cs[o]?:=by unfold World.cell?;simp[h]
theorem Ana{W w:World}{g:G}{st:St}(hb:g.base=Akm W)(hs:Co g st w){b:Nat}{cs:Array Value}{T:TypeId}{fr:Nat × Nat}(h:W.heap[b]?=some (.cells cs T fr))(hne:0<cs.size):
  ∃T' fr',w.heap[b]?=some (.cells cs T' fr'):=by
 have key:∀o,w.cell? ⟨b,o,none⟩=cs[o]?:=fun o=>by
  have h0:g.base b 0=some cs[0]:=by rw[hb];show W.cell? ⟨b,0,none⟩=_;rw[Wm h];simp[hne]
  cases hc:cs[o]? with
  |none=>exact(hs.base b 0 _ h0).2.2 o (by rw[hb];show W.cell? ⟨b,o,none⟩=none;rw[Wm h,hc])
  |some v=>exact hs.imm _ _ _ (hs.base b o v (by rw[hb];show W.cell? ⟨b,o,none⟩=some v;rw[Wm h,hc])).1
 have h1:=key 0;have:∃ob:Go.Obj,w.heap[b]?=some ob∧ob.isCells=true:=cells_of_cell (a:=⟨b,0,none⟩) (v:=cs[0]) (by rw[h1];simp[hne])
 obtain⟨ob,h2,h3⟩:=this;cases ob with
 |cells cs' T' fr'=>
  have:cs'=cs:=by apply Array.ext_getElem?;intro o;rw[← Wm h2 o,key o]
  subst this;exact⟨T',fr',h2⟩
 |_=>cases h3
theorem Bfn(W:World)(h:Lib.TabIs prog W "internal/strconv.uint64pow10" .u64 Lib.pow10Tab):Aw0 (Akm W):=fun g st w hb hs=>by
 unfold Lib.TabIs World.var? at h ⊢;rw[Option.bind_eq_some_iff]at h;obtain⟨gi,h1,h2⟩:=h;rw[h1,Option.bind_some];split at h2
 ·rename_i cs T fr hh;cases h2;obtain⟨T',fr',h3⟩:=Ana hb hs hh (by decide)
  rw[h3]
 ·cases h2
structure Aps(W W':World):Prop where
 os:W'.os=W.os
 out:W'.output=W.output
 up:∀i,i<W.heap.size→W'.heap[i]?=W.heap[i]?
theorem Aps.but{W W':World}(h:Aps W W'):W.keptBut W' (fun _=>False):=⟨h.os,h.out,fun i hi=>by rw[h.up i hi];split<;>simp_all⟩
end Go.Vam
namespace Go.Vam
section
variable{C:Eo}{hh:Bool}{od:Nat→Option (List Nat × Bool)}{cf:Ah}{N:Nat}{Pw:Nat→Prop}
structure Rp(C:Eo)(hh:Bool)(od:Nat→Option (List Nat × Bool))(cf:Ah)(N:Nat)(Pw:Nat→Prop)(c:Code)(e:Env)(st:St)(Q:Ex→Env→St→Prop):Prop where
 ex:∃x e' st' V,exec C hh od cf N c e st=some (x,e',st',V)∧(∀id∈V,Pw id)∧Q x e' st'
variable{e:Env}{st st':St}{Q:Ex→Env→St→Prop}{R:Env→St→Prop}{ops:Array Oper}{l:List Nat}
theorem Bj8{c:Code}(h:Rp C hh od cf N Pw (strip c) e st Q):Rp C hh od cf N Pw c e st Q:=by obtain⟨x,e',st',V,h1,h2⟩:=h.ex;rw[Am8]at h1;exact⟨x,e',st',V,h1,h2⟩
theorem Awr(h:Q .norm e st):Rp C hh od cf N Pw .skip e st Q:=⟨⟨_,_,_,_,rfl,by simp,h⟩⟩
theorem Avq{id:Nat}(h:Q (.exit id) e st):Rp C hh od cf N Pw (.exit id) e st Q:=⟨⟨_,_,_,_,rfl,by simp,h⟩⟩
theorem Ay7(h:Q .ret e st):Rp C hh od cf N Pw .ret e st Q:=⟨⟨_,_,_,_,rfl,by simp,h⟩⟩
theorem A00{a b:Code}(h:Rp C hh od cf N Pw a e st (fun x e1 st1=>match x with| .norm=>Rp C hh od cf N Pw b e1 st1 Q|x=>Q x e1 st1)):Rp C hh od cf N Pw (.seq a b) e st Q:=by
 obtain⟨x,e1,st1,V,h1,h2,h3⟩:=h.ex;cases x with
 |norm=>obtain⟨y,e2,st2,W,h4,h5,h6⟩:=h3.ex;refine⟨⟨y,e2,st2,Dj W V,?_,fun id hid=>(Cm.1 hid).elim (h5 id) (h2 id),h6⟩⟩;unfold exec;rw[h1];dsimp only;rw[h4]
 |exit id=>refine⟨⟨_,e1,st1,V,?_,h2,h3⟩⟩;unfold exec;rw[h1]
 |ret=>refine⟨⟨_,e1,st1,V,?_,h2,h3⟩⟩;unfold exec;rw[h1]
theorem Ak5{c:Operand}{a b:Code}(hc:ev e c= .bool true)(h:Rp C hh od cf N Pw a e st Q):Rp C hh od cf N Pw (.cond c a b) e st Q:=by obtain⟨x,e1,st1,V,h1,h2,h3⟩:=h.ex;refine⟨⟨x,e1,st1,V,?_,h2,h3⟩⟩;unfold exec;rw[hc];exact h1
theorem Afn{c:Operand}{a b:Code}(hc:ev e c= .bool false)(h:Rp C hh od cf N Pw b e st Q):Rp C hh od cf N Pw (.cond c a b) e st Q:=by obtain⟨x,e1,st1,V,h1,h2,h3⟩:=h.ex;refine⟨⟨x,e1,st1,V,?_,h2,h3⟩⟩;unfold exec;rw[hc];exact h1
theorem Asu{id:Nat}{b:Code}(h:Rp C hh od cf N Pw b e st (fun x e1 st1=>match x with| .exit i=>Q (if i=id then .norm else .exit i) e1 st1|x=>Q x e1 st1)):Rp C hh od cf N Pw (.block id b) e st Q:=by
 obtain⟨x,e1,st1,V,h1,h2,h3⟩:=h.ex;cases x with
 |exit i=>refine⟨⟨_,e1,st1,V,?_,h2,h3⟩⟩;unfold exec;rw[h1]
 |norm=>refine⟨⟨_,e1,st1,V,?_,h2,h3⟩⟩;unfold exec;rw[h1]
 |ret=>refine⟨⟨_,e1,st1,V,?_,h2,h3⟩⟩;unfold exec;rw[h1]
theorem A5r{id:Nat}(h:Adn C hh cf Pw ops (List.range ops.size) e st (fun e' st'=>Q .norm e' st')):Rp C hh od cf N Pw (.region id ops false) e st Q:=by
 obtain⟨e',st',V,h1,h2,h3⟩:=h.ex [] (by simp)
 refine⟨⟨.norm,e',st',V,?_,h2,h3⟩⟩;unfold exec region;simp only[BF];rw[h1]
theorem Awv{b:Code}(I:Nat→Env→St→Prop)(k:Nat)(hk:k<N)(hI:I k e st)
  (step:∀k e st,I k e st→Rp C hh od cf N Pw b e st (fun x e' st'=>match x with| .norm=>∃k',k'<k∧I k' e' st'|x=>Q x e' st')):Rp C hh od cf N Pw (.loop b) e st Q:=
 ⟨Aie I (fun k e st h=>(step k e st h).ex) N k e st [] hk hI (by simp)⟩
theorem Bkx{id:Nat}(h:Ph C hh cf Pw ops 0 e st (fun e' st'=>Q .norm e' st')):Rp C hh od cf N Pw (.region id ops false) e st Q:=by refine A5r ?_;rw[List.range_eq_range'];exact h.ex
theorem Aen(ops:Array Oper)(B:Array Nat):∀(l:List Nat) (lg:Rh) (e:Env) (st:St) (W:Cb),Ay C hh cf true (ops.map Dl) B l lg e st W=Ay C hh cf true ops B l lg e st W
 | [],lg,e,st,W=>rfl
 |i::l,lg,e,st,W=>by
  unfold Ay;rw[Array.getElem?_map];cases ho:ops[i]? with
  |none=>rfl
  |some o=>
   simp only[Option.map_some,Anc];have h1:loud (Dl o)=loud o:=rfl;have h2:Af C.P hh (Dl o) (ev e) st=Af C.P hh o (ev e) st:=rfl;have h3:Bj C hh cf (Dl o) (ev e) st=Bj C hh cf o (ev e) st:=rfl;have h4:(Dl o).dst=o.dst:=rfl;rw[h1,h2,h3,h4];cases Ct o ops e with
   |none=>rfl
   |some b=>
    cases b with
    |false=>exact Aen ops B l _ _ _ _
    |true=>
     dsimp only;split
     ·cases Bj C hh cf o (ev e) st with
      |none=>rfl
      |some p=>obtain⟨v,st',V⟩:=p;dsimp only;rw[Aen ops B l _ _ _ _]
     ·cases Af C.P hh o (ev e) st with
      |none=>rfl
      |some p=>obtain⟨v,fx⟩:=p;exact Aen ops B l _ _ _ _
structure As0(C:Eo)(hh:Bool)(cf:Ah)(Pw:Nat→Prop)(ops:Array Oper)(B:Array Nat)(l:List Nat)(lg:Rh)(e:Env)(st:St)(R:Env→St→Prop):Prop where
 ex:∀W:Cb,(∀id∈W,Pw id)→∃e' st' V,Ay C hh cf true ops B l lg e st W=some (e',st',V)∧(∀id∈V,Pw id)∧R e' st'
variable{B:Array Nat}{lg:Rh}
theorem Blb{id:Nat}{l:List Nat}{F:Array Nat→Prop}(hod:od id=some (l,false))(hF:F (Region.before ops))
  (h:∀B,F B→As0 C hh cf Pw (ops.map Dl) B l [] e st (fun e' st'=>Q .norm e' st')):Rp C hh od cf N Pw (.region id ops true) e st Q:=by
 obtain⟨e',st',V,h1,h2,h3⟩:=(h _ hF).ex [] (by simp)
 rw[Aen]at h1;refine⟨⟨.norm,e',st',V,?_,h2,h3⟩⟩;unfold exec region;rw[if_pos rfl,hod];dsimp only;rw[h1]
theorem Bji{id:Nat}(hod:od id=some (List.range ops.size,true))(h:Ph C hh cf Pw (ops.map Dl) 0 e st (fun e' st'=>Q .norm e' st')):Rp C hh od cf N Pw (.region id ops true) e st Q:=by
 obtain⟨e',st',V,h1,h2,h3⟩:=h.ex.ex [] (by simp)
 rw[Pf]at h1;refine⟨⟨.norm,e',st',V,?_,h2,h3⟩⟩;unfold exec region;rw[if_pos rfl,hod];dsimp only;rw[List.range_eq_range'];rw[Array.size_map]at h1;rw[show Ay C hh cf false ops #[] (List.range' 0 ops.size) [] e st []=some (e',st',V)from h1]
theorem Blh(h:R e st):As0 C hh cf Pw ops B [] lg e st R:=⟨fun W hW=>⟨e,st,W,rfl,hW,h⟩⟩
theorem Bmg{i:Nat}{l:List Nat}{o:Oper}{v:D}{ids:Cb}(ho':ops.toList[i]?=some o)(hw:Ct o ops e=some true)(hl:loud o=false)(hq:Af C.P hh o (ev e) st=some (v,.rd ids))
  (h:As0 C hh cf Pw ops B l (ids.map (fun id=>(i,id))++lg) (Am e o.dst v) st R):As0 C hh cf Pw ops B (i::l) lg e st R:=⟨fun W hW=>by
 have ho:ops[i]?=some o:=by rw[← Array.getElem?_toList];exact ho'
 obtain⟨e',st',V,h1,h2⟩:=h.ex W hW;refine⟨e',st',V,?_,h2⟩;unfold Ay;rw[ho];dsimp only;rw[hw];dsimp only;rw[hl,hq];simp only[BF];exact h1⟩
theorem Bmr{i:Nat}{l:List Nat}{o:Oper}{v:D}{ob:Obj}(ho':ops.toList[i]?=some o)(hw:Ct o ops e=some true)(hl:loud o=false)(hq:Af C.P hh o (ev e) st=some (v,.al ob))
  (h:As0 C hh cf Pw ops B l ((i,st.length)::lg) (Am e o.dst v) (st++ [ob]) R):As0 C hh cf Pw ops B (i::l) lg e st R:=⟨fun W hW=>by
 have ho:ops[i]?=some o:=by rw[← Array.getElem?_toList];exact ho'
 obtain⟨e',st',V,h1,h2⟩:=h.ex W hW;refine⟨e',st',V,?_,h2⟩;unfold Ay;rw[ho];dsimp only;rw[hw];dsimp only;rw[hl,hq];simp only[BF];exact h1⟩
theorem Bmu{i:Nat}{l:List Nat}{o:Oper}{v:D}{V:Cb}(ho':ops.toList[i]?=some o)(hw:Ct o ops e=some true)(hl:loud o=true)(hs:Bj C hh cf o (ev e) st=some (v,st',V))(hV:∀id∈V,Pw id)(hc:clash B i lg V=false)
  (h:As0 C hh cf Pw ops B l lg (Am e o.dst v) st' R):As0 C hh cf Pw ops B (i::l) lg e st R:=⟨fun W hW=>by
 have ho:ops[i]?=some o:=by rw[← Array.getElem?_toList];exact ho'
 obtain⟨e',st2,V2,h1,h2⟩:=h.ex (Dj V W) (fun id hid=>(Cm.1 hid).elim (hV id) (hW id));refine⟨e',st2,V2,?_,h2⟩;unfold Ay;rw[ho];dsimp only;rw[hw];dsimp only;rw[hl,hs];simp only[hc,Bool.and_false,BF,if_true];exact h1⟩
theorem Awl{i:Nat}{V:Cb}(h:∀q∈lg,q.2∈V→(maskAt B i).testBit q.1=true):clash B i lg V=false:=by unfold clash;rw[List.any_eq_false];intro q hq;simp only[Bool.and_eq_true,List.contains_iff_mem,Bool.not_eq_true',not_and,Bool.not_eq_false];exact h q hq
end
def Ao(cf:Ah)(f:FuncId)(xs:List D)(v:D):Prop:=∀st,cf f xs st=some (v,st,[])
theorem Amz{C:Eo}{cf:Ah}{st:St}{f:FuncId}{a bs c args:List D}{v:D}(hb:Dm C.P f=true)(hr:C.byRef.contains f=false)(hz:Cw st args=some (bs,st))(hc:cf f (a++bs++c) st=some (v,st,[])):G6 C cf f a c args st=some (v,st,[]):=by
 unfold G6;rw[hb,hr];simp only[Bool.not_true,BF,hz,hc];split
 ·rfl
 ·rw[Du];rfl
noncomputable def bd(f:Func):Code:=match f.body with
 |some c=>c
 |none=> .skip
theorem bdy{f:Func}(h:f.body.isSome=true:=by kernel_rfl):f.body=some (bd f):=by
 unfold bd;cases hb:f.body with
 |none=>rw[hb]at h;cases h
 |some c=>rfl
end Go.Vam
set_option maxRecDepth 1000000
namespace Go.Vam
open Go.Proofs Go.Proofs.Tryz
structure B3z(C:Eo)(hh:Bool)(cf:Ah)(Pw:Nat→Prop)(Rd:Nat→Nat→Prop)(ops:Array Oper)(B:Array Nat)(l:List Nat)(e:Env)(st:St)(R:Env→St→Prop):Prop where
 ex:∀lg:Rh,(∀q∈lg,Rd q.1 q.2)→As0 C hh cf Pw ops B l lg e st R
structure B5u(C:Eo)(hh:Bool)(cf:Ah)(Pw:Nat→Prop)(Rd:Nat→Nat→Prop)(ops:Array Oper)(B:Array Nat)(i:Nat)(l:List Nat)(e:Env)(st:St)(R:Env→St→Prop):Prop where
 ex:(∀o,ops.toList[i]?=some o→Ct o ops e=some true)→B3z C hh cf Pw Rd ops B (i::l) e st R
section
variable{C:Eo}{hh:Bool}{od:Nat→Option (List Nat × Bool)}{cf:Ah}{N:Nat}{Rd:Nat→Nat→Prop}{Pw:Nat→Prop}{e:Env}{st st':St}{Q:Ex→Env→St→Prop}{R:Env→St→Prop}{ops:Array Oper}{l:List Nat}{B:Array Nat}
theorem B4n{id:Nat}(Rd:Nat→Nat→Prop)(F:Array Nat→Prop)(hod:od id=some (l,false))(hF:F (Region.before ops))(h:∀B,F B→B3z C hh cf Pw Rd (ops.map Dl) B l e st (fun e' st'=>Q .norm e' st')):Rp C hh od cf N Pw (.region id ops true) e st Q:=
 Blb (F:=F) hod hF fun B hB=>(h B hB).ex [] (by simp)
theorem B5t(h:R e st):B3z C hh cf Pw Rd ops B [] e st R:=⟨fun lg _=>Blh h⟩
theorem B7v{i:Nat}{o:Oper}(ho':ops.toList[i]?=some o)(hg:o.guard=none)(h:B5u C hh cf Pw Rd ops B i l e st R):B3z C hh cf Pw Rd ops B (i::l) e st R:=
 h.ex (fun o' ho=>by obtain rfl:=Option.some.inj (ho'.symm.trans ho);exact H7 hg)
theorem B8g{i:Nat}{o:Oper}(ho':ops.toList[i]?=some o)(hl:loud o=false)(h:∃r,Af C.P hh o (ev e) st=some r∧match r with
   |(v,.rd ids)=>VOk (Rd i) ids (B3z C hh cf Pw Rd ops B l (Am e o.dst v) st R)
   |(v,.al ob)=>VOk (Rd i) [st.length] (B3z C hh cf Pw Rd ops B l (Am e o.dst v) (st++ [ob]) R)):B5u C hh cf Pw Rd ops B i l e st R:=
 ⟨fun hw=>⟨fun lg hlg=>by
  obtain⟨⟨v,y⟩,hq,h⟩:=h;cases y with
  |rd ids=>
   refine Bmg ho' (hw o ho') hl hq (h.2.ex _ fun q hq=>?_);rcases List.mem_append.1 hq with h1|h1
   ·obtain⟨id,hid,rfl⟩:=List.mem_map.1 h1;exact h.1 id hid
   ·exact hlg q h1
  |al ob=>
   refine Bmr ho' (hw o ho') hl hq (h.2.ex _ fun q hq=>?_);rcases List.mem_cons.1 hq with rfl|h1
   ·exact h.1 _ (by simp)
   ·exact hlg q h1⟩⟩
theorem B7s{i:Nat}{o:Oper}(ho':ops.toList[i]?=some o)(hl:loud o=true)(h:∃r,Bj C hh cf o (ev e) st=some r∧match r with
   |(v,st',V)=>VOk (fun id=>Pw id∧∀j,Rd j id→(maskAt B i).testBit j=true) V (B3z C hh cf Pw Rd ops B l (Am e o.dst v) st' R)):B5u C hh cf Pw Rd ops B i l e st R:=
 ⟨fun hw=>⟨fun lg hlg=>by obtain⟨⟨v,st',V⟩,hs,h⟩:=h;exact Bmu ho' (hw o ho') hl hs (fun id hid=>(h.1 id hid).1) (Awl fun q hq hV=>(h.1 _ hV).2 _ (hlg q hq)) (h.2.ex lg hlg)⟩⟩
end
structure Chw{σ:Type}(At:St→σ→List Nat→Prop)(c:Nat):Prop where
 rt:∀S s ids,At S s ids→c<S.length
 fr:∀S S' s ids,At S s ids→(∀i∈ids,S'[i]?=S[i]?)→At S' s ids
 low:∀S s ids,At S s ids→∀i∈ids,∀o,S[i]?=some o→Zl S.length o=false
 root:∀S s ids n0,At S s ids→c<n0→(∀i∈ids,i<n0→∀o,S[i]?=some o→Zl n0 o=false)→∀i∈ids,i<n0
theorem Chv{S:St}{n i:Nat}(h:i<n):(S.take n)[i]?=S[i]?:=by rw[List.getElem?_take,if_pos h]
theorem Cff{C:Eo}(hP:C.P=prog){σ:Type}{At:St→σ→List Nat→Prop}{c0:Nat}{cf:Ah}{N:Nat}{f:FuncId}{fn:Func}{c:Code}{args:List D}{s s':σ}{st:St}{ids:List Nat}{v:D}(hK:∀f,Ba (cf f))(hA:Chw At c0)(hfn:prog.funcs[f]?=some fn)(hb:fn.body=some c)
  (h0:At st s ids)(h:Rp C (C.hnd.contains f) (C.ords f) cf N (fun i=>i∈ids∨st.length≤i) c (args++List.replicate (fn.ntmps - args.length) .undef) st (fun y e' st'=>(y= .norm∨y= .ret)∧∃vals vs st2 ids',Gm C.P e' st' fn.results.toList=some vals∧Ls C f vals st'=some (vs,st2)∧oneOf vs=v∧(∀i,i<st.length→st2[i]?=st'[i]?)∧At st2 s' ids'∧∀i∈ids',i∈ids∨st.length≤i)):
  ∃S' W ids',run C cf N f args st=some (v,S',W)∧(∀i∈W,i∈ids)∧At S' s' ids'∧(∀i∈ids',i∈ids∨st.length≤i):=by
 obtain⟨y,e',st',V,h1,h2,h3,vals,vs,st2,ids',h4,h5,rfl,h6,h7,h9⟩:=h.ex;have hkk:=Ahg hK N (od:=C.ords f) (C:=C) (h:=C.hnd.contains f) c _ _ _ _ _ _ h1;have hfz:∀i∈Dn st' st2,st.length≤i:=fun id hid=>by
  unfold Dn at hid;obtain⟨_,hc⟩:=List.mem_filter.1 hid;rcases Nat.lt_or_ge id st.length with hlt|hge
  ·rw[h6 id hlt]at hc;cases hx:st'[id]? with
   |none=>rw[hx]at hc;simp at hc
   |some o=>rw[hx]at hc;cases o<;>simp at hc
  ·exact hge
 have hV:∀i∈(Dj (Dn st' st2) V).filter (· <st.length),i∈ids:=fun i hi=>by
  rw[List.mem_filter]at hi;have hlt:=of_decide_eq_true hi.2;rcases Cm.1 hi.1 with h|h
  ·have:=hfz i h;omega
  ·rcases h2 i h with h|h
   ·exact h
   ·omega
 have hrun:run C cf N f args st=finish st.length (oneOf vs) st2 (Dj (Dn st' st2) V):=by
  unfold run;rw[hP,hfn];dsimp only;rw[hb];dsimp only;rw[h1];rw[hP]at h4;rcases h3 with rfl|rfl
  all_goals
   dsimp only;rw[h4];dsimp only;rw[h5]
 rw[hrun];unfold finish;dsimp only;split
 ·exact⟨_,_,ids',rfl,hV,h7,h9⟩
 ·rename_i hn;rw[Bool.or_eq_true,not_or]at hn;obtain⟨_,hn⟩:=hn;have hall:∀i∈ids',i<st.length:=hA.root _ _ _ _ h7 (hA.rt _ _ _ h0) fun i hi hlt o ho=>by
   by_cases hm:i∈(Dj (Dn st' st2) V).filter (· <st.length)
   ·rw[Bool.not_eq_true,List.any_eq_false]at hn;have:=hn i hm;rw[ho]at this;simpa using this
   ·have hnV:i ∉ V:=fun hv=>hm (List.mem_filter.2 ⟨Cm.2 (.inr hv),by simpa using hlt⟩)
    rw[h6 i hlt,hkk.2 i hlt hnV]at ho;refine hA.low _ _ _ h0 i ?_ o ho;rcases h9 i hi with h|h
    ·exact h
    ·omega
  exact⟨_,_,ids',rfl,hV,hA.fr _ _ _ _ h7 fun i hi=>Chv (hall i hi),h9⟩
theorem Bbg{C:Eo}(hP:C.P=prog){cf:Ah}{N:Nat}{f:FuncId}{fn:Func}{c:Code}{args:List D}{st:St}{v:D}(hK:∀f,Ba (cf f))(hfn:prog.funcs[f]?=some fn)(hb:fn.body=some c)
  (h:Rp C (C.hnd.contains f) (C.ords f) cf N (fun i=>st.length≤i) c (args++List.replicate (fn.ntmps - args.length) .undef) st (fun y e' st'=>(y= .norm∨y= .ret)∧∃vals vs st2,Gm C.P e' st' fn.results.toList=some vals∧Ls C f vals st'=some (vs,st2)∧oneOf vs=v∧(∀i,i<st.length→st2[i]?=st'[i]?)∧(D8 st.length v=false∨st2=st))):
  run C cf N f args st=some (v,st,[]):=by
 obtain⟨y,e',st',V,h1,h2,h3,vals,vs,st2,h4,h5,rfl,h6,h7⟩:=h.ex;have hkk:=Ahg hK N (od:=C.ords f) (C:=C) (h:=C.hnd.contains f) c _ _ _ _ _ _ h1;have hfil:(Dj (Dn st' st2) V).filter (· <st.length)= []:=by
  rw[List.filter_eq_nil_iff];intro id hid;rcases Cm.1 hid with h|h
  ·intro hlt;have hlt:=of_decide_eq_true hlt;unfold Dn at h;obtain⟨_,hc⟩:=List.mem_filter.1 h;rw[h6 id hlt]at hc;cases hx:st'[id]? with
   |none=>rw[hx]at hc;simp at hc
   |some o=>rw[hx]at hc;cases o<;>simp at hc
  ·have:=h2 id h;simp;omega
 have htake:st2.take st.length=st:=by
  apply List.ext_getElem?;intro i;rw[List.getElem?_take];split
  ·rename_i hi;rw[h6 i hi];exact hkk.2 i hi fun hn=>by have:=h2 i hn;omega
  ·rename_i hi;rw[List.getElem?_eq_none (by omega)]
 have hrun:run C cf N f args st=finish st.length (oneOf vs) st2 (Dj (Dn st' st2) V):=by
  unfold run;rw[hP,hfn];dsimp only;rw[hb];dsimp only;rw[h1];rw[hP]at h4;rcases h3 with rfl|rfl
  all_goals
   dsimp only;rw[h4];dsimp only;rw[h5]
 rw[hrun];unfold finish;dsimp only;rw[hfil];simp only[List.any_nil,Bool.or_false];split
 ·rename_i hr;rcases h7 with h7|h7
  ·rw[h7]at hr;cases hr
  ·rw[h7]
 ·rw[htake]
theorem Cet{C:Eo}(hP:C.P=prog){cf:Ah}{N:Nat}{f:FuncId}{fn:Func}{c:Code}{args:List D}{st S':St}{v:D}(hK:∀f,Ba (cf f))(hfn:prog.funcs[f]?=some fn)(hb:fn.body=some c)
  (h:Rp C (C.hnd.contains f) (C.ords f) cf N (fun i=>st.length≤i) c (args++List.replicate (fn.ntmps - args.length) .undef) st (fun y e' st'=>(y= .norm∨y= .ret)∧∃vals vs st2,Gm C.P e' st' fn.results.toList=some vals∧Ls C f vals st'=some (vs,st2)∧oneOf vs=v∧(∀i,i<st.length→st2[i]?=st'[i]?)∧(D8 st.length v=true∧st2=S'))):
  run C cf N f args st=some (v,S',[]):=by
 obtain⟨y,e',st',V,h1,h2,h3,vals,vs,st2,h4,h5,rfl,h6,h7,rfl⟩:=h.ex;have hkk:=Ahg hK N (od:=C.ords f) (C:=C) (h:=C.hnd.contains f) c _ _ _ _ _ _ h1;have hfil:(Dj (Dn st' st2) V).filter (· <st.length)= []:=by
  rw[List.filter_eq_nil_iff];intro id hid;rcases Cm.1 hid with h|h
  ·intro hlt;have hlt:=of_decide_eq_true hlt;unfold Dn at h;obtain⟨_,hc⟩:=List.mem_filter.1 h;rw[h6 id hlt]at hc;cases hx:st'[id]? with
   |none=>rw[hx]at hc;simp at hc
   |some o=>rw[hx]at hc;cases o<;>simp at hc
  ·have:=h2 id h;simp;omega
 have hrun:run C cf N f args st=finish st.length (oneOf vs) st2 (Dj (Dn st' st2) V):=by
  unfold run;rw[hP,hfn];dsimp only;rw[hb];dsimp only;rw[h1];rw[hP]at h4;rcases h3 with rfl|rfl
  all_goals
   dsimp only;rw[h4];dsimp only;rw[h5]
 rw[hrun];unfold finish;dsimp only;rw[hfil];simp only[List.any_nil,Bool.or_false,h7,if_true]
theorem B4e{P:Program}{t:TypeId}{cs:List D}{off n:Nat}(hn:Bw P t=some n)(hu:(P.underlying t).isSome=true)(ha:Jg P t=true)(hle:off+n≤cs.length):Dk P t cs off=some (.agg ((cs.drop off).take n)):=by unfold Dk;rw[hn];dsimp only;rw[hu,ha,decide_eq_true hle];rfl
theorem Br0{P:Program}{t:TypeId}{cs:List D}{off:Nat}(hn:Bw P t=some 1)(hu:(P.underlying t).isSome=true)(ha:Jg P t=false)(hle:off+1≤cs.length):Dk P t cs off=cs[off]?:=by unfold Dk;rw[hn];dsimp only;rw[hu,ha,decide_eq_true hle];rfl
theorem ldp{P:Program}{t:TypeId}{S:St}{b off:Nat}{cs:List D}(h:S[b]?=some (.cells cs)):Fp P t (.ptr b off) S=(Dk P t cs off).map fun v=>(v,.rd [b]):=by unfold Fp;dsimp only;rw[h]
theorem Ceq{t:TypeId}{S:St}{b off:Nat}{cs:List D}(hn:Bw prog t=some 1)(hu:(prog.underlying t).isSome=true)(ha:Jg prog t=false){d:D}(h:S[b]?=some (.cells cs))(hd:cs[off]?=some d):Fp prog t (.ptr b off) S=some (d,.rd [b]):=by rw[ldp h,Br0 hn hu ha (List.getElem?_eq_some_iff.1 hd).1,hd];rfl
theorem Ci2{t:TypeId}{S:St}{b off:Nat}{cs:List D}{d:D}(hn:Bw prog t=some 1)(h:S[b]?=some (.cells cs))(hlt:off<cs.length)(h1:d.cells= [d])(h2:Al d=true):I4 prog t (.ptr b off) d S=some (.undef,S.set b (.cells (cs.set off d)),[b]):=by
 unfold I4;simp only[h,hn,h1];have:cs.take off++ [d]++cs.drop (off+1)=cs.set off d:=by rw[List.set_eq_take_append_cons_drop,if_pos hlt];simp
 rw[this];simp[h2,hlt];omega
theorem B5p(t:TypeId)(a b:Int):Bo prog .lss t (.int .i64 a) (.int .i64 b)=some (.bool (decide (a<b))):=rfl
theorem Chs(t:TypeId)(a b:Int):Bo prog .gtr t (.int .i64 a) (.int .i64 b)=some (.bool (decide (b<a))):=rfl
theorem B6y(t:TypeId)(a b:Int):Bo prog .eql t (.int .i64 a) (.int .i64 b)=some (.bool (a == b)):=rfl
theorem Cib(t:TypeId)(a b:Int):Bo prog .neq t (.int .i64 a) (.int .i64 b)=some (.bool (a !=b)):=rfl
theorem Cgf(t:TypeId)(a b:Int)(h: -2 ^ 62<a+b∧a+b<2 ^ 62):Bo prog .add t (.int .i64 a) (.int .i64 b)=some (.int .i64 (a+b)):=by show some (D.int .i64 (IntKind.i64.wrap (a+b)))=_;rw[Go.IntWalk.i64_in _ (by omega)]
end Go.Vam
namespace Go.Vam
abbrev Tx:=List UInt8
abbrev Vl:=Bool × Tx
structure CP where
 room:Nat
 l:List (Tx × List Vl)
 gone:Nat
def B16(k:Tx):List (Tx × List Vl)→Option (List Vl)
 | []=>none
 |e::l=>if k == e.1 then some e.2 else B16 k l
def CP.put(s:CP)(k:Tx)(v:List Vl):Bool × CP:=
 if s.room=0∨(B16 k s.l).isSome=true then(false,s)
 else if s.room<s.l.length+1 then(true,⟨s.room,(s.l++ [(k,v)]).tail,s.gone+1⟩)else(true,⟨s.room,s.l++ [(k,v)],s.gone⟩)
section
variable(key:Nat→Tx)(r:Nat)
variable{key r}
end
end Go.Vam
namespace Go.Vam
open Go.Proofs Go.Proofs.Tryz
theorem Bwz{C:Eo}{hh:Bool}{od:Nat→Option (List Nat × Bool)}{cf:Ah}{N:Nat}{Pw:Nat→Prop}{e:Env}{st:St}{Q:Ex→Env→St→Prop}{c:Operand}{a b:Code}(h:∃d,ev e c=d∧match d with
  | .bool true=>Rp C hh od cf N Pw a e st Q
  | .bool false=>Rp C hh od cf N Pw b e st Q
  |_=>False):Rp C hh od cf N Pw (.cond c a b) e st Q:=by
 obtain⟨d,hc,h⟩:=h;cases d with
 |bool b=>cases b<;>first|exact Ak5 hc h|exact Afn hc h
 |_=>exact h.elim
def Cdo(v:Vl):List D:= [.bool v.1,.str v.2]
def Bow(vs:List Vl):List (List D):=vs.map Cdo
def B2v(l:List (Tx × List Vl)):List (D × D):=l.map fun e=>(.str e.1,.sl (Bow e.2) .none)
def Bwl(l:List Tx):List D:=l.map .str
inductive Bsv(S:St)(c m:Nat):D→List Tx→List Nat→Prop
 |nil:Bsv S c m .nilsl [] []
 |row {k cap:Nat} {keys rest:List Tx} (h:S[k]?=some (.cells (Bwl (keys++rest)))) (h0:keys≠ []) (h1:keys.length≤cap) (h2:cap≤keys.length+rest.length) (hc:k≠c) (hm:k≠m):Bsv S c m (.arr 1 k 0 keys.length cap) keys [k]
inductive CAt(c:Nat)(S:St)(s:CP):List Nat→Prop
 |mk {m:Nat} {kd:D} {ks:List Nat} (h:S[c]?=some (.cells [.int .i64 s.room,kd,.map m,.int .i64 s.gone])) (hm:S[m]?=some (.map (B2v s.l))) (hk:Bsv S c m kd (s.l.map (·.1)) ks):CAt c S s (c::m::ks)
theorem Chx(n:Nat)(l:List Tx):F6 n (Bwl l)=false:=by
 induction l with
 |nil=>rfl
 |cons t l ih=>show(D8 n (.str t) || F6 n (Bwl l))=false;rw[ih];rfl
theorem Cg5(n:Nat)(l:List Vl):Gt n (Bow l)=false:=by
 induction l with
 |nil=>rfl
 |cons t l ih=>show(F6 n (Cdo t) || Gt n (Bow l))=false;rw[ih];rfl
theorem Chy(n:Nat)(l:List (Tx × List Vl)):Zl n (.map (B2v l))=false:=by unfold Zl;rw[List.any_eq_false];intro p hp;unfold B2v at hp;obtain⟨e,_,rfl⟩:=List.mem_map.1 hp;simp[D8,Cg5]
section
variable{S S':St}{c m:Nat}{kd:D}{keys:List Tx}{ks:List Nat}
theorem Bsv.fr(h:Bsv S c m kd keys ks)(hf:∀i∈ks,S'[i]?=S[i]?):Bsv S' c m kd keys ks:=by
 cases h with
 |nil=>exact .nil
 |row h h0 h1 h2 hc hm=>exact .row (by rw[hf _ (by simp)];exact h) h0 h1 h2 hc hm
theorem Bsv.lt(h:Bsv S c m kd keys ks):D8 S.length kd=false∧∀i∈ks,i<S.length:=by
 cases h with
 |nil=>exact⟨rfl,by simp⟩
 |row h h0 h1 h2 hc hm=>have:=(List.getElem?_eq_some_iff.1 h).1;exact⟨by simp[D8];omega,by simpa using this⟩
theorem Bsv.ref(h:Bsv S c m kd keys ks){n:Nat}(hr:D8 n kd=false):∀i∈ks,i<n:=by
 cases h with
 |nil=>simp
 |row h h0 h1 h2 hc hm=>simpa[D8]using hr
theorem Bsv.ne(h:Bsv S c m kd keys ks):∀i∈ks,i≠c∧i≠m:=by
 cases h with
 |nil=>simp
 |row h h0 h1 h2 hc hm=>simpa using⟨hc,hm⟩
theorem Bsv.cons{a:Tx}{t:List Tx}(h:Bsv S c m kd keys ks)(e:keys=a::t):∃k cap rest,kd= .arr 1 k 0 (t.length+1) cap∧ks= [k]∧S[k]?=some (.cells (Bwl (a::t++rest)))∧t.length+1≤cap∧cap≤t.length+1+rest.length∧k≠c∧k≠m:=by
 cases h with
 |nil=>cases e
 |row h h0 h1 h2 hc hm=>subst e;exact⟨_,_,_,rfl,rfl,h,h1,h2,hc,hm⟩
theorem Bsv.cells(h:Bsv S c m kd keys ks)(n:Nat):∀i∈ks,∀o,S[i]?=some o→Zl n o=false:=by
 cases h with
 |nil=>simp
 |row h h0 h1 h2 hc hm=>
  intro i hi o ho;obtain rfl:i=_:=by simpa using hi
  rw[h]at ho;cases ho;exact Chx _ _
end
theorem Cep(c:Nat):Chw (CAt c) c:= {
 rt S s ids h:=by obtain⟨h,_,_⟩:=h;exact(List.getElem?_eq_some_iff.1 h).1
 fr S S' s ids h hf:=by obtain⟨h,hm,hk⟩:=h;exact .mk (by rw[hf c (by simp)];exact h) (by rw[hf _ (by simp)];exact hm) (hk.fr fun i hi=>hf i (by simp[hi]))
 low S s ids h i hi o ho:=by
  obtain⟨h,hm,hk⟩:=h;rcases List.mem_cons.1 hi with rfl|hi
  ·rw[h]at ho;cases ho;have hmlt:=(List.getElem?_eq_some_iff.1 hm).1;simp only[Zl,F6,D8,hk.lt.1,Bool.false_or,Bool.or_false,decide_eq_false_iff_not];omega
  ·rcases List.mem_cons.1 hi with rfl|hi
   ·rw[hm]at ho;cases ho;exact Chy _ _
   ·exact hk.cells _ i hi o ho
 root S s ids n0 h hc hall:=by
  obtain⟨h,hm,hk⟩:=h;have h1:=hall c (by simp) hc _ h
  simp only[Zl,F6,D8,Bool.false_or,Bool.or_false,Bool.or_eq_false_iff,decide_eq_false_iff_not]at h1;intro i hi;rcases List.mem_cons.1 hi with rfl|hi
  ·exact hc
  ·rcases List.mem_cons.1 hi with rfl|hi
   ·omega
   ·exact hk.ref h1.1 i hi}
theorem zs3:Bw prog 3=some 1:=by kernel_rfl
theorem zs9:Bw prog 9=some 1:=by kernel_rfl
theorem Che:Bw prog 35=some 1:=by kernel_rfl
theorem Cjf:Bw prog 88=some 1:=by kernel_rfl
theorem Chu:Bw prog 29=some 2:=by kernel_rfl
theorem zu3:(prog.underlying 3).isSome=true:=by kernel_rfl
theorem Cid:(prog.underlying 35).isSome=true:=by kernel_rfl
theorem Cjz:(prog.underlying 88).isSome=true:=by kernel_rfl
theorem za3:Jg prog 3=false:=by kernel_rfl
theorem Cin:Jg prog 35=false:=by kernel_rfl
theorem Cja:Jg prog 88=false:=by kernel_rfl
theorem Cig:Aar prog 88=some (9,22):=by kernel_rfl
theorem Cmo:Xn prog 22=some .nilsl:=by kernel_rfl
theorem Cgx(b:Nat):Eh prog 90 (.ptr b 0) 0=some (.ptr b 0,.pure):=by kernel_rfl
theorem Cg4(b:Nat):Eh prog 90 (.ptr b 0) 1=some (.ptr b 1,.pure):=by kernel_rfl
theorem Cg2(b:Nat):Eh prog 90 (.ptr b 0) 2=some (.ptr b 2,.pure):=by kernel_rfl
theorem Cf4(b:Nat):Bo prog .eql 25 (.ptr b 0) .nilp=some (.bool false):=by kernel_rfl
theorem Cgm:Cx prog 35=some 9:=by kernel_rfl
theorem Cih:Cx prog 22=some 29:=by kernel_rfl
def Ccm(k:Tx):List (Tx × List Vl)→Nat→Option (Nat × List Vl)
 | [],_=>none
 |e::l,i=>if k == e.1 then some (i,e.2)else Ccm k l (i+1)
theorem Cer(k:Tx):∀(l:List (Tx × List Vl)) (i:Nat),(Ccm k l i).map (·.2)=B16 k l
 | [],i=>rfl
 |e::l,i=>by
  unfold Ccm B16;split
  ·rfl
  ·exact Cer k l (i+1)
theorem Cmb(a b:Tx):eqT prog 20 9 (.str a) (.str b)=some (a == b):=by unfold eqT;rw[underlying9]
theorem B99(k:Tx):∀(l:List (Tx × List Vl)) (i:Nat),Jc prog 9 (.str k) (B2v l) i=some ((Ccm k l i).map fun p=>(p.1,.sl (Bow p.2) .none))
 | [],i=>rfl
 |e::l,i=>by
  show Jc prog 9 (.str k) ((.str e.1,.sl (Bow e.2) .none)::B2v l) i=_;unfold Jc Ccm;rw[Cmb];split<;>rename_i h
  ·rw[Option.some.inj h];rfl
  ·rw[Option.some.inj h];exact B99 k l (i+1)
  ·cases h
theorem Cjv(k:Tx):Xo prog 9 (.str k)=true:=by unfold Xo Va;rw[underlying9]
def Ckv:Option (List Vl)→D
 |some v=> .sl (Bow v) .none
 |none=> .nilsl
theorem Cix{S:St}{m:Nat}{l:List (Tx × List Vl)}(k:Tx)(h:S[m]?=some (.map (B2v l))):Io prog 88 (.map m) (.str k) true S=some (.tup [Ckv (B16 k l),.bool (B16 k l).isSome],.rd [m]):=by unfold Io;rw[Cig];simp only[Cjv,if_true,h,B99,Cmo];rw[← Cer k l 0];cases Ccm k l 0<;>rfl
section
variable{cf:Ah}{N:Nat}(hK:∀f,Ba (cf f))
include hK
end
theorem Chj(vs:List Vl):(Bow vs).flatten.length=vs.length*2:=by
 induction vs with
 |nil=>rfl
 |cons v l ih=>show((Cdo v)++(Bow l).flatten).length=_;rw[List.length_append,ih,List.length_cons];show 2+_=_;omega
theorem Cjr(vs:List Vl):chunk 2 vs.length (Bow vs).flatten=Bow vs:=by
 induction vs with
 |nil=>rfl
 |cons v l ih=>show chunk 2 (l.length+1) (Cdo v++(Bow l).flatten)=Cdo v::Bow l;unfold chunk;rw[show(Cdo v++(Bow l).flatten).take 2=Cdo v from rfl,show(Cdo v++(Bow l).flatten).drop 2=(Bow l).flatten from rfl,ih]
theorem Chg(vs:List Vl):(Bow vs).length=vs.length:=List.length_map ..
theorem Cmq(vs:List Vl):Kr 2 0 vs.length (Bow vs).flatten=some (Bow vs):=by unfold Kr;rw[Chj,List.drop_zero,Cjr];simp
theorem Cia(p:List D→Bool)(vs:List Vl)(h:∀v,p (Cdo v)=true):(Bow vs).all p=true:=by rw[List.all_eq_true];intro r hr;obtain⟨v,_,rfl⟩:=List.mem_map.1 hr;exact h v
theorem Cke{f:St→D→Option (D × St)}:∀{l:List D},(∀d∈l,∀st,f st d=some (d,st))→∀st,Eu f st l=some (l,st)
 | [],_,st=>rfl
 |d::l,h,st=>by
  unfold Eu;rw[h d (by simp) st]
  dsimp only;rw[Cke (l:=l) (fun d hd=>h d (by simp[hd])) st]
theorem Chi{vs:List Vl}{d:D}(h:d∈(Bow vs).flatten):(∃b,d= .bool b)∨∃t,d= .str t:=by
 obtain⟨r,hr,hd⟩:=List.mem_flatten.1 h;obtain⟨v,_,rfl⟩:=List.mem_map.1 hr;simp only[Cdo,List.mem_cons,List.not_mem_nil,or_false]at hd;rcases hd with rfl|rfl
 ·exact .inl ⟨_,rfl⟩
 ·exact .inr ⟨_,rfl⟩
theorem Ch4(n:Nat)(vs:List Vl)(st:St):Eu (Sl (n+1)) st (Bow vs).flatten=some ((Bow vs).flatten,st):=Cke (fun d hd st=>by rcases Chi hd with⟨b,rfl⟩|⟨t,rfl⟩<;>rfl) st
theorem at2(S:St)(a b:Obj):(S++ [a,b])[S.length+1]?=some b:=by
 rw[List.getElem?_append_right (by omega),Nat.add_sub_cancel_left]
 rfl
theorem set2(S:St)(a b d:Obj):(S++ [a,b]).set (S.length+1) d=S++ [a,d]:=by
 rw[List.set_append_right _ _ (by omega),Nat.add_sub_cancel_left]
 rfl
theorem Cgr(vs:List Vl)(S:St):Sl Gu (S++ [.dead,.cells (Bow vs).flatten]) (.arr 2 (S.length+1) 0 vs.length vs.length)=some (.sl (Bow vs) .none,S++ [.dead,.fcells (Bow vs).flatten]):=by rw[show Gu=7+1+1 from rfl];unfold Sl;simp only[at2,Ch4,Cmq,set2]
theorem Ci1:zeroOf prog 29=some [.bool false,.str []]:=by kernel_rfl
theorem Bhp:Jm prog 29=some 24:=by kernel_rfl
theorem A7y:Kt prog 29 2=true:=by kernel_rfl
theorem at1(S:St)(a:Obj):(S++ [a])[S.length]?=some a:=by
 rw[List.getElem?_append_right (by omega),Nat.sub_self]
 rfl
theorem set1(S:St)(a d:Obj):(S++ [a]).set S.length d=S++ [d]:=by
 rw[List.set_append_right _ _ (by omega),Nat.sub_self]
 rfl
theorem Clh(v:Vl)(l:List Vl)(gr:Gr)(S:St)(hl:l.length<2 ^ 30):C8 prog true 22 (.arr 2 S.length 0 0 0) (.sl (Bow (v::l)) gr) (S++ [.cells (J2 [.bool false,.str []] 0)])=
  some (.arr 2 (S.length+1) 0 (l.length+1) (l.length+1),S++ [.dead,.cells (Bow (v::l)).flatten],[S.length]):=by
 rw[show J2 [D.bool false,D.str []] 0= []from rfl];unfold C8;rw[Cih];dsimp only;rw[Chu,Bhp];have h1:(Bow (v::l)).all (fun r=>r.length == 2 && r.all Al)=true:=Cia _ _ fun v=>by simp[Cdo,Al]
 have h2:(Bow (v::l)).length=l.length+1:=Chg _;have h3:(Bow (v::l)).isEmpty=false:=rfl;simp only[rowsOf,h1,A7y,Bool.and_self,if_true,h3,h2,at1,set1];have e1:decide ((0+(l.length+1))*24≤Dh)=true:=by simp[Dh];omega
 have e2:decide (0+(l.length+1)≤Dh)=true:=by simp[Dh];omega
 rw[e1,e2];simp
theorem Cma(v:Vl)(l:List Vl)(gr:Gr):Bo prog .eql 22 (.sl (Bow (v::l)) gr) .nilsl=some (.bool false):=by show(eqD prog 22 (.sl (Cdo v::Bow l) gr) .nilsl).map D.bool=_;unfold eqD;rw[underlying22];rfl
structure Cgk(cf:Ah):Prop where
 n:∀S,cf 43 [.nilsl] S=some (.nilsl,S,[])
 e:∀S,cf 43 [.sl [] .none] S=some (.sl [] .exact,S,[])
 c:∀v (l:List Vl) S,l.length<2 ^ 30→cf 43 [.sl (Bow (v::l)) .none] S=some (.arr 2 (S.length+1) 0 (l.length+1) (l.length+1),S++ [.dead,.cells (Bow (v::l)).flatten],[])
section
variable{cf:Ah}{N:Nat}(hK:∀f,Ba (cf f))
include hK
omit hK in
theorem Ck7:prog.underlying 22=some (.slice 29):=underlying22
omit hK in
theorem Cdz{C:Eo}{f:FuncId}{args:List D}{S:St}(hb:Dm C.P f=true)(hr:C.byRef.contains f=true):G6 C cf f [] [] args S=cf f args S:=by unfold G6;rw[hb,hr];simp
end
theorem B2m(l:List Tx):(Bwl l).length=l.length:=List.length_map ..
theorem B5g(a b:List Tx):Bwl (a++b)=Bwl a++Bwl b:=List.map_append
theorem by9:Jm prog 9=some 16:=by kernel_rfl
theorem hz9:Kt prog 9 1=true:=by kernel_rfl
theorem zo9:zeroOf prog 9=some [.str []]:=by kernel_rfl
theorem Cif{T:St}{c m n:Nat}{kd:D}{keys:List Tx}{ks:List Nat}(k:Tx)(hk:Bsv T c m kd keys ks)(hn:T[n]?=some (.cells [.str k]))(hl:keys.length<1000)(hc:c<T.length)(hm:m<T.length):
  ∃kd' T' W ks',C8 prog true 35 kd (.arr 1 n 0 1 1) T=some (kd',T',W)∧Bsv T' c m kd' (keys++ [k]) ks'∧(∀i∈W,i∈ks)∧(∀i∈ks',i∈ks∨T.length≤i)∧(∀i,i<T.length→i ∉ ks→T'[i]?=T[i]?)∧T.length≤T'.length∧kd'.cells= [kd']∧Al kd'=true:=by
 have hr:rowsOf T (.arr 1 n 0 1 1)=some [[.str k]]:=by simp[rowsOf,hn,Kr,chunk]
 unfold C8;rw[Cgm];dsimp only;rw[zs9,by9,hr];dsimp only;have ha:([[.str k]]:List (List D)).all (fun r=>r.length == 1 && r.all Al)=true:=rfl;rw[ha,hz9];simp only[Bool.and_self,if_true];cases hk with
 |nil=>refine⟨.arr 1 T.length 0 1 1,T++ [.cells [.str k]],[],[T.length],by simp[Dh],.row (keys:= [k]) (rest:= []) (at1 _ _) (by simp) (Nat.le_refl _) (Nat.le_refl _) (by omega) (by omega),by simp,by simp,fun i hi _=>List.getElem?_append_left hi,by simp,rfl,rfl⟩
 |row h h0 h1 h2 hkc hkm=>
  rename_i k0 cap rest;have hlt:=(List.getElem?_eq_some_iff.1 h).1;have e1:decide ((keys.length+1)*16≤Dh)=true:=decide_eq_true (by unfold Dh;omega)
  have e2:decide (keys.length+1≤Dh)=true:=decide_eq_true (by unfold Dh;omega)
  simp only[h,List.length_cons,List.length_nil,List.isEmpty_cons,BF,Nat.zero_add,e1,e2,decide_true,Bool.and_self,Bool.not_true,Nat.mul_one];by_cases hf:keys.length+1≤cap
  ·have hcl:cap≤(Bwl (keys++rest)).length:=by rw[B2m,List.length_append];exact h2
   rw[decide_eq_true hf,decide_eq_true hcl];obtain⟨r0,rest',rfl⟩:∃r0 rest',rest=r0::rest':=by
    cases rest with
    |nil=>simp at h2;omega
    |cons r0 rest'=>exact⟨_,_,rfl⟩
   have e3:(Bwl (keys++r0::rest')).take keys.length++ [[D.str k]].flatten++(Bwl (keys++r0::rest')).drop (keys.length+1)=Bwl ((keys++ [k])++rest'):=by
    rw[B5g,List.take_left' (B2m _),B5g,B5g];rw[show keys.length+1=(Bwl keys).length+1 from by rw[B2m],List.drop_append,List.drop_of_length_le (by omega),List.nil_append,Nat.add_sub_cancel_left]
    rfl
   simp only[Bool.and_self,if_true];refine⟨_,_,[k0],[k0],rfl,?_,by simp,by simp,fun i hi hne=>?_,by simp,rfl,rfl⟩
   ·rw[e3];have:=Bsv.row (S:=T.set k0 (.cells (Bwl ((keys++ [k])++rest')))) (c:=c) (m:=m) (k:=k0) (cap:=cap) (keys:=keys++ [k]) (rest:=rest') (by rw[List.getElem?_set,if_pos rfl,if_pos hlt]) (by simp) (by simpa using hf) (by simp at h2 ⊢;omega) hkc hkm
    simpa using this
   ·rw[List.getElem?_set,if_neg (fun e=>hne (by simp[e]))]
  ·rw[decide_eq_false hf];have e4:keys.length≤(Bwl (keys++rest)).length:=by rw[B2m,List.length_append];simp
   simp only[Bool.false_and,BF,if_pos e4];have e3:(Bwl (keys++rest)).take keys.length++ [[D.str k]].flatten=Bwl (keys++ [k]):=by rw[B5g,List.take_left' (B2m _),B5g];rfl
   rw[e3];refine⟨.arr 1 T.length 0 (keys.length+1) (keys.length+1),T.set k0 .dead++ [.cells (Bwl (keys++ [k]))],[k0],[T.length],rfl,?_,by simp,by simp,fun i hi hne=>?_,by simp,rfl,rfl⟩
   ·have:=Bsv.row (S:=T.set k0 .dead++ [.cells (Bwl (keys++ [k]))]) (c:=c) (m:=m) (k:=T.length) (cap:=keys.length+1) (keys:=keys++ [k]) (rest:= []) (by
     rw[List.append_nil,List.getElem?_append_right (by simp),List.length_set,Nat.sub_self]
     rfl) (by simp) (by simp) (by simp) (by omega) (by omega)
    simpa using this
   ·rw[List.getElem?_append_left (by rw[List.length_set];exact hi),List.getElem?_set,if_neg (fun e=>hne (by simp[e]))]
theorem Ce2:prog.underlying 35=some (.slice 9):=underlying35
section
variable{cf:Ah}{N:Nat}(hK:∀f,Ba (cf f))
include hK
end
structure Cgg(s:CP):Prop where
 room:s.room≤200
 len:s.l.length≤s.room
 gone:s.gone<2 ^ 60
 val:∀e∈s.l,e.2.length<2 ^ 30
theorem Cgw{k:Tx}:∀{l:List (Tx × List Vl)} {i:Nat},B16 k l=none→Ccm k l i=none:=fun {l i} h=>by have:=Cer k l i;rw[h]at this;simpa using this
theorem Cg1(S a b:St):∀i∈Dn (S++a) (S++b),S.length≤i:=fun i hi=>by
 unfold Dn at hi;obtain⟨_,hc⟩:=List.mem_filter.1 hi;rcases Nat.lt_or_ge i S.length with h|h
 ·rw[List.getElem?_append_left h,List.getElem?_append_left h]at hc;cases hx:S[i]? with
  |none=>rw[hx]at hc;simp at hc
  |some o=>rw[hx]at hc;cases o<;>simp at hc
 ·exact h
theorem Clk{S S':St}{m:Nat}{l:List (Tx × List Vl)}{k:Tx}{vs:List Vl}{d:D}(hz:Sl Gu S d=some (.sl (Bow vs) .none,S'))(hm:S'[m]?=some (.map (B2v l)))(hg:B16 k l=none):
  Hq prog 88 (.map m) (.str k) d S=some (.undef,S'.set m (.map (B2v (l++ [(k,vs)]))),Dj (Dn S S') [m]):=by
 unfold Hq;rw[Cig];simp only[Cjv,if_true,hz,hm,B99,Cgw hg,Option.map_none];rw[show B2v (l++ [(k,vs)])=B2v l++ [(.str k,.sl (Bow vs) .none)]from List.map_append]
theorem B5o{S:St}{i j:Nat}{o:Obj}(h:j≠i):(S.set i o)[j]?=S[j]?:=by rw[List.getElem?_set,if_neg (fun e=>h e.symm)]
theorem B58{S:St}{i:Nat}{o x:Obj}(h:S[i]?=some x):(S.set i o)[i]?=some o:=by rw[List.getElem?_set,if_pos rfl,if_pos (List.getElem?_eq_some_iff.1 h).1]
section
variable{cf:Ah}{N:Nat}(hK:∀f,Ba (cf f))
include hK
end
theorem Ca0(t:Tx):List.take (0*1) (J2 [D.str []] 1)++(D.str t).cells++List.drop (0*1+1) (J2 [D.str []] 1)= [.str t]:=rfl
theorem Cau(t:Tx):List.take (0*1) (J2 [D.str []] 1)++ [D.str t]++List.drop (0*1+1) (J2 [D.str []] 1)= [.str t]:=rfl
theorem Bsv.len'{S:St}{c m:Nat}{kd:D}{keys:List Tx}{ks:List Nat}(h:Bsv S c m kd keys ks)(S':St):Ny prog 35 kd S'=some (.int .i64 (keys.length:Int),.pure):=by
 unfold Ny;rw[underlying35];cases h with
 |nil=>rfl
 |row=>rfl
section
variable{cf:Ah}{N:Nat}(hK:∀f,Ba (cf f))
include hK
end
end Go.Vam
set_option maxRecDepth 100000
namespace Go.Vam
open Go.Proofs Go.Proofs.Tryz Go.RowKit
attribute [local go_sem] Oper.semAt_some
theorem Tryz.clone43_nil(w:World):Calls prog 43 #[.slice none 0 0] w fun e w'=>e= .returned (.slice none 0 0)∧w'=w:=by
 have hq:=Lib.run_eql_slice_nil w 22 29 none 0 0 0 0 (P:=prog) underlying22
 go_enter func43,ntmps43
 go_wp2
 go_ret
 exact⟨rfl,rfl⟩
theorem Tryz.clone43_emp(a:Addr)(cap:Nat)(w:World):Calls prog 43 #[.slice (some a) 0 cap] w fun e w'=>(∃b,e= .returned (.slice (some b) 0 0))∧Below w.heap.size w w':=by
 have hq:=Lib.run_eql_slice_nil w 22 29 (some a) 0 cap 0 0 (P:=prog) underlying22
 go_enter func43,ntmps43
 go_wp2
 go_ret
 exact⟨⟨_,rfl⟩,(Below.refl _ _).alloc (Nat.le_refl _) _⟩
def B5v:Bz:=fun _ args st=>match args with
 | [.sl [] _]=>some (.sl [] .exact,st,[])
 |_=>none
theorem Cgi{β:Nat→Nat→Option Value}(cf:Ah):Ji prog β 43 (B5v cf):=by
 intro args st v st' W h g w A hb hs hA;unfold B5v at h;split at h
 case h_2=>cases h
 rename_i gr;cases h;obtain⟨v0,rfl⟩:=K9 (A:=A) (by simpa using hA.size)
 have hv0:VR g (.sl [] gr) v0:=hA.at_ 0 _ _ rfl rfl;have some_:∀(a:Addr) (cap:Nat),v0= .slice (some a) 0 cap→Calls prog 43 #[v0] w fun e w'=>∃r g',e= .returned r∧VR g' (.sl [] .exact) r∧Co g' st w'∧Step g st w [] g' st w'∧Dx g st g':=fun a cap e=>by subst e;refine(Tryz.clone43_emp a cap w).mono ?_;rintro e w' ⟨⟨b,rfl⟩,hb'⟩;obtain⟨h4,h5⟩:=Kz hs hb';exact⟨_,g,rfl,.slEmp (by simp) (fun _=>rfl),h4,h5,Dx.refl _ _⟩
 cases hv0 with
 |slNil=>refine(Tryz.clone43_nil w).mono ?_;rintro e w' ⟨rfl,rfl⟩;exact⟨_,g,rfl,.slNil (fun t n h=>by cases h),hs,Step.refl _ _ _,Dx.refl _ _⟩
 |slEmp=>exact some_ _ _ rfl
 |sl=>exact some_ _ _ rfl
theorem Cga(cf:Ah):Ba (B5v cf):=Gl (fun cf args st v st' W h=>by
 unfold B5v at h;split at h
 ·cases h;rfl
 ·cases h) cf
end Go.Vam
