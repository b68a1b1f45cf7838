/-
  Iterators over maps, slices.Collect; sorting in plain words.
-/
import Derived.Test.YtanifnfklgldpaaGreatDoorVac
import Derived.RangeFuncOwn
import Derived.RangeFuncLeaves
import Derived.Sort.Row
import Derived.Sort.Grow
import Derived.Shelf.SlSortCmp.WholeK
set_option linter.unusedSimpArgs false
set_option linter.unusedVariables false
namespace Go.Vam
section
variable{n:Nat}{P:Program}{ops:Array Oper}{Q:Exit→Act→World→Prop}{rest:List Nat}{i:Nat}{o:Oper}{a:Act}{w w':World}{r:Value}
theorem eval_put{t s:Nat}(v:Value):(a.put (some t) v).eval (.tmp s)=if t=s∧t<a.tmps.size then v else a.eval (.tmp s):=by
 simp only[Act.put,Act.eval,Array.getD_eq_getD_getElem?,Array.getElem?_setIfInBounds];by_cases e:t=s
 ·subst e;by_cases h:t<a.tmps.size
  ·simp[h]
  ·simp[h]
 ·simp[e]
theorem Ar{d:Option Tmp}{v:Value}:(a.put d v).tmps.size=a.tmps.size:=by cases d<;>simp[Act.put]
theorem A7(d:Option Tmp)(ho:ops[i]?=some o)(hd:o.dst=d)(hg:o.guard=none)(hr:(execOp a.eval o).run P w= .ok (.value r) w')(h:wpOpsIn Fence.wide n P ops Q rest (a.put d r) w'):
  wpOpsIn Fence.wide n P ops Q (i::rest) a w:=by
 subst hd;unfold wpOpsIn;rw[ho];dsimp only;rw[show Region.wanted o (yielded ops a.tmps)=true from by simp[Region.wanted,hg]]
 simp only[if_true];refine⟨fun _ _=>trivial,?_⟩;show Oper.uponIn _ _ _ _ _ _ _ ((execOp a.eval o).run P w);rw[hr];exact h
theorem Aqu(d:Option Tmp)(ho:ops[i]?=some o)(hd:o.dst=d)(hg:o.guard=none)(hr:(execOp a.eval o).run P w= .ok .skip w')(h:wpOpsIn Fence.wide n P ops Q rest (a.put d undef) w'):
  wpOpsIn Fence.wide n P ops Q (i::rest) a w:=by
 subst hd;unfold wpOpsIn;rw[ho];dsimp only;rw[show Region.wanted o (yielded ops a.tmps)=true from by simp[Region.wanted,hg]]
 simp only[if_true];refine⟨fun _ _=>trivial,?_⟩;show Oper.uponIn _ _ _ _ _ _ _ ((execOp a.eval o).run P w);rw[hr];exact h
theorem Acb(d:Option Tmp){l fn:Nat}{tmps:Array Value}{assign body:Code}(ho:ops[i]?=some o)(hd:o.dst=d)(hg:o.guard=none)(hr:(execOp a.eval o).run P w= .ok (.round l fn tmps assign body) w')
  {R:Ending→World→Prop}(hR:RoundIn Fence.wide (n - 1) P l fn tmps assign body w' R)(hret:∀v w'',R (.returned v) w''→wpOpsIn Fence.wide n P ops Q rest (a.put d v) w'')
  (hpan:∀ch w'',¬ R (.panicked ch) w'')(hout:∀w'',¬ R .outgrown w''):
  wpOpsIn Fence.wide n P ops Q (i::rest) a w:=by
 subst hd;unfold wpOpsIn;rw[ho];dsimp only;rw[show Region.wanted o (yielded ops a.tmps)=true from by simp[Region.wanted,hg]]
 simp only[if_true];refine⟨fun _ _=>trivial,?_⟩;show Oper.uponIn _ _ _ _ _ _ _ ((execOp a.eval o).run P w);rw[hr];refine⟨fun h=>absurd h (by simp[Fence.wide]),hR.mono ?_⟩
 intro e w'' he;cases e with
 |returned v=>exact hret v w'' he
 |panicked ch=>exact(hpan _ _ he).elim
 |outgrown=>exact(hout _ he).elim
end
section
variable{P:Program}{w:World}{c r:Nat}{M:Array MapEntry}{k0:Nat}
theorem Nr{k:Nat}{ob:Go.Obj}(h:w.heap[k]?=some ob)(hc:∀A T f,ob≠ .cells A T f):(getObj k).run P w= .ok ob w:=by
 cases ob with
 |cells A T f=>exact(hc A T f rfl).elim
 |_=>simp[getObj,Sem.run,h]
theorem An4{k:Nat}{ob ob':Go.Obj}(h:w.heap[k]?=some ob)(hc:∀A T f,ob≠ .cells A T f):(setObj k ob').run P w= .ok () {w with heap:=w.heap.setIfInBounds k ob'}:=by
 cases ob with
 |cells A T f=>exact(hc A T f rfl).elim
 |_=>simp[Go.setObj,Sem.run,h]
theorem Me{tm tk te:TypeId}(hu:P.underlying tm=some (.map tk te))(hM:w.heap[c]?=some (.map M k0)):
  (Instr.range tm (.map (some c))).run P w= .ok (.pointer (some ⟨w.heap.size,0,none⟩)) (w.alloc (.mapIter (some c) k0 #[] k0)):=by
 unfold Instr.range;simp only[Sem.run_bind,run_underlying hu,Result.andThen_ok,Nr (P:=P) hM (by simp),Sem.run_pure]
 rfl
def leftOf(M:Array MapEntry)(seen:Array Nat):Array MapEntry:=M.filter fun e=>!seen.contains e.born
theorem Ai5{seen:Array Nat}{ty:TypeId}(hr:w.heap[r]?=some (.mapIter (some c) k0 seen k0))(hM:w.heap[c]?=some (.map M k0))(hlt:∀m∈M.toList,m.born<k0):
  (leftOf M seen= #[]∧(Instr.next (.pointer (some ⟨r,0,none⟩)) false ty).run P w= .ok (.tuple #[.bool false]) w)∨
  ∃e∈(leftOf M seen).toList,∃d,(Instr.next (.pointer (some ⟨r,0,none⟩)) false ty).run P w= .ok (.tuple #[.bool true,e.key,e.val]) {w with drawn:=d,heap:=w.heap.setIfInBounds r (.mapIter (some c) k0 (seen.push e.born) k0)}:=by
 have hall:(!seen.isEmpty && !M.isEmpty && M.all (·.born≥k0))=false:=by
  cases hMe:M.isEmpty with
  |true=>simp
  |false=>
   have:∃m,m∈M.toList:=by
    cases hl:M.toList with
    |nil=>
     have:M= #[]:=by rw[← Array.toArray_toList (xs:=M),hl]
     rw[this]at hMe;simp at hMe
    |cons m l=>exact⟨m,by simp⟩
   obtain⟨m,hm⟩:=this;have h1:=hlt m hm;have:M.all (·.born≥k0)=false:=by
    rw[Bool.eq_false_iff];intro h;rw[Array.all_eq_true']at h;have:=h m (by simpa using hm)
    simp at this;omega
   rw[this];simp
 have hold:(leftOf M seen).filter (·.born<k0)=leftOf M seen:=by
  rw[Array.filter_eq_self];intro e he;have:e∈M:=(Array.mem_filter.1 he).1;have:=hlt e (by simpa using this)
  simpa using this
 have hnew:(leftOf M seen).filter (·.born≥k0)= #[]:=by
  rw[Array.filter_eq_empty_iff];intro e he;have:e∈M:=(Array.mem_filter.1 he).1;have:=hlt e (by simpa using this)
  simpa using this
 unfold Instr.next;simp only[Sem.run_bind,Nr (P:=P) hr (by simp),Nr (P:=P) hM (by simp),Result.andThen_ok]
 rw[hall];simp only[BF];have hl:(M.filter fun e=>!seen.contains e.born)=leftOf M seen:=rfl;rw[hl,hold,hnew];simp only[Array.append_empty];by_cases he:leftOf M seen= #[]
 ·refine .inl ⟨he,?_⟩;rw[he];simp[Sem.run_bind,choose,Sem.run,Question.forced]
 ·right;have hsz:0<(leftOf M seen).size:=by
   rcases Nat.eq_zero_or_pos (leftOf M seen).size with h|h
   ·exact(he (Array.eq_empty_of_size_eq_zero h)).elim
   ·exact h
  have hie:(leftOf M seen).isEmpty=false:=by simp[Array.isEmpty];omega
  rw[hie];simp only[BF,Array.empty_append,Array.size_map];have key:∃x d,x<(leftOf M seen).size∧(choose (.mapNext (leftOf M seen).size)).run P w= .ok x {w with drawn:=d}:=by
   unfold choose;simp only[Sem.run];by_cases hf:(Question.mapNext (leftOf M seen).size).forced=true
   ·rw[if_pos hf];exact⟨0,w.drawn,hsz,rfl⟩
   ·rw[if_neg hf];exact⟨_,w.drawn+1,Nat.mod_lt _ hsz,rfl⟩
  obtain⟨x,d,hx,hrun⟩:=key;refine⟨(leftOf M seen)[x],by simp,d,?_⟩
  rw[Sem.run_bind,hrun];simp only[Result.andThen_ok,Array.getElem?_map,Array.getElem?_eq_getElem hx,Option.map_some];have hr':({w with drawn:=d}:World).heap[r]?=some (.mapIter (some c) k0 seen k0):=hr;simp only[Sem.run_bind,An4 (P:=P) hr' (by simp),Result.andThen_ok,Sem.run_pure]
theorem Q4{seen:Array Nat}(hr:w.heap[r]?=some (.mapIter (some c) k0 seen k0))(hM:w.heap[c]?=some (.map M k0))(hlt:∀m∈M.toList,m.born<k0):
  (leftOf M seen= #[]∧∀ty,(Instr.next (.pointer (some ⟨r,0,none⟩)) false ty).run P w= .ok (.tuple #[.bool false]) w)∨
  ∃e∈(leftOf M seen).toList,∃d,∀ty,(Instr.next (.pointer (some ⟨r,0,none⟩)) false ty).run P w= .ok (.tuple #[.bool true,e.key,e.val]) {w with drawn:=d,heap:=w.heap.setIfInBounds r (.mapIter (some c) k0 (seen.push e.born) k0)}:=
 (Ai5 (P:=P) (ty:=0) hr hM hlt).imp (fun h=>⟨h.1,fun _=>h.2⟩) (fun⟨e,he,d,h⟩=>⟨e,he,d,fun _=>h⟩)
theorem Qp{seen:Array Nat}{e:MapEntry}(hr:w.heap[r]?=some (.mapIter (some c) k0 (seen.push e.born) k0))(hM:w.heap[c]?=some (.map M k0))(he:e∈M.toList)(hn:(M.toList.map (·.born)).Nodup):
  (Instr.entry (.pointer (some ⟨r,0,none⟩))).run P w= .ok (.tuple #[e.key,e.val]) w:=by
 have hfind:M.find? (·.born == e.born)=some e:=by
  rw[← Array.find?_toList];have key:∀l:List MapEntry,e∈l→(l.map (·.born)).Nodup→l.find? (·.born == e.born)=some e:=by
   intro l;induction l with
   |nil=>intro h;cases h
   |cons x l ih=>
    intro h hn;rw[List.map_cons,List.nodup_cons]at hn;rcases List.mem_cons.1 h with rfl|h
    ·simp
    ·have hne:x.born≠e.born:=fun hb=>hn.1 (hb ▸ List.mem_map_of_mem h);rw[List.find?_cons_of_neg (by simpa using hne)]
     exact ih h hn.2
  exact key _ he hn
 unfold Instr.entry;simp only[Sem.run_bind,Nr (P:=P) hr (by simp),Nr (P:=P) hM (by simp),Result.andThen_ok,Array.back?_push]
 simp[hfind]
end
section
variable{P:Program}{ρ:Operand→Value}{o:Oper}{w w':World}{r:Value}
theorem Ane{t:TypeId}{x:Operand}(ho:o.op= .load t x)(h:(Instr.loadAt t (ρ x)).run P w= .ok r w'):(execOp ρ o).run P w= .ok (.value r) w':=by unfold execOp;rw[ho];simp[h]
theorem Aay{t:TypeId}{x:Operand}(ho:o.op= .range t x)(h:(Instr.range t (ρ x)).run P w= .ok r w'):(execOp ρ o).run P w= .ok (.value r) w':=by unfold execOp;rw[ho];simp[h]
theorem Yg{b:Bool}{x:Operand}(ho:o.op= .next x b)(h:∀ty,(Instr.next (ρ x) b ty).run P w= .ok r w'):(execOp ρ o).run P w= .ok (.value r) w':=by unfold execOp;rw[ho];simp[h]
theorem Ag8{x:Operand}(ho:o.op= .entry x)(h:(Instr.entry (ρ x)).run P w= .ok r w'):(execOp ρ o).run P w= .ok (.value r) w':=by unfold execOp;rw[ho];simp[h]
theorem I7{x:Operand}{i:Nat}{A:Array Value}(ho:o.op= .extract x i)(hx:ρ x= .tuple A)(h:A[i]?=some r):(execOp ρ o).run P w= .ok (.value r) w:=by unfold execOp;rw[ho];simp[Instr.extract,hx,h]
theorem A1p{t:TypeId}(ho:o.op= .alloc t)(h:(Instr.alloc t true (.tuple #[])).run P w= .ok r w'):(execOp ρ o).run P w= .ok (.value r) w':=by unfold execOp;rw[ho];simp[h]
theorem A2z{t:TypeId}{x y:Operand}(ho:o.op= .store t x y)(h:(Instr.storeAt t (ρ x) (ρ y)).run P w= .ok () w'):(execOp ρ o).run P w= .ok .skip w':=by unfold execOp;rw[ho];simp[h]
theorem J7{x:Operand}(ho:o.op= .move x∨o.op= .assign x):(execOp ρ o).run P w= .ok (.value (ρ x)) w:=by unfold execOp;rcases ho with ho|ho<;>rw[ho]<;>simp
theorem Ap4{x:Operand}{t:TypeId}{b:Bool}(ho:o.op= .unOp .not t x)(hx:ρ x= .bool b):(execOp ρ o).run P w= .ok (.value (.bool !b)) w:=by unfold execOp;rw[ho];simp[hx,Op.unary]
theorem Aql{x y:Operand}{l:Nat}{ts:Array TypeId}{v:Value}{fn:Nat}{tmps:Array Value}{as1 bd:Code}(ho:o.op= .call {callee:= .value x,args:= #[y],argTypes:=ts})(hx:ρ x= .func (.yield l) #[] #[])(hy:ρ y=v)
  (h:(Instr.yield l #[v]).run P w= .ok (.round l fn tmps as1 bd) w'):(execOp ρ o).run P w= .ok (.round l fn tmps as1 bd) w':=by
 unfold execOp;rw[ho];simp[resolve,hx,hy,Deferred.ofValue,invoke,h]
end
end Go.Vam
namespace Go.Vam
open Go.RowKit
def Agu(t0 tm tk tb ty:TypeId):Code:=((Code.region 0 #[{dst:=some 4,op:=Go.Op.load tm (Operand.tmp 1),type:=tm,pos:= "iter.go:27",after:= #[],guard:=none},{dst:=some 5,op:=Go.Op.range tm (Operand.tmp 4),type:=t0,pos:= "iter.go:27",after:= #[{on:=0,ground:=Ground.data}],guard:=none}] false).seq (Code.block 0 ((Code.region 1 #[{dst:=some 6,op:=Go.Op.next (Operand.tmp 5) false,type:=t0,pos:= "iter.go:27",after:= #[],guard:=none},{dst:=some 7,op:=Go.Op.extract (Operand.tmp 6) 0,type:=tb,pos:= "iter.go:27",after:= #[{on:=0,ground:=Ground.data}],guard:=none}] false).seq ((Code.cond (Operand.tmp 7) Code.skip (Code.exit 0)).seq (Code.block 1 ((Code.region 2 #[{dst:=some 8,op:=Go.Op.entry (Operand.tmp 5),type:=t0,pos:= "iter.go:27",after:= #[],guard:=none},{dst:=some 9,op:=Go.Op.extract (Operand.tmp 8) 0,type:=tk,pos:= "iter.go:27",after:= #[{on:=0,ground:=Ground.data}],guard:=none},{dst:=some 3,op:=Go.Op.alloc tk,type:=t0,pos:= "iter.go:27",after:= #[],guard:=none},{dst:=none,op:=Go.Op.store tk (Operand.tmp 3) (Operand.tmp 9),type:=t0,pos:= "iter.go:27",after:= #[{on:=2,ground:=Ground.data},{on:=1,ground:=Ground.data},{on:=0,ground:=Ground.phase},{on:=1,ground:=Ground.phase},{on:=2,ground:=Ground.phase}],guard:=none}] false).seq ((Code.region 3 #[{dst:=some 10,op:=Go.Op.move (Operand.tmp 0),type:=ty,pos:= "iter.go:28",after:= #[],guard:=none},{dst:=some 11,op:=Go.Op.load tk (Operand.tmp 3),type:=tk,pos:= "iter.go:28",after:= #[],guard:=none},{dst:=some 12,op:=Go.Op.call {callee:=Callee.value (Operand.tmp 10),args:= #[Operand.tmp 11],argTypes:= #[tk]},type:=tb,pos:= "iter.go:28",after:= #[{on:=0,ground:=Ground.data},{on:=1,ground:=Ground.data}],guard:=none},{dst:=some 13,op:=Go.Op.unOp UnOp.not tb (Operand.tmp 12),type:=tb,pos:= "iter.go:28",after:= #[{on:=2,ground:=Ground.data}],guard:=none}] false).seq (Code.cond (Operand.tmp 13) Code.ret Code.skip)))))).loop))
def Ym(t0 tm tk tb ty:TypeId):Code:=((Code.region 0 #[{dst:=some 4,op:=Go.Op.load tm (Operand.tmp 1),type:=tm,pos:= "iter.go:27",after:= #[],guard:=none},{dst:=some 5,op:=Go.Op.range tm (Operand.tmp 4),type:=t0,pos:= "iter.go:27",after:= #[{on:=0,ground:=Ground.data}],guard:=none}] false).seq (Code.block 0 ((Code.region 1 #[{dst:=some 6,op:=Go.Op.next (Operand.tmp 5) false,type:=t0,pos:= "iter.go:27",after:= #[],guard:=none},{dst:=some 7,op:=Go.Op.extract (Operand.tmp 6) 0,type:=tb,pos:= "iter.go:27",after:= #[{on:=0,ground:=Ground.data}],guard:=none}] false).seq ((Code.cond (Operand.tmp 7) Code.skip (Code.exit 0)).seq (Code.block 1 ((Code.region 2 #[{dst:=some 8,op:=Go.Op.entry (Operand.tmp 5),type:=t0,pos:= "iter.go:27",after:= #[],guard:=none},{dst:=some 9,op:=Go.Op.extract (Operand.tmp 8) 0,type:=tk,pos:= "iter.go:27",after:= #[{on:=0,ground:=Ground.data}],guard:=none},{dst:=some 3,op:=Go.Op.assign (Operand.tmp 9),type:=tk,pos:= "iter.go:27",after:= #[{on:=1,ground:=Ground.data},{on:=0,ground:=Ground.phase},{on:=1,ground:=Ground.phase}],guard:=none}] false).seq ((Code.region 3 #[{dst:=some 10,op:=Go.Op.move (Operand.tmp 0),type:=ty,pos:= "iter.go:28",after:= #[],guard:=none},{dst:=some 11,op:=Go.Op.move (Operand.tmp 3),type:=tk,pos:= "iter.go:28",after:= #[],guard:=none},{dst:=some 12,op:=Go.Op.call {callee:=Callee.value (Operand.tmp 10),args:= #[Operand.tmp 11],argTypes:= #[tk]},type:=tb,pos:= "iter.go:28",after:= #[{on:=0,ground:=Ground.data},{on:=1,ground:=Ground.data}],guard:=none},{dst:=some 13,op:=Go.Op.unOp UnOp.not tb (Operand.tmp 12),type:=tb,pos:= "iter.go:28",after:= #[{on:=2,ground:=Ground.data}],guard:=none}] false).seq (Code.cond (Operand.tmp 13) Code.ret Code.skip)))))).loop))
section
variable{n:Nat}{P:Program}{t0 tm tk tb ty te:TypeId}{c k0 l Bm o:Nat}{M:Array MapEntry}{J:List MapEntry→World→Prop}
def Awj(P:Program)(tk:TypeId)(v:Value):Prop:=
 ∃i z A,P.info? tk=some i∧i.zero=some z∧z.cells.size=i.size∧(P.underlying tk).isSome=true∧Jg P tk=true∧v= .agg A∧A.size=i.size∧∀u∈A.toList,u.oneCell=true
theorem Ah3(A B:Array Value)(h:A.size=B.size):putCells A 0 B.toList=B:=by
 apply Array.ext_getElem?;intro j;have key:∀(l:List Value) (i:Nat) (A:Array Value),i+l.length≤A.size→∀j,((l.zipIdx i).foldl (fun(cs:Array Value) (p:Value × Nat)=>cs.setIfInBounds (0+p.2) p.1) A)[j]?=if i≤j∧j<i+l.length then l[j - i]? else A[j]?:=by
  intro l;induction l with
  |nil=>intro i A _ j;simp;omega
  |cons x l ih=>
   intro i A hi j;rw[List.zipIdx_cons,List.foldl_cons,ih (i+1) _ (by simp;simp at hi;omega)]
   simp only[List.length_cons]at hi ⊢;rw[Array.getElem?_setIfInBounds];by_cases h1:i+1≤j∧j<i+1+l.length
   ·rw[if_pos h1,if_pos (by omega),show j - i=(j - (i+1))+1 from by omega,List.getElem?_cons_succ]
   ·rw[if_neg h1];by_cases h2:i=j
    ·subst h2;rw[if_pos (by omega),if_pos (by omega),if_pos (by omega)]
     simp
    ·rw[if_neg (by omega),if_neg (by omega)]
 unfold putCells;rw[key B.toList 0 A (by simp;omega) j]
 by_cases hj:j<B.size
 ·rw[if_pos (by simp;omega)]
  simp
 ·rw[if_neg (by simp;omega),Array.getElem?_eq_none (by omega),Array.getElem?_eq_none (by omega)]
theorem A0x{v:Value}(h:Awj P tk v)(w:World):
  ∃w1 w2,(Instr.alloc tk true (.tuple #[])).run P w= .ok (.pointer (some ⟨w.heap.size,0,none⟩)) w1∧(Instr.storeAt tk (.pointer (some ⟨w.heap.size,0,none⟩)) v).run P w1= .ok () w2∧(Instr.loadAt tk (.pointer (some ⟨w.heap.size,0,none⟩))).run P w2= .ok v w2∧w2.os=w.os∧w2.tape=w.tape∧w2.output=w.output∧w.heap.size≤w2.heap.size∧∀k,k<w.heap.size→w2.heap[k]?=w.heap[k]?:=by
 obtain⟨i,z,A,hi,hz,hzs,hu,hagg,rfl,hA,hone⟩:=h;have hsz:Bw P tk=some i.size:=by simp[Bw,hi]
 refine⟨w.alloc (.cells z.cells tk),{w with heap:=(w.alloc (.cells z.cells tk)).heap.setIfInBounds w.heap.size (.cells A tk)},?_,?_,?_,rfl,rfl,rfl,?_,?_⟩
 ·simp only[Instr.alloc,Sem.run_bind,Dz hi hz,Result.andThen_ok];rfl
 ·have hnew:(w.alloc (.cells z.cells tk)).heap[w.heap.size]?=some (.cells z.cells tk (0,0)):=World.alloc_heap_new w _;simp only[Instr.storeAt,Instr.sureAddr,storeVar,Sem.run_bind,Sem.run_pure,Result.andThen_ok,run_sizeOf hsz,Sem.run_ite];have hc:(Value.agg A).cells=A:=rfl;rw[hc,if_neg (by omega)]
  have:=Ha (P:=P) (c:=w.heap.size) (T:=tk) (fr:=(0,0)) A.toList 0 0 z.cells (w.alloc (.cells z.cells tk)) hnew (by intro p _ _;simp) (by simp;omega) hone
  rw[this];have e:((A.toList.zipIdx 0).foldl (fun(cs:Array Value) (p:Value × Nat)=>cs.setIfInBounds (0+p.2) p.1) z.cells)=A:=Ah3 z.cells A (by omega)
  rw[e];rfl
 ·have hh:({w with heap:=(w.alloc (.cells z.cells tk)).heap.setIfInBounds w.heap.size (.cells A tk)}:World).heap[w.heap.size]?=some (.cells A tk (0,0)):=by
   show((w.heap.push _).setIfInBounds w.heap.size _)[w.heap.size]?=_;rw[Array.getElem?_setIfInBounds,if_pos rfl,if_pos (by simp)]
  simp only[Instr.loadAt,Instr.sureAddr,loadVar,Sem.run_bind,Sem.run_pure,Result.andThen_ok,Jw hu,hagg,if_true,run_sizeOf hsz];generalize({w with heap:=(w.alloc (.cells z.cells tk)).heap.setIfInBounds w.heap.size (.cells A tk)}:World)=w2 at hh ⊢;have hl:=run_loadCells_list (P:=P) (w:=w2) ⟨w.heap.size,0,none⟩ A.toList (fun j v hj=>by rw[Ga,Nat.zero_add];simp[World.cell?,hh];simpa using hj)
  rw[Array.length_toList,hA]at hl;rw[hl];rfl
 ·show w.heap.size≤((w.heap.push _).setIfInBounds w.heap.size _).size;simp
 ·intro k hk;show((w.heap.push _).setIfInBounds w.heap.size _)[k]?=_;rw[Array.getElem?_setIfInBounds,if_neg (by omega),Array.getElem?_push]
  rw[if_neg (by omega)]
theorem Gh{α β:Type}{f:α→β}:∀{l:List α},(l.map f).Nodup→l.Nodup
 | [],_=>List.nodup_nil
 |x::l,hn=>by rw[List.map_cons,List.nodup_cons]at hn;exact List.nodup_cons.2 ⟨fun h=>hn.1 (List.mem_map_of_mem (f:=f) h),Gh hn.2⟩
theorem Kl{α β:Type}{f:α→β}:∀{l:List α},(l.map f).Nodup→∀{a b:α},a∈l→b∈l→f a=f b→a=b
 | [],_,a,b,h,_,_=>by cases h
 |x::l,hn,a,b,ha,hb,e=>by
  rw[List.map_cons,List.nodup_cons]at hn;rcases List.mem_cons.1 ha with rfl|ha<;>rcases List.mem_cons.1 hb with rfl|hb
  ·rfl
  ·exact(hn.1 (by rw[e];exact List.mem_map_of_mem (f:=f) hb)).elim
  ·exact(hn.1 (by rw[← e];exact List.mem_map_of_mem (f:=f) (by assumption))).elim
  ·exact Kl hn.2 ha hb e
theorem Lm{α:Type}:∀{l m:List α},l.Nodup→(∀x∈l,x∈m)→l.length≤m.length
 | [],m,_,_=>by simp
 |x::l,m,hn,hs=>by
  classical
  rw[List.nodup_cons]at hn;have hx:=hs x (by simp)
  have:=Lm (l:=l) (m:=m.erase x) hn.2 (fun y hy=>(List.mem_erase_of_ne (fun h=>hn.1 (by rw[← h];exact hy))).2 (hs y (by simp[hy])))
  have hl:=List.length_erase_of_mem hx;have:0<m.length:=List.length_pos_of_mem hx;simp;omega
def Zg(M:Array MapEntry)(r:Nat)(w:World):Nat:=match w.heap[r]? with
 |some (.mapIter _ _ seen _)=>(leftOf M seen).size
 |_=>0
theorem Yx{M:Array MapEntry}{seen:Array Nat}{e:MapEntry}(he:e∈(leftOf M seen).toList):(leftOf M (seen.push e.born)).size<(leftOf M seen).size:=by
 have h1:(leftOf M (seen.push e.born))=(leftOf M seen).filter fun x=>x.born !=e.born:=by unfold leftOf;rw[Array.filter_filter];congr 1;funext x;simp[Bool.and_comm];by_cases h:x.born=e.born<;>simp[h,bne]
 rw[h1];apply Array.size_filter_lt_size_iff_exists.2;exact⟨e,by simpa using he,by simp⟩
theorem Vd{α:Type}{J:α→World→Prop}{B:Nat}{s:α}{W W':World}(hJ:AbidesFrom B J)(h:J s W)(hos:W'.os=W.os)(ht:W'.tape=W.tape)(ho:W'.output=W.output)(hsz:W.heap.size≤W'.heap.size)(hb:∀k,k<W.heap.size→W'.heap[k]?=W.heap[k]?):J s W':=
 hJ s W W' none h ⟨hos,ht,ho,hsz,fun k hk _=>hb k hk⟩ (fun r e=>by cases e)
set_option maxHeartbeats 1000000 in
theorem Aj0{α:Type}{enc:α→Value}{dec:MapEntry→α}(hdec:∀m∈M.toList,enc (dec m)=m.key){f:FuncId}{fn:Func}(hf:P.funcs[f]?=some fn)(hb:fn.body=some (Agu t0 tm tk tb ty))(hn:fn.ntmps=14)(hres:fn.results= #[])(hu:P.underlying tm=some (.map tk te))
  {w:World}(hm:w.cell? ⟨Bm,o,none⟩=some (.map (some c)))(hM:w.heap[c]?=some (.map M k0))(hnd:(M.toList.map (·.born)).Nodup)(hlt:∀m∈M.toList,m.born<k0)(hv:∀m∈M.toList,Awj P tk m.key):
  SeqStops Fence.wide n P f #[.pointer (some ⟨Bm,o,none⟩)] enc (fun xs=>∃ms:List MapEntry,ms.Perm M.toList∧xs=ms.map dec) (fun _=>True) M.size w:=by
 intro l J Jx W hW hJ hJx hY h0;have hBm:Bm<w.heap.size:=by
  unfold World.cell? at hm;cases hh:w.heap[Bm]? with
  |none=>simp[hh]at hm
  |some _=>exact(Array.getElem?_eq_some_iff.1 hh).1
 have hcl:c<w.heap.size:=(Array.getElem?_eq_some_iff.1 hM).1;have hmW:W.cell? ⟨Bm,o,none⟩=some (.map (some c)):=by rw[← hm];exact World.cell?_of_block (hW.block Bm hBm)
 have hMW:W.heap[c]?=some (.map M k0):=(hW.block c hcl).trans hM;refine callsIn_of_wp hf hb trivial ?_;rw[hn];generalize ha0:(#[Value.func (.yield l) #[] #[]]++ #[Value.pointer (some ⟨Bm,o,none⟩)]++Array.replicate (14 - (#[Value.func (.yield l) #[] #[]]++ #[Value.pointer (some ⟨Bm,o,none⟩)]).size) undef:Array Value)=T;have hT:T.size=14:=by rw[← ha0];rfl
 have hT0:({tmps:=T,defers:= []}:Act).eval (.tmp 0)= .func (.yield l) #[] #[]:=by rw[← ha0];rfl
 have hT1:({tmps:=T,defers:= []}:Act).eval (.tmp 1)= .pointer (some ⟨Bm,o,none⟩):=by rw[← ha0];rfl
 clear ha0;refine wpIn_seq (wpIn_region ?_);show wpOpsIn _ _ _ _ _ [0,1] _ _;refine A7 (some 4) rfl rfl rfl (r:= .map (some c)) (w':=W) ?_ (A7 (some 5) rfl rfl rfl (r:= .pointer (some ⟨W.heap.size,0,none⟩)) (w':=W.alloc (.mapIter (some c) k0 #[] k0)) ?_ ?_)
 ·refine Ane rfl ?_;rw[hT1];have hag:Jg P tm=false:=by simp[Jg,hu]
  have:(loadVar tm ⟨Bm,o,none⟩).run P W= .ok (.map (some c)) W:=by simp[loadVar,Jw (P:=P) (t:=tm) (w:=W) (by simp[hu]),hag,hmW]
  simp[Instr.loadAt,Instr.sureAddr,this]
 ·refine Aay rfl ?_;rw[eval_put,if_pos ⟨rfl,by rw[hT];omega⟩]
  exact Me hu hMW
 show Code.wpIn _ _ _ _ _ _ _;refine wpIn_block ?_;generalize hr:W.heap.size=r;let I:Act→World→Prop:=fun a wr=>a.tmps.size=14∧a.eval (.tmp 0)= .func (.yield l) #[] #[]∧a.eval (.tmp 5)= .pointer (some ⟨r,0,none⟩)∧a.defers= []∧∃pre:List MapEntry,wr.heap[r]?=some (.mapIter (some c) k0 (pre.map (·.born)).toArray k0)∧wr.heap[c]?=some (.map M k0)∧(∀m∈pre,m∈M.toList)∧(pre.map (·.born)).Nodup∧J (pre.map dec) wr;refine wpIn_loop I (fun _ w=>Zg M r w) ?_ ?_
 ·refine⟨by simp[Ar,hT],?_,?_,rfl,[],?_,?_,by simp,by simp,?_⟩
  ·rw[eval_put,if_neg (by simp),eval_put,if_neg (by simp)];exact hT0
  ·rw[eval_put,if_pos ⟨rfl,by rw[Ar,hT];omega⟩]
  ·rw[← hr];exact World.alloc_heap_new W _
  ·rw[← hMW];exact Below.heap_alloc W _ _ (by have:=hW.size;omega)
  ·exact Vd hJ h0 rfl rfl rfl (by show _≤(W.heap.push _).size;simp) (fun k hk=>Below.heap_alloc W _ _ hk)
 rintro a wr ⟨ha,he0,he5,hd,pre,hit,hmp,hsub,hpn,hj⟩;refine wpIn_seq (wpIn_region ?_);show wpOpsIn _ _ _ _ _ [0,1] _ _;have hrc:r≠c:=by have:=hW.size;omega
 rcases Q4 (P:=P) hit hmp hlt with⟨hle,hnx⟩|⟨e,hel,d,hnx⟩
 ·
  refine A7 (some 6) rfl rfl rfl (r:= .tuple #[.bool false]) (w':=wr) ?_ (A7 (some 7) rfl rfl rfl (r:= .bool false) (w':=wr) ?_ ?_)
  ·exact Yg rfl (fun ty=>by rw[he5];exact hnx ty)
  ·exact I7 rfl (by rw[eval_put,if_pos ⟨rfl,by rw[ha];omega⟩]) rfl
  show Code.wpIn _ _ _ _ _ _ _;refine wpIn_seq (wpIn_cond_false ?_ (wpIn_exit ?_))
  ·rw[eval_put,if_pos ⟨rfl,by rw[Ar,ha];omega⟩]
  simp only[Exit.then,Exit.inBlock,if_true];refine⟨hd,.tuple #[],?_,⟨_,rfl⟩,.inl ⟨pre.map dec,⟨pre,?_,rfl⟩,hj⟩⟩
  ·unfold results;rw[hres];simp
  ·have h1:(M.toList).Nodup:=Gh hnd;have h2:pre.Nodup:=Gh hpn;rw[List.perm_ext_iff_of_nodup h2 h1];intro m;refine⟨hsub m,fun hm=>?_⟩;have hnl:m ∉ leftOf M (pre.map (·.born)).toArray:=by rw[hle];simp
   unfold leftOf at hnl;rw[Array.mem_filter]at hnl;have hcon:m.born∈pre.map (·.born):=by
    by_cases hc:m.born∈pre.map (·.born)
    ·exact hc
    ·exact(hnl ⟨by simpa using hm,by simpa using hc⟩).elim
   obtain⟨m',hm',hbe⟩:=List.mem_map.1 hcon;have:m'=m:=by have hinj:=hnd;exact Kl hnd (hsub m' hm') hm hbe
   rw[← this];exact hm'
 ·
  have heM:e∈M.toList:=by
   have:e∈leftOf M (pre.map (·.born)).toArray:=by simpa using hel
   unfold leftOf at this;simpa using(Array.mem_filter.1 this).1
  have hfresh:e.born ∉ pre.map (·.born):=by
   have:e∈leftOf M (pre.map (·.born)).toArray:=by simpa using hel
   unfold leftOf at this;simpa using(Array.mem_filter.1 this).2
  generalize hw2:({wr with drawn:=d,heap:=wr.heap.setIfInBounds r (.mapIter (some c) k0 ((pre.map (·.born)).toArray.push e.born) k0)}:World)=w2 at hnx;have hrl:r<wr.heap.size:=(Array.getElem?_eq_some_iff.1 hit).1;have hit2:w2.heap[r]?=some (.mapIter (some c) k0 ((pre.map (·.born)).toArray.push e.born) k0):=by rw[← hw2];simp[hrl]
  have hmp2:w2.heap[c]?=some (.map M k0):=by rw[← hw2];simp only[Array.getElem?_setIfInBounds,if_neg hrc];exact hmp
  have hj2:J (pre.map dec) w2:=by
   refine hJ (pre.map dec) wr w2 (some r) hj ⟨by rw[← hw2],by rw[← hw2],by rw[← hw2],by rw[← hw2];simp,fun k hk hne=>?_⟩ (fun q e=>by cases e;exact⟨by omega,_,hit,rfl⟩)
   rw[← hw2];simp only[Array.getElem?_setIfInBounds];rw[if_neg (fun h=>hne (by rw[h]))]
  refine A7 (some 6) rfl rfl rfl (r:= .tuple #[.bool true,e.key,e.val]) (w':=w2) ?_ (A7 (some 7) rfl rfl rfl (r:= .bool true) (w':=w2) ?_ ?_)
  ·exact Yg rfl (fun ty=>by rw[he5];exact hnx ty)
  ·exact I7 rfl (by rw[eval_put,if_pos ⟨rfl,by rw[ha];omega⟩]) rfl
  show Code.wpIn _ _ _ _ _ _ _;refine wpIn_seq (wpIn_cond_true ?_ (wpIn_skip ?_))
  ·rw[eval_put,if_pos ⟨rfl,by rw[Ar,ha];omega⟩]
  show Code.wpIn _ _ _ _ _ _ _;refine wpIn_block (wpIn_seq (wpIn_region ?_));show wpOpsIn _ _ _ _ _ [0,1,2,3] _ _;generalize ha1:(Act.put (Act.put a (some 6) (.tuple #[.bool true,e.key,e.val])) (some 7) (.bool true))=a1;have s1:a1.tmps.size=14:=by rw[← ha1,Ar,Ar,ha]
  have f0:a1.eval (.tmp 0)= .func (.yield l) #[] #[]:=by rw[← ha1,eval_put,if_neg (by simp),eval_put,if_neg (by simp)];exact he0
  have f5:a1.eval (.tmp 5)= .pointer (some ⟨r,0,none⟩):=by rw[← ha1,eval_put,if_neg (by simp),eval_put,if_neg (by simp)];exact he5
  have hd1:a1.defers= []:=by rw[← ha1];exact hd
  clear ha1;obtain⟨w3,w4,hal,hst,hld,hos,htp,hou,hsz,hbl⟩:=A0x (hv e heM) w2;refine A7 (some 8) rfl rfl rfl (r:= .tuple #[e.key,e.val]) (w':=w2) ?_ (A7 (some 9) rfl rfl rfl (r:=e.key) (w':=w2) ?_ (A7 (some 3) rfl rfl rfl (r:= .pointer (some ⟨w2.heap.size,0,none⟩)) (w':=w3) ?_ (Aqu none rfl rfl rfl (w':=w4) ?_ ?_)))
  ·exact Ag8 rfl (by rw[f5];exact Qp hit2 hmp2 heM hnd)
  ·exact I7 rfl (by rw[eval_put,if_pos ⟨rfl,by rw[s1];omega⟩]) rfl
  ·exact A1p rfl hal
  ·refine A2z rfl ?_;rw[eval_put,if_pos ⟨rfl,by rw[Ar,Ar,s1];omega⟩,eval_put,if_neg (by simp),eval_put,if_pos ⟨rfl,by rw[Ar,s1];omega⟩]
   exact hst
  show Code.wpIn _ _ _ _ _ _ _;refine wpIn_seq (wpIn_region ?_);show wpOpsIn _ _ _ _ _ [0,1,2,3] _ _;generalize ha2:(Act.put (Act.put (Act.put (Act.put a1 (some 8) (.tuple #[e.key,e.val])) (some 9) e.key) (some 3) (.pointer (some ⟨w2.heap.size,0,none⟩))) none undef)=a2;have s2:a2.tmps.size=14:=by rw[← ha2,Ar,Ar,Ar,Ar,s1]
  have g0:a2.eval (.tmp 0)= .func (.yield l) #[] #[]:=by rw[← ha2];show(Act.put _ (some 3) _).eval _=_;rw[eval_put,if_neg (by simp),eval_put,if_neg (by simp),eval_put,if_neg (by simp)];exact f0
  have g5:a2.eval (.tmp 5)= .pointer (some ⟨r,0,none⟩):=by rw[← ha2];show(Act.put _ (some 3) _).eval _=_;rw[eval_put,if_neg (by simp),eval_put,if_neg (by simp),eval_put,if_neg (by simp)];exact f5
  have g3:a2.eval (.tmp 3)= .pointer (some ⟨w2.heap.size,0,none⟩):=by rw[← ha2];show(Act.put _ (some 3) _).eval _=_;rw[eval_put,if_pos ⟨rfl,by rw[Ar,Ar,s1];omega⟩]
  have hd2:a2.defers= []:=by rw[← ha2];exact hd1
  clear ha2;have hj4:J (pre.map dec) w4:=Vd hJ hj2 hos htp hou hsz hbl;have hit4:w4.heap[r]?=some (.mapIter (some c) k0 ((pre.map (·.born)).toArray.push e.born) k0):=(hbl r (by rw[← hw2];simpa using hrl)).trans hit2
  have hmp4:w4.heap[c]?=some (.map M k0):=(hbl c (Array.getElem?_eq_some_iff.1 hmp2).1).trans hmp2;have hplen:pre.length<M.size:=by
   have h2:(e::pre).Nodup:=Gh (f:=(·.born)) (by simp only[List.map_cons,List.nodup_cons];exact⟨hfresh,hpn⟩)
   have:=Lm h2 (fun x hx=>by rcases List.mem_cons.1 hx with rfl|hx;exact heM;exact hsub x hx)
   simp at this;omega
  have hYe:=hY (pre.map dec) (dec e) w4 hj4 (by simpa using hplen)
  rw[hdec e heM]at hYe;obtain⟨fn',tmps,assign,body,hy,hR⟩:=hYe;refine A7 (some 10) rfl rfl rfl (r:= .func (.yield l) #[] #[]) (w':=w4) ?_ (A7 (some 11) rfl rfl rfl (r:=e.key) (w':=w4) ?_ (Acb (some 12) (R:=fun e' W'=>(e'= .returned (.bool true)∧J (pre.map dec++ [dec e]) W'∧KeepsWalks w4 W')∨(e'= .returned (.bool false)∧Jx (pre.map dec++ [dec e]) W')) rfl rfl rfl (w':=w4) ?_ hR ?_ ?_ ?_))
  ·rw[← g0];exact J7 (.inl rfl)
  ·refine Ane rfl ?_;rw[eval_put,if_neg (by simp),g3]
   exact hld
  ·exact Aql rfl (by rw[eval_put,if_neg (by simp),eval_put,if_pos ⟨rfl,by rw[s2];omega⟩]) (by rw[eval_put,if_pos ⟨rfl,by rw[Ar,s2];omega⟩]) hy
  ·rintro v w5 (⟨hv5,hj5,hk5⟩|⟨hv5,hx5⟩)
   ·cases hv5;refine A7 (some 13) rfl rfl rfl (r:= .bool false) (w':=w5) ?_ ?_
    ·exact Ap4 (b:=true) rfl (by rw[eval_put,if_pos ⟨rfl,by rw[Ar,Ar,s2];omega⟩])
    show Code.wpIn _ _ _ _ _ _ _;refine wpIn_cond_false (by rw[eval_put,if_pos ⟨rfl,by rw[Ar,Ar,Ar,s2];omega⟩]) (wpIn_skip ?_)
    show _∧_;have hit5:=hk5.same r _ hit4 rfl;have hmp5:=hk5.same c _ hmp4 rfl;refine⟨⟨by simp[Ar,s2],?_,?_,hd2,pre++ [e],?_,hmp5,?_,?_,by rw[List.map_append];exact hj5⟩,?_⟩
    ·rw[eval_put,if_neg (by simp),eval_put,if_neg (by simp),eval_put,if_neg (by simp),eval_put,if_neg (by simp)];exact g0
    ·rw[eval_put,if_neg (by simp),eval_put,if_neg (by simp),eval_put,if_neg (by simp),eval_put,if_neg (by simp)];exact g5
    ·rw[hit5];simp
    ·intro m hm';rcases List.mem_append.1 hm' with h|h
     ·exact hsub m h
     ·simp at h;subst h;exact heM
    ·rw[List.map_append,List.nodup_append];refine⟨hpn,by simp,?_⟩
     intro x hx y hy;simp at hy;subst hy;exact fun h=>hfresh (h ▸ hx)
    ·unfold Zg;rw[hit5,hit];exact Yx hel
   ·cases hv5;refine A7 (some 13) rfl rfl rfl (r:= .bool true) (w':=w5) ?_ ?_
    ·exact Ap4 (b:=false) rfl (by rw[eval_put,if_pos ⟨rfl,by rw[Ar,Ar,s2];omega⟩])
    show Code.wpIn _ _ _ _ _ _ _;refine wpIn_cond_true (by rw[eval_put,if_pos ⟨rfl,by rw[Ar,Ar,Ar,s2];omega⟩]) (wpIn_ret ?_)
    refine⟨hd2,.tuple #[],?_,⟨_,rfl⟩,.inr ⟨_,trivial,hx5⟩⟩;unfold results;rw[hres];simp
  ·rintro ch w5 (⟨h,_⟩|⟨h,_⟩)<;>cases h
  ·rintro w5 (⟨h,_⟩|⟨h,_⟩)<;>cases h
end
section
variable{n:Nat}{P:Program}{t0 tm tk tb ty te:TypeId}{c k0 l Bm o:Nat}{M:Array MapEntry}{J:List MapEntry→World→Prop}
set_option maxHeartbeats 1000000 in
theorem Z5{α:Type}{enc:α→Value}{dec:MapEntry→α}(hdec:∀m∈M.toList,enc (dec m)=m.key){f:FuncId}{fn:Func}(hf:P.funcs[f]?=some fn)(hb:fn.body=some (Ym t0 tm tk tb ty))(hn:fn.ntmps=14)(hres:fn.results= #[])(hu:P.underlying tm=some (.map tk te))
  {w:World}(hm:w.cell? ⟨Bm,o,none⟩=some (.map (some c)))(hM:w.heap[c]?=some (.map M k0))(hnd:(M.toList.map (·.born)).Nodup)(hlt:∀m∈M.toList,m.born<k0):
  SeqStops Fence.wide n P f #[.pointer (some ⟨Bm,o,none⟩)] enc (fun xs=>∃ms:List MapEntry,ms.Perm M.toList∧xs=ms.map dec) (fun _=>True) M.size w:=by
 intro l J Jx W hW hJ hJx hY h0;have hBm:Bm<w.heap.size:=by
  unfold World.cell? at hm;cases hh:w.heap[Bm]? with
  |none=>simp[hh]at hm
  |some _=>exact(Array.getElem?_eq_some_iff.1 hh).1
 have hcl:c<w.heap.size:=(Array.getElem?_eq_some_iff.1 hM).1;have hmW:W.cell? ⟨Bm,o,none⟩=some (.map (some c)):=by rw[← hm];exact World.cell?_of_block (hW.block Bm hBm)
 have hMW:W.heap[c]?=some (.map M k0):=(hW.block c hcl).trans hM;refine callsIn_of_wp hf hb trivial ?_;rw[hn];generalize ha0:(#[Value.func (.yield l) #[] #[]]++ #[Value.pointer (some ⟨Bm,o,none⟩)]++Array.replicate (14 - (#[Value.func (.yield l) #[] #[]]++ #[Value.pointer (some ⟨Bm,o,none⟩)]).size) undef:Array Value)=T;have hT:T.size=14:=by rw[← ha0];rfl
 have hT0:({tmps:=T,defers:= []}:Act).eval (.tmp 0)= .func (.yield l) #[] #[]:=by rw[← ha0];rfl
 have hT1:({tmps:=T,defers:= []}:Act).eval (.tmp 1)= .pointer (some ⟨Bm,o,none⟩):=by rw[← ha0];rfl
 clear ha0;refine wpIn_seq (wpIn_region ?_);show wpOpsIn _ _ _ _ _ [0,1] _ _;refine A7 (some 4) rfl rfl rfl (r:= .map (some c)) (w':=W) ?_ (A7 (some 5) rfl rfl rfl (r:= .pointer (some ⟨W.heap.size,0,none⟩)) (w':=W.alloc (.mapIter (some c) k0 #[] k0)) ?_ ?_)
 ·refine Ane rfl ?_;rw[hT1];have hag:Jg P tm=false:=by simp[Jg,hu]
  have:(loadVar tm ⟨Bm,o,none⟩).run P W= .ok (.map (some c)) W:=by simp[loadVar,Jw (P:=P) (t:=tm) (w:=W) (by simp[hu]),hag,hmW]
  simp[Instr.loadAt,Instr.sureAddr,this]
 ·refine Aay rfl ?_;rw[eval_put,if_pos ⟨rfl,by rw[hT];omega⟩]
  exact Me hu hMW
 show Code.wpIn _ _ _ _ _ _ _;refine wpIn_block ?_;generalize hr:W.heap.size=r;let I:Act→World→Prop:=fun a wr=>a.tmps.size=14∧a.eval (.tmp 0)= .func (.yield l) #[] #[]∧a.eval (.tmp 5)= .pointer (some ⟨r,0,none⟩)∧a.defers= []∧∃pre:List MapEntry,wr.heap[r]?=some (.mapIter (some c) k0 (pre.map (·.born)).toArray k0)∧wr.heap[c]?=some (.map M k0)∧(∀m∈pre,m∈M.toList)∧(pre.map (·.born)).Nodup∧J (pre.map dec) wr;refine wpIn_loop I (fun _ w=>Zg M r w) ?_ ?_
 ·refine⟨by simp[Ar,hT],?_,?_,rfl,[],?_,?_,by simp,by simp,?_⟩
  ·rw[eval_put,if_neg (by simp),eval_put,if_neg (by simp)];exact hT0
  ·rw[eval_put,if_pos ⟨rfl,by rw[Ar,hT];omega⟩]
  ·rw[← hr];exact World.alloc_heap_new W _
  ·rw[← hMW];exact Below.heap_alloc W _ _ (by have:=hW.size;omega)
  ·exact Vd hJ h0 rfl rfl rfl (by show _≤(W.heap.push _).size;simp) (fun k hk=>Below.heap_alloc W _ _ hk)
 rintro a wr ⟨ha,he0,he5,hd,pre,hit,hmp,hsub,hpn,hj⟩;refine wpIn_seq (wpIn_region ?_);show wpOpsIn _ _ _ _ _ [0,1] _ _;have hrc:r≠c:=by have:=hW.size;omega
 rcases Q4 (P:=P) hit hmp hlt with⟨hle,hnx⟩|⟨e,hel,d,hnx⟩
 ·
  refine A7 (some 6) rfl rfl rfl (r:= .tuple #[.bool false]) (w':=wr) ?_ (A7 (some 7) rfl rfl rfl (r:= .bool false) (w':=wr) ?_ ?_)
  ·exact Yg rfl (fun ty=>by rw[he5];exact hnx ty)
  ·exact I7 rfl (by rw[eval_put,if_pos ⟨rfl,by rw[ha];omega⟩]) rfl
  show Code.wpIn _ _ _ _ _ _ _;refine wpIn_seq (wpIn_cond_false ?_ (wpIn_exit ?_))
  ·rw[eval_put,if_pos ⟨rfl,by rw[Ar,ha];omega⟩]
  simp only[Exit.then,Exit.inBlock,if_true];refine⟨hd,.tuple #[],?_,⟨_,rfl⟩,.inl ⟨pre.map dec,⟨pre,?_,rfl⟩,hj⟩⟩
  ·unfold results;rw[hres];simp
  ·have h1:(M.toList).Nodup:=Gh hnd;have h2:pre.Nodup:=Gh hpn;rw[List.perm_ext_iff_of_nodup h2 h1];intro m;refine⟨hsub m,fun hm=>?_⟩;have hnl:m ∉ leftOf M (pre.map (·.born)).toArray:=by rw[hle];simp
   unfold leftOf at hnl;rw[Array.mem_filter]at hnl;have hcon:m.born∈pre.map (·.born):=by
    by_cases hc:m.born∈pre.map (·.born)
    ·exact hc
    ·exact(hnl ⟨by simpa using hm,by simpa using hc⟩).elim
   obtain⟨m',hm',hbe⟩:=List.mem_map.1 hcon;have:m'=m:=by have hinj:=hnd;exact Kl hnd (hsub m' hm') hm hbe
   rw[← this];exact hm'
 ·
  have heM:e∈M.toList:=by
   have:e∈leftOf M (pre.map (·.born)).toArray:=by simpa using hel
   unfold leftOf at this;simpa using(Array.mem_filter.1 this).1
  have hfresh:e.born ∉ pre.map (·.born):=by
   have:e∈leftOf M (pre.map (·.born)).toArray:=by simpa using hel
   unfold leftOf at this;simpa using(Array.mem_filter.1 this).2
  generalize hw2:({wr with drawn:=d,heap:=wr.heap.setIfInBounds r (.mapIter (some c) k0 ((pre.map (·.born)).toArray.push e.born) k0)}:World)=w2 at hnx;have hrl:r<wr.heap.size:=(Array.getElem?_eq_some_iff.1 hit).1;have hit2:w2.heap[r]?=some (.mapIter (some c) k0 ((pre.map (·.born)).toArray.push e.born) k0):=by rw[← hw2];simp[hrl]
  have hmp2:w2.heap[c]?=some (.map M k0):=by rw[← hw2];simp only[Array.getElem?_setIfInBounds,if_neg hrc];exact hmp
  have hj2:J (pre.map dec) w2:=by
   refine hJ (pre.map dec) wr w2 (some r) hj ⟨by rw[← hw2],by rw[← hw2],by rw[← hw2],by rw[← hw2];simp,fun k hk hne=>?_⟩ (fun q e=>by cases e;exact⟨by omega,_,hit,rfl⟩)
   rw[← hw2];simp only[Array.getElem?_setIfInBounds];rw[if_neg (fun h=>hne (by rw[h]))]
  refine A7 (some 6) rfl rfl rfl (r:= .tuple #[.bool true,e.key,e.val]) (w':=w2) ?_ (A7 (some 7) rfl rfl rfl (r:= .bool true) (w':=w2) ?_ ?_)
  ·exact Yg rfl (fun ty=>by rw[he5];exact hnx ty)
  ·exact I7 rfl (by rw[eval_put,if_pos ⟨rfl,by rw[ha];omega⟩]) rfl
  show Code.wpIn _ _ _ _ _ _ _;refine wpIn_seq (wpIn_cond_true ?_ (wpIn_skip ?_))
  ·rw[eval_put,if_pos ⟨rfl,by rw[Ar,ha];omega⟩]
  show Code.wpIn _ _ _ _ _ _ _;refine wpIn_block (wpIn_seq (wpIn_region ?_));show wpOpsIn _ _ _ _ _ [0,1,2] _ _;generalize ha1:(Act.put (Act.put a (some 6) (.tuple #[.bool true,e.key,e.val])) (some 7) (.bool true))=a1;have s1:a1.tmps.size=14:=by rw[← ha1,Ar,Ar,ha]
  have f0:a1.eval (.tmp 0)= .func (.yield l) #[] #[]:=by rw[← ha1,eval_put,if_neg (by simp),eval_put,if_neg (by simp)];exact he0
  have f5:a1.eval (.tmp 5)= .pointer (some ⟨r,0,none⟩):=by rw[← ha1,eval_put,if_neg (by simp),eval_put,if_neg (by simp)];exact he5
  have hd1:a1.defers= []:=by rw[← ha1];exact hd
  clear ha1;refine A7 (some 8) rfl rfl rfl (r:= .tuple #[e.key,e.val]) (w':=w2) ?_ (A7 (some 9) rfl rfl rfl (r:=e.key) (w':=w2) ?_ (A7 (some 3) rfl rfl rfl (r:=e.key) (w':=w2) ?_ ?_))
  ·exact Ag8 rfl (by rw[f5];exact Qp hit2 hmp2 heM hnd)
  ·exact I7 rfl (by rw[eval_put,if_pos ⟨rfl,by rw[s1];omega⟩]) rfl
  ·have h9:((a1.put (some 8) (.tuple #[e.key,e.val])).put (some 9) e.key).eval (.tmp 9)=e.key:=by rw[eval_put,if_pos ⟨rfl,by rw[Ar,s1];omega⟩]
   have:=J7 (P:=P) (ρ:=((a1.put (some 8) (.tuple #[e.key,e.val])).put (some 9) e.key).eval) (w:=w2) (o:= #[({dst:=some 8,op:=Go.Op.entry (Operand.tmp 5),type:=t0,pos:= "iter.go:27",after:= #[],guard:=none}:Oper),{dst:=some 9,op:=Go.Op.extract (Operand.tmp 8) 0,type:=tk,pos:= "iter.go:27",after:= #[{on:=0,ground:=Ground.data}],guard:=none},{dst:=some 3,op:=Go.Op.assign (Operand.tmp 9),type:=tk,pos:= "iter.go:27",after:= #[{on:=1,ground:=Ground.data},{on:=0,ground:=Ground.phase},{on:=1,ground:=Ground.phase}],guard:=none}][2]) (x:= .tmp 9) (.inr rfl);rw[h9]at this;exact this
  show Code.wpIn _ _ _ _ _ _ _;refine wpIn_seq (wpIn_region ?_);show wpOpsIn _ _ _ _ _ [0,1,2,3] _ _;generalize ha2:(Act.put (Act.put (Act.put a1 (some 8) (.tuple #[e.key,e.val])) (some 9) e.key) (some 3) e.key)=a2;have s2:a2.tmps.size=14:=by rw[← ha2,Ar,Ar,Ar,s1]
  have g0:a2.eval (.tmp 0)= .func (.yield l) #[] #[]:=by rw[← ha2];show(Act.put _ (some 3) _).eval _=_;rw[eval_put,if_neg (by simp),eval_put,if_neg (by simp),eval_put,if_neg (by simp)];exact f0
  have g5:a2.eval (.tmp 5)= .pointer (some ⟨r,0,none⟩):=by rw[← ha2];show(Act.put _ (some 3) _).eval _=_;rw[eval_put,if_neg (by simp),eval_put,if_neg (by simp),eval_put,if_neg (by simp)];exact f5
  have g3:a2.eval (.tmp 3)=e.key:=by rw[← ha2];show(Act.put _ (some 3) _).eval _=_;rw[eval_put,if_pos ⟨rfl,by rw[Ar,Ar,s1];omega⟩]
  have hd2:a2.defers= []:=by rw[← ha2];exact hd1
  clear ha2;have hj4:J (pre.map dec) w2:=hj2;have hit4:=hit2;have hmp4:=hmp2;have hplen:pre.length<M.size:=by
   have h2:(e::pre).Nodup:=Gh (f:=(·.born)) (by simp only[List.map_cons,List.nodup_cons];exact⟨hfresh,hpn⟩)
   have:=Lm h2 (fun x hx=>by rcases List.mem_cons.1 hx with rfl|hx;exact heM;exact hsub x hx)
   simp at this;omega
  have hYe:=hY (pre.map dec) (dec e) w2 hj4 (by simpa using hplen)
  rw[hdec e heM]at hYe;obtain⟨fn',tmps,assign,body,hy,hR⟩:=hYe;refine A7 (some 10) rfl rfl rfl (r:= .func (.yield l) #[] #[]) (w':=w2) ?_ (A7 (some 11) rfl rfl rfl (r:=e.key) (w':=w2) ?_ (Acb (some 12) (R:=fun e' W'=>(e'= .returned (.bool true)∧J (pre.map dec++ [dec e]) W'∧KeepsWalks w2 W')∨(e'= .returned (.bool false)∧Jx (pre.map dec++ [dec e]) W')) rfl rfl rfl (w':=w2) ?_ hR ?_ ?_ ?_))
  ·rw[← g0];exact J7 (.inl rfl)
  ·have h3:(a2.put (some 10) (.func (.yield l) #[] #[])).eval (.tmp 3)=e.key:=by rw[eval_put,if_neg (by simp),g3]
   rw[← h3];exact J7 (.inl rfl)
  ·exact Aql rfl (by rw[eval_put,if_neg (by simp),eval_put,if_pos ⟨rfl,by rw[s2];omega⟩]) (by rw[eval_put,if_pos ⟨rfl,by rw[Ar,s2];omega⟩]) hy
  ·rintro v w5 (⟨hv5,hj5,hk5⟩|⟨hv5,hx5⟩)
   ·cases hv5;refine A7 (some 13) rfl rfl rfl (r:= .bool false) (w':=w5) ?_ ?_
    ·exact Ap4 (b:=true) rfl (by rw[eval_put,if_pos ⟨rfl,by rw[Ar,Ar,s2];omega⟩])
    show Code.wpIn _ _ _ _ _ _ _;refine wpIn_cond_false (by rw[eval_put,if_pos ⟨rfl,by rw[Ar,Ar,Ar,s2];omega⟩]) (wpIn_skip ?_)
    show _∧_;have hit5:=hk5.same r _ hit4 rfl;have hmp5:=hk5.same c _ hmp4 rfl;refine⟨⟨by simp[Ar,s2],?_,?_,hd2,pre++ [e],?_,hmp5,?_,?_,by rw[List.map_append];exact hj5⟩,?_⟩
    ·rw[eval_put,if_neg (by simp),eval_put,if_neg (by simp),eval_put,if_neg (by simp),eval_put,if_neg (by simp)];exact g0
    ·rw[eval_put,if_neg (by simp),eval_put,if_neg (by simp),eval_put,if_neg (by simp),eval_put,if_neg (by simp)];exact g5
    ·rw[hit5];simp
    ·intro m hm';rcases List.mem_append.1 hm' with h|h
     ·exact hsub m h
     ·simp at h;subst h;exact heM
    ·rw[List.map_append,List.nodup_append];refine⟨hpn,by simp,?_⟩
     intro x hx y hy;simp at hy;subst hy;exact fun h=>hfresh (h ▸ hx)
    ·unfold Zg;rw[hit5,hit];exact Yx hel
   ·cases hv5;refine A7 (some 13) rfl rfl rfl (r:= .bool true) (w':=w5) ?_ ?_
    ·exact Ap4 (b:=false) rfl (by rw[eval_put,if_pos ⟨rfl,by rw[Ar,Ar,s2];omega⟩])
    show Code.wpIn _ _ _ _ _ _ _;refine wpIn_cond_true (by rw[eval_put,if_pos ⟨rfl,by rw[Ar,Ar,Ar,s2];omega⟩]) (wpIn_ret ?_)
    refine⟨hd2,.tuple #[],?_,⟨_,rfl⟩,.inr ⟨_,trivial,hx5⟩⟩;unfold results;rw[hres];simp
  ·rintro ch w5 (⟨h,_⟩|⟨h,_⟩)<;>cases h
  ·rintro w5 (⟨h,_⟩|⟨h,_⟩)<;>cases h
end
section
variable{n:Nat}{P:Program}
def Av5(fn:FuncId)(tmps:Array Value)(ps:Array Tmp)(assign body:Code)(D:Nat)(s:LoopState):Loop:=
 {state:=s,pending:=none,fn,tmps,params:=ps,assign,body,defers:=D}
def OwnFrom{β:Type}(B:Nat)(I:β→World→Prop):Prop:=
 ∀s W W' row,I s W→W.grownBy W' row→(∀r,row=some r→B≤r∧∃ob:Go.Obj,W.heap[r]?=some ob∧ob.isCells=false)→I s W'
theorem OwnFrom.putObj{β:Type}{B:Nat}{I:β→World→Prop}(h:OwnFrom B I){s:β}{W:World}{l:Nat}{ob:Go.Obj}(o':Go.Obj)(hs:I s W)(hl:W.heap[l]?=some ob)(ho:ob.isCells=false)(hB:B≤l):I s (W.putObj l o'):=
 h s W _ (some l) hs (grownBy_putObj' W l o') (fun r e=>by cases e;exact⟨hB,ob,hl,ho⟩)
theorem OwnFrom.alloc{β:Type}{B:Nat}{I:β→World→Prop}(h:OwnFrom B I){s:β}{W:World}(ob:Go.Obj)(hs:I s W):I s (W.alloc ob):=
 h s W _ none hs (World.grownBy_alloc W ob none) (fun r e=>by cases e)
def Hu{α:Type}(F:Fence)(n:Nat)(P:Program)(g:Nat)(lb:Array Value)(enc:α→Value)(S:List α→Prop)(N:Nat)(w:World):Prop:=
 ∀(l:Nat) (J:List α→World→Prop) (W:World),Below w.heap.size w W→AbidesFrom W.heap.size J→(∀pre W1,J pre W1→∀k,k<w.heap.size→W1.heap[k]?=w.heap[k]?)→(∀pre x W1,J pre W1→pre.length<N→YieldAt F (n - 1) P l #[enc x] W1 fun e W'=>e= .returned (.bool true)∧J (pre++ [x]) W'∧KeepsWalks W1 W')→J [] W→CallsIn F n P g (#[.func (.yield l) #[] #[]]++lb) W fun e W'=>(∃v,e= .returned v)∧∃xs,S xs∧J xs W'
theorem Hu.of{α:Type}{F:Fence}{n:Nat}{P:Program}{g:Nat}{lb:Array Value}{enc:α→Value}{S:List α→Prop}{N:Nat}{w:World}(h:SeqGives F n P g lb enc S N w):Hu F n P g lb enc S N w:=
 fun l J W hW hJ _ hY h0=>h l J W hW hJ hY h0
theorem Ado{α:Type}{g:Operand}{ps:Array Tmp}{assign body:Code}{Q:Exit→Act→World→Prop}{a:Act}{w:World}{gf:Nat}{lb:Array Value}
  (hg:a.eval g= .func (.func gf) #[] lb)(eg:∀args w,(callFunc gf args).run P w= .ok (.enter gf args) w){enc:α→Value}{S:List α→Prop}{N:Nat}{w0:World}
  (hseq:Hu Fence.wide (n - 1) P gf lb enc S N w0)(hb0:Below w0.heap.size w0 w)(hps:ps.size=1)
  (I:List α→World→Prop)(hIb:∀pre W,I pre W→∀k,k<w0.heap.size→W.heap[k]?=w0.heap[k]?)(I1:List α × α × Act→World→Prop)(hI:OwnFrom w.heap.size I)(hI1:OwnFrom w.heap.size I1)(h0:I [] w)
  (hassign:∀(l:Nat) (pre:List α) (x:α) (W:World),I pre W→pre.length<N→assign.wpIn (Fence.wide.inRound l) (n - 1 - 1) P (Exit.then (fun a1 W1=>KeepsOthers W W1∧I1 (pre,x,a1) W1) (fun _ _ _=>False)) {tmps:=(ps.zip #[enc x]).foldl (fun t (p,v)=>t.setIfInBounds p v) a.tmps,defers:= []} W)
  (hbody:∀(l:Nat) (pre:List α) (x:α) (a1:Act) (W1:World),I1 (pre,x,a1) W1→body.wpIn (Fence.wide.inRound l) (n - 1 - 1) P (fun e _ W'=>e= .normal∧KeepsOthers W1 W'∧I (pre++ [x]) W') a1 W1)
  (hdone:∀(D:Nat) (xs:List α) (W:World),w.heap.size≤D→S xs→I xs W→W.heap[D]?=some (.deferred (some []))→Q .normal {a with defers:= {target:= .collected D,args:= #[]}::a.defers} W):
  (Code.rangeFunc g ps assign body).wpIn Fence.wide n P Q a w:=by
 refine wpIn_rangeFunc fun fn hfn=>?_;let D:=w.heap.size;let l:=D+1;let rec_:LoopState→Loop:=Av5 fn a.tmps ps assign body D;let W1:World:=(w.alloc (.deferred (some []))).alloc (.loop (rec_ .ready));have hl1:W1.heap[l]?=some (.loop (rec_ .ready)):=by
  have:=World.alloc_heap_new (w.alloc (.deferred (some []))) (.loop (rec_ .ready))
  rwa [World.size_alloc]at this
 have hD1:W1.heap[D]?=some (.deferred (some [])):=(Below.heap_alloc _ _ _ (by simp[D])).trans (World.alloc_heap_new w _)
 have hI1':I [] W1:=hI.alloc _ (hI.alloc _ h0);have hb1:Below w0.heap.size w0 W1:=hb0.trans ((((Below.refl _ w).alloc (Nat.le_refl _) _).alloc (by simp) _).mono hb0.size)
 let Jn:List α→World→Prop:=fun pre W=>I pre W∧W.heap[l]?=some (.loop (rec_ .ready))∧W.heap[D]?=some (.deferred (some []));refine⟨l,[{target:= .collected D,args:= #[]}],W1,{target:= .fn (.func gf) lb,args:= #[.func (.yield l) #[] #[]]},W1,gf,#[.func (.yield l) #[] #[]]++lb,W1,run_enterLoop_outer _ _ _ _ _,?_,fun _ _=>trivial,?_,fun h=>absurd h (by simp[Fence.wide]),?_⟩
 ·simp only[resolve,hg];simp[go_sem]
 ·simp[invoke,go_sem,eg]
 ·have hab:AbidesFrom W1.heap.size Jn:=fun s A B row hs hgr hr=>by
   have hnw:∀q,row=some q→w.heap.size≤q∧∃ob:Go.Obj,A.heap[q]?=some ob∧ob.isCells=false:=fun q e=>by obtain⟨h0,ob,h1,h2⟩:=hr q e;exact⟨Nat.le_trans (by simp[W1];omega) h0,ob,h1,Obj.not_cells_of_walk h2⟩
   exact⟨hI s A B row hs.1 hgr hnw,(grownBy_keeps hgr (fun q e=>(hr q e).2) hs.2.1 rfl).trans hs.2.1,(grownBy_keeps hgr (fun q e=>(hr q e).2) hs.2.2 rfl).trans hs.2.2⟩
  refine(hseq l Jn W1 hb1 hab (fun pre W hJ=>hIb pre W hJ.1) ?_ ⟨hI1',hl1,hD1⟩).mono ?_
  ·rintro pre x W ⟨hi,hl,hk⟩ hlen;refine⟨fn,_,assign,body,run_yield (P:=P) (args:= #[enc x]) hl (by simpa[rec_,Av5]using hps.symm),roundIn_of_wpIn hfn ?_⟩
   refine wpIn_mono (hassign l pre x W hi hlen) ?_;rintro e a1 Wa h;cases e with
   |normal=>
    obtain⟨hko,hi1⟩:=h;have hla:Wa.heap[l]?=some (.loop (rec_ .ready)):=hko.same _ _ hl rfl;have hka:Wa.heap[D]?=some (.deferred (some [])):=hko.same _ _ hk rfl;have hlt:=(Array.getElem?_eq_some_iff.1 hla).1;have hbr:=run_beginRound (P:=P) hla rfl;refine⟨_,hbr,?_⟩;generalize hWb:(Wa.putObj l (.loop {rec_ .ready with state:= .busy}))=Wb;have hlb:Wb.heap[l]?=some (.loop (rec_ .busy)):=by rw[← hWb];exact World.putObj_heap_same hlt
    have hkb:Wb.heap[D]?=some (.deferred (some [])):=by rw[← hWb];exact(World.putObj_heap_other (by simp[l])).trans hka
    have hi1b:I1 (pre,x,a1) Wb:=by rw[← hWb];exact hI1.putObj _ hi1 hla rfl (by simp[l,D])
    have hwb:KeepsWalks W Wb:=hko.walks.trans (by rw[← hWb];exact KeepsWalks.putObj _ hla rfl)
    refine wpIn_mono (hbody l pre x a1 Wb hi1b) ?_;rintro e a3 Wc ⟨rfl,hkc,hic⟩;have hlc:Wc.heap[l]?=some (.loop (rec_ .busy)):=hkc.same _ _ hlb rfl;have hkc':Wc.heap[D]?=some (.deferred (some [])):=hkc.same _ _ hkb rfl;have hend:=run_endRound (P:=P) none hlc;refine⟨_,_,hend,rfl,⟨hI.putObj _ hic hlc rfl (by simp[l,D]),World.putObj_heap_same (Array.getElem?_eq_some_iff.1 hlc).1,(World.putObj_heap_other (by simp[l])).trans hkc'⟩,(hwb.trans hkc.walks).trans (KeepsWalks.putObj _ hlc rfl)⟩
   |exit id=>exact h.elim
   |goto t=>exact h.elim
   |ret=>exact h.elim
   |panic ch=>exact h.elim
   |outgrown=>exact h.elim
  ·rintro e W2 ⟨⟨v,rfl⟩,xs,hS,hi,hl,hk⟩;exact⟨none,_,run_endLoop (P:=P) hl (by simp[rec_,Av5]),hdone D xs _ (Nat.le_refl _) hS (hI.putObj _ hi hl rfl (by simp[l,D])) ((World.putObj_heap_other (by simp[l])).trans hk)⟩
end
section
variable{w w':World}{g g':G}{st st':St}{v:D}
theorem Aw4{C:Eo}{cf:Ah}{hh:Bool}{o:Oper}{σ:Operand→Value}{ρ:Operand→D}{W:Cb}(hn:Sy o=true)(h:Bj C hh cf o ρ st=some (v,st',W))(hs:Co g st w)(hv:∀x∈o.op.operands,VR g (ρ x) (σ x)):
  LOk C.P (execOp σ o) v g st w st' W:=by
 unfold Bj at h;split at h
 ·rename_i t x y hop;rw[hop]at hv;unfold execOp;rw[hop];exact Ao2 hs (hv x (by simp[Op.operands])) (hv y (by simp[Op.operands])) h
 ·rename_i t m k x hop;rw[hop]at hv;unfold execOp;rw[hop];exact X6 hs (hv m (by simp[Op.operands])) (hv k (by simp[Op.operands])) (hv x (by simp[Op.operands])) h
 ·rename_i t m k x hop;rw[hop]at hv;unfold execOp;rw[hop];exact X6 hs (hv m (by simp[Op.operands])) (hv k (by simp[Op.operands])) (hv x (by simp[Op.operands])) h
 ·rename_i it b hop;rw[hop]at hv;unfold execOp;rw[hop];exact Awy hs (hv it (by simp[Op.operands])) h
 ·rename_i b args ts hop;rw[hop]at hv;unfold execOp;rw[hop];simp only[resolve,invoke,pure_bind];exact U4 hs (P6 fun x hx=>hv x (by simp[Op.operands,Call.operands];simpa using hx)) h
 ·rename_i x args ts hop;simp[Sy,hop]at hn
 ·cases h
variable{g0:G}{st0:St}{w0:World}{ds:List Deferred}{e e':Env}{W:Cb}{a:Act}
theorem A73:∀f,Ba (cf0 f):=fun f args st v st' W h=>by cases h
theorem At.loudEq{C:Eo}{h:Bool}{o:Oper}{V:Cb}(hn:Sy o=true)(hA:At g0 st0 w0 ds e st W a w g)(hq:Bj C h cf0 o (ev e) st=some (v,st',V)):
  ∃r w' g',((execOp a.eval o).run C.P w= .ok (.value r) w'∨((execOp a.eval o).run C.P w= .ok .skip w'∧r=undef))∧At g0 st0 w0 ds (Am e o.dst v) st' (Dj V W) (a.put o.dst r) w' g':=by
 obtain⟨r,g',w',h1,h2,h3,h4,h5⟩:=Aw4 hn hq hA.sim (fun x _=>V4 hA.env x);exact⟨r,w',g',h1,h3,hA.step.trans h4,hA.free.trans h5 hA.k.1,G5 (hA.env.mono h4.mono) h2,by rw[Act.put_defers'];exact hA.defers,hA.k.trans (Jz A73 hq)⟩
def Ahv(o:Oper):Bool:=match o.op with
 | .defer _=>false
 |_=>true
theorem Aej{C:Eo}{h:Bool}{F:Fence}{n:Nat}(hF:∀f,F.fn f){ops:Array Oper}{B:Array Nat}{Q:Exit→Act→World→Prop}{st':St}{W':Cb}
  (hnc:∀(i:Nat) (o:Oper),ops[i]?=some o→Sy o=true∧Ahv o=true)(hQ:∀a w g,At g0 st0 w0 ds e' st' W' a w g→Q .normal a w):
  ∀(is:List Nat) (lg:Rh) (e:Env) (st:St) (W:Cb) (a:Act) (w:World) (g:G),Ay C h cf0 false ops B is lg e st W=some (e',st',W')→At g0 st0 w0 ds e st W a w g→wpOpsIn F n C.P ops Q is a w
 | [],lg,e,st,W,a,w,g,hr,hA=>by simp only[Ay,Option.some.injEq,Prod.mk.injEq]at hr;obtain⟨rfl,rfl,rfl⟩:=hr;exact hQ a w g hA
 |i::is,lg,e,st,W,a,w,g,hr,hA=>by
  unfold Ay at hr;simp only[wpOpsIn];split at hr
  ·cases hr
  rename_i o ho;rw[ho];obtain⟨hc,hd⟩:=hnc i o ho;have hsem:o.semAt F.round a.eval=execOp a.eval o:=Oper.semAt_eq _ _ _ (fun c hc=>by simp[Ahv,hc]at hd)
  simp only;split at hr
  ·cases hr
  ·rename_i hw;rw[I9 hA.env hw];simp only[BF];exact⟨fun _ _=>hF _,Aej hF hnc hQ is lg _ st W _ w g hr hA.skip⟩
  ·rename_i hw;rw[I9 hA.env hw];simp only[if_true];refine⟨fun _ _=>hF _,?_⟩;rw[hsem];split at hr
   ·split at hr
    ·cases hr
    rename_i v st1 V hq;simp only[Bool.false_and,BF]at hr;obtain⟨r,w',g',h1,h2⟩:=hA.loudEq hc hq;rcases h1 with h1|⟨h1,rfl⟩
    ·rw[h1];exact Aej hF hnc hQ is lg _ _ _ _ w' g' hr h2
    ·rw[h1];exact Aej hF hnc hQ is lg _ _ _ _ w' g' hr h2
   ·split at hr
    ·cases hr
    rename_i v fx hq;obtain⟨r,w',g',h1,h2⟩:=hA.quiet hq;rw[h1];exact Aej hF hnc hQ is _ _ _ _ _ w' g' hr h2
theorem Uo{C:Eo}{h:Bool}{F:Fence}{n id:Nat}(hF:∀f,F.fn f){ops:Array Oper}{Q:Exit→Act→World→Prop}{st':St}{W V:Cb}
  (hnc:∀(i:Nat) (o:Oper),ops[i]?=some o→Sy o=true∧Ahv o=true)(hr:Ay C h cf0 false ops #[] (List.range ops.size) [] e st W=some (e',st',V))(hA:At g0 st0 w0 ds e st W a w g)
  (hQ:∀a w g,At g0 st0 w0 ds e' st' V a w g→Q .normal a w):(Code.region id ops false).wpIn F n C.P Q a w:=
 wpIn_region (Aej hF hnc hQ _ _ _ _ _ _ _ _ hr hA)
def Tq:Obj→Bool
 | .cells _| .fcells _| .dead=>true
 |_=>false
theorem At.own{w1:World}{row:Option Nat}(hA:At g0 st0 w0 ds e st W a w g)(hc:∀(id:Nat) (o:Obj),st[id]?=some o→Tq o=true)(hg:w.grownBy w1 row)
  (hrow:∀r,row=some r→w0.heap.size≤r∧∃ob:Go.Obj,w.heap[r]?=some ob∧ob.isCells=false):At g0 st0 w0 ds e st W a w1 g:=by
 have hsame:∀(b:Nat) (ob:Go.Obj),w.heap[b]?=some ob→ob.isCells=true→w1.heap[b]?=some ob:=fun b ob hb hcell=>by
  rw[hg.block b (Array.getElem?_eq_some_iff.1 hb).1 ?_]
  ·exact hb
  ·intro e;obtain⟨_,ob',h1,h2⟩:=hrow b e.symm;rw[hb]at h1;cases h1;rw[hcell]at h2;cases h2
 have hcell:∀(b o:Nat) (v:Value),w.cell? ⟨b,o,none⟩=some v→w1.cell? ⟨b,o,none⟩=some v:=fun b o v h=>by have:∃ob:Go.Obj,w.heap[b]?=some ob∧ob.isCells=true:=cells_of_cell (a:=⟨b,o,none⟩) h;obtain⟨ob,h1,h2⟩:=this;rw[← h];exact World.cell?_of_block (a:=⟨b,o,none⟩) ((hsame b ob h1 h2).trans h1.symm)
 have hs:=hA.sim;refine⟨⟨fun id c hl=>?_,fun t k hk=>?_,hs.inj,fun b o v h=>hcell b o v (hs.imm b o v h),fun id c hl=>Nat.lt_of_lt_of_le (hs.blk id c hl) hg.size,fun b o v h=>⟨(hs.base b o v h).1,(hs.base b o v h).2.1,fun o' ho'=>(by have h1:=hs.imm _ _ _ (hs.base b o v h).1;have:∃ob:Go.Obj,w.heap[b]?=some ob∧ob.isCells=true:=cells_of_cell (a:=⟨b,o,none⟩) h1;obtain⟨ob,h2,h3⟩:=this;rw[← (hs.base b o v h).2.2 o' ho'];exact World.cell?_of_block (a:=⟨b,o',none⟩) ((hsame b ob h2 h3).trans h2.symm))⟩⟩,?_,hA.free,hA.env,hA.defers,hA.k⟩
 ·obtain⟨o,ho,hr⟩:=hs.obj id c hl;refine⟨o,ho,?_⟩;have:=hc id o ho;cases o with
  |cells cs=>obtain⟨A,T,fr,h⟩:=hr;exact⟨A,T,fr,hsame _ _ h.heap rfl,h.size,h.fr,h.len,h.at_,h.own⟩
  |fcells cs=>exact hr
  |dead=>trivial
  |_=>simp[Tq]at this
 ·have:=(hs.tok t k hk).1;have:=hc _ _ this;simp[Tq]at this
 ·have hst:=hA.step;refine⟨hst.mono,Nat.le_trans hst.size hg.size,fun b hb hn=>?_,hst.own,hg.os.trans hst.os,hg.output.trans hst.out⟩;rw[hg.block b (Nat.lt_of_lt_of_le hb hst.size) ?_]
  ·exact hst.fr b hb hn
  ·intro e;have:=(hrow b e.symm).1;omega
end
def Ajw(t0 tS tk tq:TypeId):Array Oper:= #[{dst:=some 5,op:=Go.Op.alloc tk,type:=t0,pos:= "iter.go:51",after:= #[],guard:=none},{dst:=none,op:=Go.Op.store tk (Operand.tmp 5) (Operand.tmp 7),type:=t0,pos:= "iter.go:51",after:= #[{on:=0,ground:=Ground.data},{on:=0,ground:=Ground.phase}],guard:=none}]
def Aqd(t0 tS tk tq:TypeId):Array Oper:= #[{dst:=some 8,op:=Go.Op.load tS (Operand.tmp 2),type:=tS,pos:= "iter.go:52",after:= #[],guard:=none},{dst:=some 9,op:=Go.Op.load tk (Operand.tmp 5),type:=tk,pos:= "iter.go:52",after:= #[],guard:=none},{dst:=some 10,op:=Go.Op.buildSlice tS 1 #[(0,Operand.tmp 9)],type:=tS,pos:= "iter.go:52",after:= #[{on:=1,ground:=Ground.data}],guard:=none},{dst:=some 11,op:=Go.Op.call {callee:=Callee.builtin Builtin.append,args:= #[Operand.tmp 8,Operand.tmp 10],argTypes:= #[tS,tS]},type:=tS,pos:= "iter.go:52",after:= #[{on:=0,ground:=Ground.data},{on:=2,ground:=Ground.data}],guard:=none},{dst:=none,op:=Go.Op.store tS (Operand.tmp 2) (Operand.tmp 11),type:=t0,pos:= "iter.go:52",after:= #[{on:=3,ground:=Ground.data},{on:=3,ground:=Ground.chain},{on:=0,ground:=Ground.phase},{on:=1,ground:=Ground.phase},{on:=2,ground:=Ground.phase},{on:=3,ground:=Ground.phase}],guard:=none}]
def At9(t0 tS tk tq:TypeId):Array Oper:= #[{dst:=some 12,op:=Go.Op.load tS (Operand.tmp 2),type:=tS,pos:= "iter.go:54",after:= #[],guard:=none},{dst:=some 4,op:=Go.Op.assign (Operand.tmp 12),type:=tS,pos:= "iter.go:54",after:= #[{on:=0,ground:=Ground.data},{on:=0,ground:=Ground.phase}],guard:=none}]
def app0(t0 tS tk tq:TypeId):Array Oper:= #[{dst:=some 2,op:=Go.Op.box tS (Operand.tmp 0),type:=t0,pos:= "iter.go:50",after:= #[],guard:=none},{dst:=some 4,op:=Go.Op.assign (Operand.const (Value.slice none 0 0)),type:=tS,pos:= "iter.go:50",after:= #[],guard:=none}]
def app1(t0 tS tk tq:TypeId):Array Oper:= #[{dst:=some 6,op:=Go.Op.move (Operand.tmp 1),type:=tq,pos:= "iter.go:51",after:= #[],guard:=none}]
def Au4(t0 tS tk tq:TypeId):Code:=(Code.region 0 (app0 t0 tS tk tq) false).seq ((((Code.region 1 (app1 t0 tS tk tq) false).seq (Code.block 0 (Code.rangeFunc (Operand.tmp 6) #[7] (Code.region 2 (Ajw t0 tS tk tq) false) (Code.block 1 (Code.region 3 (Aqd t0 tS tk tq) false))))).seq ((Code.region 4 (At9 t0 tS tk tq) false).seq Code.ret)))
def Alm(t0 tS tk tq:TypeId):Array Oper:= #[{dst:=some 5,op:=Go.Op.assign (Operand.tmp 7),type:=tk,pos:= "iter.go:51",after:= #[],guard:=none}]
def Apb(t0 tS tk tq:TypeId):Array Oper:= #[{dst:=some 8,op:=Go.Op.load tS (Operand.tmp 2),type:=tS,pos:= "iter.go:52",after:= #[],guard:=none},{dst:=some 9,op:=Go.Op.move (Operand.tmp 5),type:=tk,pos:= "iter.go:52",after:= #[],guard:=none},{dst:=some 10,op:=Go.Op.buildSlice tS 1 #[(0,Operand.tmp 9)],type:=tS,pos:= "iter.go:52",after:= #[{on:=1,ground:=Ground.data}],guard:=none},{dst:=some 11,op:=Go.Op.call {callee:=Callee.builtin Builtin.append,args:= #[Operand.tmp 8,Operand.tmp 10],argTypes:= #[tS,tS]},type:=tS,pos:= "iter.go:52",after:= #[{on:=0,ground:=Ground.data},{on:=2,ground:=Ground.data}],guard:=none},{dst:=none,op:=Go.Op.store tS (Operand.tmp 2) (Operand.tmp 11),type:=t0,pos:= "iter.go:52",after:= #[{on:=3,ground:=Ground.data},{on:=3,ground:=Ground.chain},{on:=0,ground:=Ground.phase},{on:=1,ground:=Ground.phase},{on:=2,ground:=Ground.phase},{on:=3,ground:=Ground.phase}],guard:=none}]
def Axk(t0 tS tk tq:TypeId):Code:=(Code.region 0 (app0 t0 tS tk tq) false).seq ((((Code.region 1 (app1 t0 tS tk tq) false).seq (Code.block 0 (Code.rangeFunc (Operand.tmp 6) #[7] (Code.region 2 (Alm t0 tS tk tq) false) (Code.block 1 (Code.region 3 (Apb t0 tS tk tq) false))))).seq ((Code.region 4 (At9 t0 tS tk tq) false).seq Code.ret)))
structure Vw(P:Program)(tS tk:TypeId)(sz by_:Nat)(z:List D):Prop where
 und:P.underlying tS=some (.slice tk)
 undk:(P.underlying tk).isSome=true
 size:Bw P tk=some sz
 bytes:Jm P tk=some by_
 zero:zeroOf P tk=some z
 zlen:z.length=sz
 has:Kt P tk sz=true
 sz0:sz≠0
 szle:sz≤1024
 byle:by_≤65536
 sizeS:Bw P tS=some 1
def Aee(sz:Nat)(rows:List (List D))(st:St)(sl:D):Prop:=
 (rows= []∧sl= .nilsl)∨(rows≠ []∧∃id,id≠0∧sl= .arr sz id 0 rows.length rows.length∧st[id]?=some (.cells rows.flatten))
section
variable{P:Program}{tS tk t0 tq:TypeId}{sz by_:Nat}{z:List D}
theorem Ar7{sz:Nat}{l:List D}(h:l.length=sz):chunk sz 1 l= [l]:=by simp[chunk,List.take_of_length_le (by omega:l.length≤sz)]
theorem Ac1{sz:Nat}:∀{rows:List (List D)},(∀r∈rows,r.length=sz)→rows.flatten.length=rows.length*sz
 | [],_=>by simp
 |r::rows,h=>by
  rw[List.flatten_cons,List.length_append,h r (by simp),Ac1 (fun r hr=>h r (by simp[hr])),List.length_cons,Nat.add_mul]
  omega
theorem A3i(hE:Vw P tS tk sz by_ z){rows:List (List D)}{kc:List D}{st:St}{sl:D}{idb:Nat}(hr:Aee sz rows st sl)(hlen:∀r∈rows,r.length=sz)(hN:rows.length<2 ^ 19)
  (hb:st[idb]?=some (.cells kc))(hk:kc.length=sz)(hok:kc.all Al=true)(h0:∃o,st[0]?=some o)(hne:∀id len cap,sl= .arr sz id 0 len cap→id≠idb):
  ∃sl' st' V,C8 P true tS sl (.arr sz idb 0 1 1) st=some (sl',st',V)∧Aee sz (rows++ [kc]) st' sl'∧st'[0]?=st[0]?∧(∀(id:Nat) (o:Obj),st'[id]?=some o→o= .dead∨(∃cs,o= .cells cs)∨st[id]?=some o):=by
 have hrows:rowsOf st (.arr sz idb 0 1 1)=some [kc]:=by
  unfold rowsOf;dsimp only;rw[hb];dsimp only;unfold Kr;rw[if_pos (by have:=hE.sz0;simp[hk,this])]
  rw[List.drop_zero,Ar7 hk]
 obtain⟨o0,h0⟩:=h0;have hl0:0<st.length:=(List.getElem?_eq_some_iff.1 h0).1;have hall:([kc].all (fun r=>r.length == sz && r.all Al))=true:=by simp[hk,hok]
 unfold C8 Cx;rw[hE.und];dsimp only;rw[hE.size,hE.bytes,hrows];dsimp only;rw[hall,hE.has];simp only[Bool.and_self,if_true];have hmax:Dh=68719476736:=rfl;have hby:=hE.byle;rcases hr with⟨rfl,rfl⟩|⟨hrne,id,hid0,rfl,hst⟩
 ·dsimp only;rw[if_neg (by simp),if_pos (by simp[hmax];omega)]
  refine⟨_,_,_,rfl,.inr ⟨by simp,st.length,by omega,by simp,by simp⟩,List.getElem?_append_left hl0,fun id o ho=>?_⟩
  rw[List.getElem?_append]at ho;split at ho
  ·exact .inr (.inr ho)
  ·rename_i hge;cases hd:id - st.length with
   |zero=>rw[hd]at ho;simp at ho;exact .inr (.inl ⟨_,ho.symm⟩)
   |succ j=>rw[hd]at ho;simp at ho
 ·dsimp only;have hnb:(rows.length+1)*by_≤68719476736:=Nat.le_trans (Nat.mul_le_mul (by omega:rows.length+1≤524288) hby) (by decide)
  rw[if_neg (by simp)]
  have hc1:(decide ((rows.length+ [kc].length)*by_≤Dh) && decide (rows.length+ [kc].length≤Dh) && decide (sz=sz) && decide (0=0))=true:=by simp[hmax,hnb];omega
  rw[if_neg (by rw[hc1];simp),hst]
  dsimp only;rw[if_neg (by simp;intro h;omega),if_pos (by rw[Ac1 hlen];exact Nat.le_refl _)]
  have htk:(rows.flatten.take (rows.length*sz))=rows.flatten:=List.take_of_length_le (by rw[Ac1 hlen];exact Nat.le_refl _)
  have hidl:id<st.length:=(List.getElem?_eq_some_iff.1 hst).1;refine⟨_,_,_,rfl,.inr ⟨by simp,st.length,by omega,by simp,?_⟩,?_,fun id' o ho=>?_⟩
  ·rw[List.getElem?_append_right (by simp)]
   simp[htk]
  ·rw[List.getElem?_append_left (by simpa using hl0),List.getElem?_set_ne hid0]
  ·rw[List.getElem?_append]at ho;split at ho
   ·rw[List.getElem?_set]at ho;split at ho
    ·rename_i e;subst e;simp only[Option.some.injEq]at ho;exact .inl ho.symm
    ·exact .inr (.inr ho)
   ·rename_i hge;simp only[List.length_set]at ho hge;cases hd:id' - st.length with
    |zero=>rw[hd]at ho;simp at ho;exact .inr (.inl ⟨_,ho.symm⟩)
    |succ j=>rw[hd]at ho;simp at ho
end
def eR(d5 d7:D):Env:= [.nilsl,.undef,.ptr 0 0,.undef,.nilsl,d5,.undef,d7,.undef,.undef,.undef,.undef,.undef]
section
variable{P:Program}{tS tk t0 tq:TypeId}{sz by_:Nat}{z:List D}
theorem Ax0{α:Type}(st:List α)(x y:α):(st++ [x]).set st.length y=st++ [y]:=by
 rw[List.set_append_right _ _ (by simp)]
 simp
theorem Aq3(hE:Vw P tS tk sz by_ z){kd:D}{st:St}(hk:kd.cells.length=sz)(hok:kd.cells.all Al=true):
  Ay {P:=P} true cf0 false (Ajw t0 tS tk tq) #[] [0,1] [] (eR .undef kd) st []=some (eR (.ptr st.length 0) kd,st++ [.cells kd.cells],[st.length]):=by
 have hst:I4 P tk (.ptr st.length 0) kd (st++ [.cells z])=some (.undef,st++ [.cells kd.cells],[st.length]):=by
  unfold I4;dsimp only;rw[List.getElem?_append_right (Nat.le_refl _),hE.size];simp only[Nat.sub_self,List.getElem?_cons_zero];rw[if_pos (by simp[hk,hok,hE.zlen]),Ax0]
  rw[hE.zlen.symm.trans rfl]at*;simp[]
 simp only[Ay,Ajw,List.getElem?_toArray,GC,Ct,loud,BF,if_true,Af,hE.zero,Option.map_some,Am,Dy,Ju,Bj,Bool.false_and];simp only[eR,List.set_cons_succ,List.set_cons_zero,ev,List.getD_cons_succ,List.getD_cons_zero];rw[hst];rfl
theorem Aqy{kd:D}{st:St}:Ay {P:=P} true cf0 false (Alm t0 tS tk tq) #[] [0] [] (eR .undef kd) st []=some (eR kd kd,st,[]):=by simp only[Ay,Alm,List.getElem?_toArray,List.getElem?_cons_zero,Ct,loud,BF,Af,Am,Dy,Bj];rfl
structure Mid(sz:Nat)(rows:List (List D))(st:St)(sl:D):Prop where
 box:st[0]?=some (.cells [sl])
 rows:Aee sz rows st sl
 objs:∀(id:Nat) (o:Obj),st[id]?=some o→Tq o=true
theorem Aee.app{rows:List (List D)}{st:St}{sl:D}(h:Aee sz rows st sl)(o:Obj):Aee sz rows (st++ [o]) sl:=by
 rcases h with h|⟨h1,id,h2,h3,h4⟩
 ·exact .inl h
 ·exact .inr ⟨h1,id,h2,h3,by rw[List.getElem?_append_left (List.getElem?_eq_some_iff.1 h4).1];exact h4⟩
theorem Afw(hE:Vw P tS tk sz by_ z){kd:D}{st:St}{x:Operand}{ρ:Operand→D}{o:Oper}(ho:o.op= .buildSlice tS 1 #[(0,x)])(hx:ρ x=kd)(hk:kd.cells.length=sz)(hkn:kd.known=true):
  Af P true o ρ st=some (.arr sz st.length 0 1 1,.al (.cells kd.cells)):=by
 unfold Af;rw[ho];dsimp only;unfold Cx;rw[hE.und];dsimp only;rw[hE.size,hE.zero];simp only[if_true,MC,hx];have hz:J2 z 1=z:=by simp[J2]
 rw[if_pos (by have:=hE.szle;have:=hE.sz0;simp[hE.zlen,this];omega),hz]
 have:I8 (fun i=>some (i*sz,sz)) z [(0,kd)]=some kd.cells:=by
  simp only[I8];rw[if_neg (by simp[hk,hkn,hE.zlen])]
  simp[hE.zlen]
 rw[this]
theorem Kv{C:Eo}{h:Bool}{cf:Ah}{ops:Array Oper}{B:Array Nat}{i:Nat}{is:List Nat}{lg:Rh}{e:Env}{st:St}{W:Cb}{o:Oper}{v:D}{fx:Fx}(d:Option Tmp)(ho:ops[i]?=some o)(hd:o.dst=d)(hg:o.guard=none)(hl:loud o=false)
  (hq:Af C.P h o (ev e) st=some (v,fx)):Ay C h cf false ops B (i::is) lg e st W=Ay C h cf false ops B is (Ju false i st lg fx) (Am e d v) (Dy st fx) W:=by
 subst hd;rw[Ay,ho];dsimp only;rw[show Ct o ops e=some true from by simp[Ct,hg]]
 dsimp only;rw[hl,hq];rfl
theorem Xm{C:Eo}{h:Bool}{cf:Ah}{ops:Array Oper}{B:Array Nat}{i:Nat}{is:List Nat}{lg:Rh}{e:Env}{st:St}{W:Cb}{o:Oper}{v:D}{st':St}{V:Cb}(d:Option Tmp)(ho:ops[i]?=some o)(hd:o.dst=d)(hg:o.guard=none)(hl:loud o=true)
  (hq:Bj C h cf o (ev e) st=some (v,st',V)):Ay C h cf false ops B (i::is) lg e st W=Ay C h cf false ops B is lg (Am e d v) st' (Dj V W):=by
 subst hd;rw[Ay,ho];dsimp only;rw[show Ct o ops e=some true from by simp[Ct,hg]]
 dsimp only;rw[hl,hq];rfl
theorem Aup{code3:Array Oper}(hE:Vw P tS tk sz by_ z){kd d5 sl:D}{rows:List (List D)}{st:St}(hm:Mid sz rows st sl)(hlen:∀r∈rows,r.length=sz)(hN:rows.length<2 ^ 19)
  (hk:kd.cells.length=sz)(hok:kd.cells.all Al=true)(hkn:kd.known=true)(haS:Jg P tS=false)
  (hcode:(code3=Aqd t0 tS tk tq∧∃idv,d5= .ptr idv 0∧Fp P tk (.ptr idv 0) st=some (kd,.rd [idv]))∨(code3=Apb t0 tS tk tq∧d5=kd)):
  ∃e' st' V sl',Ay {P:=P} true cf0 false code3 #[] [0,1,2,3,4] [] (eR d5 kd) st []=some (e',st',V)∧Mid sz (rows++ [kd.cells]) st' sl':=by
 have hld:Fp P tS (.ptr 0 0) st=some (sl,.rd [0]):=by unfold Fp;dsimp only;rw[hm.box];dsimp only;unfold Dk;rw[hE.sizeS];simp[hE.und,haS]
 have hl0:0<st.length:=(List.getElem?_eq_some_iff.1 hm.box).1;obtain⟨sl',Vy,V,ha,hr3,h03,ho3⟩:=A3i (st:=st++ [.cells kd.cells]) (idb:=st.length) hE (hm.rows.app _) hlen hN (by simp) hk hok ⟨.cells [sl],by rw[List.getElem?_append_left hl0];exact hm.box⟩ (fun id len cap h=>by
  rcases hm.rows with⟨_,hs⟩|⟨_,id',_,hs,hst⟩
  ·rw[hs]at h;cases h
  ·rw[hs]at h;cases h;have:=(List.getElem?_eq_some_iff.1 hst).1;omega)
 have h03':Vy[0]?=some (.cells [sl]):=by rw[h03,List.getElem?_append_left hl0];exact hm.box
 have hl3:0<Vy.length:=(List.getElem?_eq_some_iff.1 h03').1;have hslok:Al sl'=true:=by
  rcases hr3 with⟨h,_⟩|⟨_,id,_,h,_⟩
  ·simp at h
  ·rw[h];rfl
 have hcells:sl'.cells= [sl']:=by
  rcases hr3 with⟨h,_⟩|⟨_,id,_,h,_⟩
  ·simp at h
  ·rw[h];rfl
 have hst:I4 P tS (.ptr 0 0) sl' Vy=some (.undef,Vy.set 0 (.cells [sl']),[0]):=by unfold I4;dsimp only;rw[h03',hE.sizeS];dsimp only;rw[hcells];simp[hslok]
 have happ:∀(o:Oper) (ρ:Operand→D),o.op= .call {callee:= .builtin .append,args:= #[.tmp 8,.tmp 10],argTypes:= #[tS,tS]}→ρ (.tmp 8)=sl→ρ (.tmp 10)= .arr sz st.length 0 1 1→Bj {P:=P} true cf0 o ρ (st++ [.cells kd.cells])=some (sl',Vy,V):=fun o ρ ho h8 h10=>by unfold Bj;rw[ho];dsimp only;unfold Gn;simp only[MC,h8,h10,hE.und];exact ha
 have hmid:Mid sz (rows++ [kd.cells]) (Vy.set 0 (.cells [sl'])) sl':=by
  refine⟨by rw[List.getElem?_set_self hl3],?_,fun id o h=>?_⟩
  ·rcases hr3 with⟨h,_⟩|⟨h1,id,h2,h3,h4⟩
   ·simp at h
   ·exact .inr ⟨h1,id,h2,h3,by rw[List.getElem?_set_ne (Ne.symm h2)];exact h4⟩
  ·rw[List.getElem?_set]at h;split at h
   ·simp only[Option.some.injEq]at h;rw[← h];rfl
   ·rcases ho3 id o h with rfl|⟨cs,rfl⟩|h'
    ·rfl
    ·rfl
    ·rw[List.getElem?_append]at h';split at h'
     ·exact hm.objs id o h'
     ·rename_i hge;cases hd:id - st.length with
      |zero=>rw[hd]at h';simp at h';subst h';rfl
      |succ j=>rw[hd]at h';simp at h'
 rcases hcode with⟨rfl,idv,rfl,hlk⟩|⟨rfl,rfl⟩
 ·refine⟨((((eR (.ptr idv 0) kd).set 8 sl).set 9 kd).set 10 (.arr sz st.length 0 1 1)).set 11 sl',Vy.set 0 (.cells [sl']),Dj [0] (Dj V []),sl',?_,hmid⟩;refine Eq.trans (Kv (some 8) rfl rfl rfl rfl (v:=sl) (fx:= .rd [0]) (by exact hld)) ?_
  refine Eq.trans (Kv (some 9) rfl rfl rfl rfl (v:=kd) (fx:= .rd [idv]) (by exact hlk)) ?_
  refine Eq.trans (Kv (some 10) rfl rfl rfl rfl (v:= .arr sz st.length 0 1 1) (fx:= .al (.cells kd.cells)) (by exact Afw hE rfl rfl hk hkn)) ?_
  refine Eq.trans (Xm (some 11) rfl rfl rfl rfl (v:=sl') (st':=Vy) (V:=V) (by exact happ _ _ rfl rfl rfl)) ?_
  refine Eq.trans (Xm none rfl rfl rfl rfl (v:= .undef) (st':=Vy.set 0 (.cells [sl'])) (V:= [0]) (by exact hst)) ?_
  rfl
 ·refine⟨((((eR d5 d5).set 8 sl).set 9 d5).set 10 (.arr sz st.length 0 1 1)).set 11 sl',Vy.set 0 (.cells [sl']),Dj [0] (Dj V []),sl',?_,hmid⟩;refine Eq.trans (Kv (some 8) rfl rfl rfl rfl (v:=sl) (fx:= .rd [0]) (by exact hld)) ?_
  refine Eq.trans (Kv (some 9) rfl rfl rfl rfl (v:=d5) (fx:= .pure) (by rfl)) ?_
  refine Eq.trans (Kv (some 10) rfl rfl rfl rfl (v:= .arr sz st.length 0 1 1) (fx:= .al (.cells d5.cells)) (by exact Afw hE rfl rfl hk hkn)) ?_
  refine Eq.trans (Xm (some 11) rfl rfl rfl rfl (v:=sl') (st':=Vy) (V:=V) (by exact happ _ _ rfl rfl rfl)) ?_
  refine Eq.trans (Xm none rfl rfl rfl rfl (v:= .undef) (st':=Vy.set 0 (.cells [sl'])) (V:= [0]) (by exact hst)) ?_
  rfl
end
def G00:G:= {loc:=fun _=>none,bs:=fun _=>0,tk:=fun _=>none,I:=fun _ _=>none,base:=fun _ _=>none}
theorem Bdj(w:World):Co G00 [] w:=
 ⟨(fun id c h=>by cases h),(fun t k h=>by cases h),(fun id id' b h _=>by rcases h with⟨h,_⟩|⟨k,h,_⟩<;>cases h),(fun b o v h=>by cases h),(fun id c h=>by cases h),(fun b o v h=>by cases h)⟩
section
variable{n:Nat}{P:Program}{tS tk t0 tq:TypeId}{sz by_:Nat}{z:List D}
theorem At.others{g g':G}{st st':St}{W W1:World}{V:Cb}(hs:Co g st W)(hobj:∀(id:Nat) (o:Obj),st[id]?=some o→Tq o=true)(hstep:Step g st W V g' st' W1):KeepsOthers W W1:=by
 refine⟨hstep.size,fun k o hk hc=>?_⟩;rw[hstep.fr k (Array.getElem?_eq_some_iff.1 hk).1 (fun id _ hown=>?_)]
 ·exact hk
 ·rcases hown with⟨h1,o',h2,h3⟩|⟨t,h1,h2⟩
  ·obtain⟨o2,h4,h5⟩:=hs.obj id k h1;rw[h2]at h4;cases h4;have:=hobj id _ h2;cases o' with
   |cells cs=>obtain⟨A,T,fr,h6⟩:=h5;rw[h6.heap]at hk;cases hk;cases hc
   |fcells cs=>cases h3
   |dead=>cases h3
   |_=>cases this
  ·have:=(hs.tok id t h1).1;have:=hobj _ _ this;cases this
def Lj(P:Program)(sz:Nat)(w:World)(rows:List (List D))(v:Value)(w':World):Prop:=
 ∃g st Ws sl,Co g st w'∧Step G00 [] w Ws g st w'∧VR g sl v∧Aee sz rows st sl∧∀(id:Nat) (o:Obj),st[id]?=some o→Tq o=true
inductive Make(P:Program)(tk:TypeId):Bool→Prop where
 |agg (h:Jg P tk=true):Make P tk true
 |one (h:Jg P tk=false):Make P tk false
def Ail(b:Bool)(t0 tS tk tq:TypeId):Code:=if b then Au4 t0 tS tk tq else Axk t0 tS tk tq
set_option maxHeartbeats 1000000 in
theorem Xj{α:Type}{mk:Bool}(hmk:Make P tk mk){f:FuncId}{fn:Func}(hf:P.funcs[f]?=some fn)(hb:fn.body=some (Ail mk t0 tS tk tq))(hn:fn.ntmps=13)(hres:fn.results= #[.tmp 4])
  (hE:Vw P tS tk sz by_ z)(haS:Jg P tS=false){gf:Nat}{lb:Array Value}(eg:∀args w,(callFunc gf args).run P w= .ok (.enter gf args) w){enc:α→Value}{kd:α→D}{S:List α→Prop}{N:Nat}{w:World}
  (hseq:Hu Fence.wide (n - 1) P gf lb enc S N w)(hN:N<2 ^ 19)(hkd:∀x g,VR g (kd x) (enc x))(hk:∀x,(kd x).cells.length=sz)(hok:∀x,(kd x).cells.all Al=true)(hkn:∀x,(kd x).known=true)
  (hform:mk=true→∀x,kd x= .agg (kd x).cells):
  CallsIn Fence.wide n P f #[.slice none 0 0,.func (.func gf) #[] lb] w fun e w'=>∃v xs,e= .returned v∧S xs∧Lj P sz w (xs.map fun x=>(kd x).cells) v w':=by
 have hcode:∃a2 a3,((mk=true∧a2=Ajw t0 tS tk tq∧a3=Aqd t0 tS tk tq)∨(mk=false∧a2=Alm t0 tS tk tq∧a3=Apb t0 tS tk tq))∧fn.body=some ((Code.region 0 (app0 t0 tS tk tq) false).seq ((((Code.region 1 (app1 t0 tS tk tq) false).seq (Code.block 0 (Code.rangeFunc (Operand.tmp 6) #[7] (Code.region 2 a2 false) (Code.block 1 (Code.region 3 a3 false))))).seq ((Code.region 4 (At9 t0 tS tk tq) false).seq Code.ret)))):=by
  cases mk with
  |true=>exact⟨_,_,.inl ⟨rfl,rfl,rfl⟩,hb⟩
  |false=>exact⟨_,_,.inr ⟨rfl,rfl,rfl⟩,hb⟩
 obtain⟨a2,a3,hcd,hbody⟩:=hcode;refine callsIn_of_wp_marks hf hbody trivial ?_;rw[hn];let C:Eo:= {P:=P};let aa:Act:= {tmps:= #[.slice none 0 0,.func (.func gf) #[] lb]++Array.replicate (13 - (#[Value.slice none 0 0,.func (.func gf) #[] lb]).size) undef,defers:= []};have hA0:At G00 [] w [] (.nilsl:: .undef::List.replicate 11 .undef) [] [] aa w G00:=by
  refine At.start (a:=aa) (Bdj w) ⟨rfl,fun j d v hj hv=>?_⟩
  match j with
  |0=>simp[aa]at hj hv;subst hj;subst hv;exact .nilsl
  |1=>simp at hj;subst hj;exact .undef _
  |j+2=>
   have hj':(List.replicate 11 D.undef)[j]?=some d:=by simpa using hj
   rw[List.getElem?_replicate]at hj';split at hj'
   ·cases hj';exact .undef _
   ·cases hj'
 refine wpIn_seq (wpIn_region ?_);show wpOpsIn _ _ _ _ _ [0,1] _ _;have hraw:(execOp aa.eval {dst:=some 2,op:=Go.Op.box tS (Operand.tmp 0),type:=t0,pos:= "iter.go:50",after:= #[],guard:=none}).run P w= .ok (.value (.pointer (some ⟨w.heap.size,0,none⟩))) (w.alloc (.cells #[.slice none 0 0] tS)):=by have he:aa.eval (.tmp 0)= .slice none 0 0:=rfl;unfold execOp;simp only[he,Instr.box,newVar,newRow,newObj];rfl
 obtain⟨r,w1,g1,hrun,hA1⟩:=hA0.quiet (P:=P) (h:=true) (o:= {dst:=some 2,op:=Go.Op.box tS (Operand.tmp 0),type:=t0,pos:= "iter.go:50",after:= #[],guard:=none}) (v:= .ptr 0 0) (fx:= .al (.cells [.nilsl])) rfl;rw[hraw]at hrun;cases hrun;refine A7 (some 2) rfl rfl rfl hraw ?_;obtain⟨r,w2,g2,hrun2,hA2⟩:=hA1.quiet (P:=P) (h:=true) (o:= {dst:=some 4,op:=Go.Op.assign (Operand.const (Value.slice none 0 0)),type:=tS,pos:= "iter.go:50",after:= #[],guard:=none}) (v:= .nilsl) (fx:= .pure) rfl;have hraw2:=J7 (P:=P) (ρ:=(aa.put (some 2) (.pointer (some ⟨w.heap.size,0,none⟩))).eval) (o:= {dst:=some 4,op:=Go.Op.assign (Operand.const (Value.slice none 0 0)),type:=tS,pos:= "iter.go:50",after:= #[],guard:=none}) (w:=w.alloc (.cells #[.slice none 0 0] tS)) (.inr rfl);rw[hraw2]at hrun2;cases hrun2;refine A7 (some 4) rfl rfl rfl hraw2 ?_;show Code.wpIn _ _ _ _ _ _ _;refine wpIn_seq (wpIn_seq (wpIn_region ?_));show wpOpsIn _ _ _ _ _ [0] _ _;generalize ha2e:((aa.put (some 2) (.pointer (some ⟨w.heap.size,0,none⟩))).put (some 4) _:Act)=ab at hA2 ⊢;have hb1:ab.eval (.tmp 1)= .func (.func gf) #[] lb:=by rw[← ha2e,eval_put,if_neg (by simp),eval_put,if_neg (by simp)];rfl
 have hbs:ab.tmps.size=13:=by rw[← ha2e,Ar,Ar];rfl
 have hbd:ab.defers= []:=by rw[← ha2e];rfl
 clear ha2e;obtain⟨r,w3,g3,hrun3,hA3⟩:=hA2.quiet (P:=P) (h:=true) (o:= {dst:=some 6,op:=Go.Op.move (Operand.tmp 1),type:=tq,pos:= "iter.go:51",after:= #[],guard:=none}) (v:= .undef) (fx:= .pure) rfl;have hraw3:=J7 (P:=P) (ρ:=ab.eval) (o:= {dst:=some 6,op:=Go.Op.move (Operand.tmp 1),type:=tq,pos:= "iter.go:51",after:= #[],guard:=none}) (w:=w.alloc (.cells #[.slice none 0 0] tS)) (.inl rfl);rw[hraw3]at hrun3;cases hrun3;refine A7 (some 6) rfl rfl rfl hraw3 ?_;show Code.wpIn _ _ _ _ _ _ _;refine wpIn_block ?_;rw[hb1]at hA3 ⊢;generalize hac:(ab.put (some 6) (.func (.func gf) #[] lb):Act)=ac at hA3 ⊢;have hc6:ac.eval (.tmp 6)= .func (.func gf) #[] lb:=by rw[← hac,eval_put,if_pos ⟨rfl,by rw[hbs];omega⟩]
 have hcs:ac.tmps.size=13:=by rw[← hac,Ar,hbs]
 have hcdf:ac.defers= []:=by rw[← hac];exact hbd
 clear hac;generalize hw1:w.alloc (.cells #[.slice none 0 0] tS)=w1 at hA3 ⊢;have hsz1:w1.heap.size=w.heap.size+1:=by rw[← hw1];simp
 have hb01:Below w.heap.size w w1:=by rw[← hw1];exact(Below.refl _ w).alloc (Nat.le_refl _) _
 have hA3':At G00 [] w [] (eR .undef .undef) [.cells [.nilsl]] [] ⟨ac.tmps,[]⟩ w1 g3:=⟨hA3.sim,hA3.step,hA3.free,hA3.env,rfl,hA3.k⟩;let rows:List α→List (List D):=fun pre=>pre.map fun x=>(kd x).cells;have hrl:∀pre:List α,∀r∈rows pre,r.length=sz:=fun pre r hr=>by obtain⟨x,_,rfl⟩:=List.mem_map.1 hr;exact hk x
 let I:List α→World→Prop:=fun pre W=>pre.length≤N∧∃g st Ws sl,At G00 [] w [] (eR .undef .undef) st Ws ⟨ac.tmps,[]⟩ W g∧Mid sz (rows pre) st sl;let I1:List α × α × Act→World→Prop:=fun p W=>p.1.length<N∧∃g st Ws sl d5,At G00 [] w [] (eR d5 (kd p.2.1)) st Ws p.2.2 W g∧Mid sz (rows p.1) st sl∧F8 g (eR .undef .undef) ac.tmps∧((mk=true∧∃idv,d5= .ptr idv 0∧Fp P tk (.ptr idv 0) st=some (kd p.2.1,.rd [idv]))∨(mk=false∧d5=kd p.2.1));have hOI:OwnFrom w1.heap.size I:=fun pre W W' row hI hg hr=>by obtain⟨hl,g,st,Ws,sl,hA,hM⟩:=hI;exact⟨hl,g,st,Ws,sl,hA.own hM.objs hg (fun r e=>⟨by have:=(hr r e).1;omega,(hr r e).2⟩),hM⟩
 have hOI1:OwnFrom w1.heap.size I1:=fun p W W' row hI hg hr=>by obtain⟨hl,g,st,Ws,sl,d5,hA,hM,h1,h2⟩:=hI;exact⟨hl,g,st,Ws,sl,d5,hA.own hM.objs hg (fun r e=>⟨by have:=(hr r e).1;omega,(hr r e).2⟩),hM,h1,h2⟩
 have hIb:∀pre W,I pre W→∀k,k<w.heap.size→W.heap[k]?=w.heap[k]?:=by rintro pre W ⟨_,g,st,Ws,sl,hA,_⟩ k hk;refine hA.step.fr k hk fun id _ ho=>?_;rcases ho with⟨h,_⟩|⟨_,h,_⟩<;>cases h
 refine Ado (α:=α) hc6 eg hseq hb01 rfl I hIb I1 hOI hOI1 ⟨Nat.zero_le _,g3,_,[],.nilsl,hA3',rfl,.inl ⟨rfl,rfl⟩,?_⟩ ?_ ?_ ?_
 ·intro id o ho;cases id with
  |zero=>simp at ho;subst ho;rfl
  |succ j=>simp at ho
 ·
  rintro l pre x W ⟨_,g,st,Ws,sl,hA,hM⟩ hlen;have hact:((#[7].zip #[enc x]).foldl (fun t (p,v)=>t.setIfInBounds p v) ac.tmps:Array Value)=ac.tmps.setIfInBounds 7 (enc x):=by simp
  rw[hact];have hAR:At G00 [] w [] (eR .undef (kd x)) st Ws ((⟨ac.tmps,[]⟩:Act).put (some 7) (enc x)) W g:=⟨hA.sim,hA.step,hA.free,G5 (dst:=some 7) hA.env (hkd x g),rfl,hA.k⟩;have hstart:At g st W [] (eR .undef (kd x)) st [] ((⟨ac.tmps,[]⟩:Act).put (some 7) (enc x)) W g:=At.start hA.sim hAR.env;rcases hcd with⟨rfl,rfl,rfl⟩|⟨rfl,rfl,rfl⟩
  ·refine Uo (C:=C) (h:=true) (fun _=>trivial) (fun i o ho=>?_) (Aq3 hE (hk x) (hok x)) hstart fun a1 W1 g1 h1=>?_
   ·match i with
    |0=>cases ho;exact⟨rfl,rfl⟩
    |1=>cases ho;exact⟨rfl,rfl⟩
    |i+2=>simp[Ajw]at ho
   ·have hl0:0<st.length:=(List.getElem?_eq_some_iff.1 hM.box).1;refine⟨At.others hA.sim hM.objs h1.step,hlen,g1,_,_,sl,_,hAR.then h1,⟨by rw[List.getElem?_append_left hl0];exact hM.box,hM.rows.app _,fun id o ho=>?_⟩,hA.env.mono h1.step.mono,.inl ⟨rfl,st.length,rfl,?_⟩⟩
    ·rw[List.getElem?_append]at ho;split at ho
     ·exact hM.objs id o ho
     ·cases hd:id - st.length with
      |zero=>rw[hd]at ho;simp at ho;subst ho;rfl
      |succ j=>rw[hd]at ho;simp at ho
    ·have hagg:Jg P tk=true:=by cases hmk;assumption
     unfold Fp;dsimp only;rw[List.getElem?_append_right (Nat.le_refl _)];simp only[Nat.sub_self,List.getElem?_cons_zero];unfold Dk;rw[hE.size];dsimp only;rw[if_pos (by simp[hk x,hE.undk])]
     rw[hagg];simp only[if_true,List.drop_zero,Option.map_some];rw[List.take_of_length_le (by rw[hk x];exact Nat.le_refl _),← hform rfl x]
  ·refine Uo (C:=C) (h:=true) (fun _=>trivial) (fun i o ho=>?_) Aqy hstart fun a1 W1 g1 h1=>?_
   ·match i with
    |0=>cases ho;exact⟨rfl,rfl⟩
    |i+1=>simp[Alm]at ho
   ·exact⟨At.others hA.sim hM.objs h1.step,hlen,g1,_,_,sl,_,hAR.then h1,hM,hA.env.mono h1.step.mono,.inr ⟨rfl,rfl⟩⟩
 ·
  rintro l pre x a1 W1 ⟨hlen,g,st,Ws,sl,d5,hA,hM,henv,hd5⟩;refine wpIn_block ?_;have hlen':pre.length<N:=hlen;have hlr:(rows pre).length<2 ^ 19:=by simp only[rows,List.length_map];simp only at hlen;omega
  obtain⟨e',st',V,sl',hrun,hM'⟩:=Aup (t0:=t0) (tq:=tq) (code3:=a3) (d5:=d5) hE hM (hrl pre) hlr (hk x) (hok x) (hkn x) haS (by
   rcases hcd with⟨h1,_,rfl⟩|⟨h1,_,rfl⟩
   ·rcases hd5 with⟨_,h2⟩|⟨h2,_⟩
    ·exact .inl ⟨rfl,h2⟩
    ·rw[h1]at h2;cases h2
   ·rcases hd5 with⟨h2,_⟩|⟨_,h2⟩
    ·rw[h1]at h2;cases h2
    ·exact .inr ⟨rfl,h2⟩)
  have hstart:At g st W1 [] (eR d5 (kd x)) st [] a1 W1 g:=by
   have:=At.start (a:=a1) hA.sim hA.env
   rwa [hA.defers]at this
  have hsz3:a3.size=5:=by rcases hcd with⟨_,_,rfl⟩|⟨_,_,rfl⟩<;>rfl
  refine Uo (C:=C) (h:=true) (fun _=>trivial) (fun i o ho=>?_) (by rw[hsz3];exact hrun) hstart fun a2 W2 g2 h2=>?_
  ·rcases hcd with⟨_,_,rfl⟩|⟨_,_,rfl⟩
   ·match i with
    |0|1|2|3|4=>cases ho;exact⟨rfl,rfl⟩
    |i+5=>simp[Aqd]at ho
   ·match i with
    |0|1|2|3|4=>cases ho;exact⟨rfl,rfl⟩
    |i+5=>simp[Apb]at ho
  ·have h3:=hA.then h2;have h4:At G00 [] w [] (eR .undef .undef) st' _ ⟨ac.tmps,[]⟩ W2 g2:=⟨h3.sim,h3.step,h3.free,henv.mono h2.step.mono,rfl,h3.k⟩;refine⟨rfl,At.others hA.sim hM.objs h2.step,by simp only[List.length_append,List.length_cons,List.length_nil];omega,g2,st',_,sl',h4,by simpa[rows]using hM'⟩
 ·
  rintro D xs W hD hS ⟨_,g,st,Ws,sl,hA,hM⟩ hk4;show Code.wpIn _ _ _ _ _ _ _;have hA4:At G00 [] w ({target:= .collected D,args:= #[]}::ac.defers) (eR .undef .undef) st Ws {ac with defers:= {target:= .collected D,args:= #[]}::ac.defers} W g:=⟨hA.sim,hA.step,hA.free,hA.env,rfl,hA.k⟩;refine wpIn_seq ?_;have hld:Fp P tS (.ptr 0 0) st=some (sl,.rd [0]):=by unfold Fp;dsimp only;rw[hM.box];dsimp only;unfold Dk;rw[hE.sizeS];simp[hE.und,haS]
  have hrun4:Ay C true cf0 false (At9 t0 tS tk tq) #[] [0,1] [] (eR .undef .undef) st []=some (((eR .undef .undef).set 12 sl).set 4 sl,st,[]):=by
   refine Eq.trans (Kv (some 12) rfl rfl rfl rfl (v:=sl) (fx:= .rd [0]) (by exact hld)) ?_
   refine Eq.trans (Kv (some 4) rfl rfl rfl rfl (v:=sl) (fx:= .pure) (by rfl)) ?_
   rfl
  have hstart:At g st W ({target:= .collected D,args:= #[]}::ac.defers) (eR .undef .undef) st [] {ac with defers:= {target:= .collected D,args:= #[]}::ac.defers} W g:=At.start hA4.sim hA4.env;refine Uo (C:=C) (h:=true) (fun _=>trivial) (fun i o ho=>?_) hrun4 hstart fun a5 W5 g5 h5=>?_
  ·match i with
   |0=>cases ho;exact⟨rfl,rfl⟩
   |1=>cases ho;exact⟨rfl,rfl⟩
   |i+2=>simp[At9]at ho
  ·show Code.wpIn _ _ _ _ _ _ _;refine wpIn_ret ?_;show LeavesInM _ _ _ _ _ _ a5.defers _ _;rw[h5.defers,hcdf];have hk5:W5.heap[D]?=some (.deferred (some [])):=(At.others hA4.sim hM.objs h5.step).same D _ hk4 rfl;refine⟨by simp,.inl ⟨D,_,rfl,run_takeDeferred hk5,?_⟩⟩
   refine⟨_,results_tmp hres _ _ _,_,xs,rfl,hS,?_⟩;have h6:=hA4.then h5;have h7:=h6.own (w1:=W5.putObj D (.deferred none)) (row:=some D) hM.objs (grownBy_putObj' W5 D _) (fun r e=>by cases e;exact⟨by omega,_,hk5,rfl⟩)
   exact⟨g5,st,_,sl,h7.sim,h7.step,V4 h7.env (.tmp 4),hM.rows,hM.objs⟩
end
def Jq(rows:List (List D)):St:=match rows with
 | []=> []
 |_=> [.cells rows.flatten]
def Acy(sz id:Nat)(rows:List (List D)):D:=match rows with
 | []=> .nilsl
 |_=> .arr sz id 0 rows.length rows.length
section
variable{n:Nat}{P:Program}{sz:Nat}{w w':World}{g0:G}{st0:St}{v:Value}
theorem Lj.graft{rows:List (List D)}(h:Lj P sz w rows v w')(hs:Co g0 st0 w)(hsc:∀r∈rows,∀d∈r,R3 d=true):
  ∃g',Co g' (st0++Jq rows) w'∧Step g0 st0 w [] g' (st0++Jq rows) w'∧Dx g0 st0 g'∧VR g' (Acy sz st0.length rows) v:=by
 obtain⟨g,st,Ws,sl,h1,h2,h3,h4,h5⟩:=h;have hno:∀id b,¬ Own G00 [] id b:=by rintro id b (⟨h,_⟩|⟨k,h,_⟩)<;>cases h
 have hold:∀b,b<w.heap.size→w'.heap[b]?=w.heap[b]?:=fun b hb=>h2.fr b hb fun id _=>hno id b;rcases h4 with⟨rfl,rfl⟩|⟨hne,id,hid,rfl,hst⟩
 ·obtain⟨h6,h7⟩:=hs.still h2.size hold h2.os h2.out;refine⟨g0,by simpa[Jq]using h6,by simpa[Jq]using h7,Dx.refl _ _,?_⟩
  cases h3;exact .nilsl
 ·cases h3 with
  |arr hl hc1 hc2 hc3=>
  rename_i cap' c;obtain⟨o,ho,hr⟩:=h1.obj _ _ hl;rw[hst]at ho;cases ho;obtain⟨A,T,fr,hr⟩:=hr;have hcn:w.heap.size≤c:=by
   rcases Nat.lt_or_ge c w.heap.size with hlt|hge
   ·rcases h2.own id c (.inl ⟨hl,_,hst,rfl⟩) hlt with h|⟨_,_,h⟩
    ·exact(hno _ _ h).elim
    ·exact(hno _ _ h).elim
   ·exact hge
  have hro:Jq rows= [.cells rows.flatten]:=by
   unfold Jq;split
   ·exact(hne rfl).elim
   ·rfl
  have hrd:Acy sz st0.length rows= .arr sz st0.length 0 rows.length rows.length:=by
   unfold Acy;split
   ·exact(hne rfl).elim
   ·rfl
  rw[hro,hrd];have hfree:g0.loc st0.length=none∧g0.tk st0.length=none:=by
   constructor
   ·cases hl:g0.loc st0.length with
    |none=>rfl
    |some c=>exact absurd (hs.loc_lt hl) (by omega)
   ·cases hl:g0.tk st0.length with
    |none=>rfl
    |some c=>exact absurd (hs.tk_lt hl) (by omega)
  have hm:Gd g0 (g0.addLoc st0.length c (g.bs c)):=by
   refine⟨fun i b h=>⟨?_,?_⟩,fun _ _ _ h=>h,fun _ k h=>⟨k,h,Nat.le_refl _,fun _=>rfl⟩,rfl⟩
   ·have:=hs.loc_lt h;simp[G.addLoc,upd_ne (show i≠st0.length by omega),h]
   ·have:=hs.blk _ _ h;simp only[G.addLoc];rw[upd_ne (by omega)]
  have hscal:∀d∈rows.flatten,R3 d=true:=fun d hd=>by obtain⟨r,hr,hd⟩:=List.mem_flatten.1 hd;exact hsc r hr d hd
  have hobj:Ri (g0.addLoc st0.length c (g.bs c)) (.cells rows.flatten) c w':=by
   refine⟨A,T,fr,hr.heap,by simp[G.addLoc,Bv,hr.size],hr.fr,hr.len,fun j d u hj hu=>Xg (hr.at_ j d u hj hu) (hscal d (List.mem_of_getElem? hj)),fun o=>?_⟩
   exact Q6 hs c o hcn
  obtain⟨h6,h7⟩:=hs.grow (g':=g0.addLoc st0.length c (g.bs c)) (st':=st0++ [.cells rows.flatten]) hm h2.size hold
   (fun id o h=>by rw[List.getElem?_append_left (List.getElem?_eq_some_iff.1 h).1];exact h) (fun _ _ _ h=> .inl h)
   (fun i b h=>by
    by_cases hi:i=st0.length
    ·subst hi;simp only[G.addLoc,Bv]at h;cases h;exact .inr ⟨hcn,h1.blk _ _ hl,_,by simp,hobj⟩
    ·simp only[G.addLoc,upd_ne hi]at h;exact .inl h) (fun _ _ h=> .inl h)
   (by
    have key:∀i b,w.heap.size≤b→Own (g0.addLoc st0.length c (g.bs c)) (st0++ [.cells rows.flatten]) i b→i=st0.length:=by
     rintro i b hb (⟨h,_⟩|⟨k,h,rfl⟩)
     ·by_cases hi:i=st0.length
      ·exact hi
      ·simp only[G.addLoc,upd_ne hi]at h;exact absurd (hs.blk _ _ h) (by omega)
     ·obtain⟨_,A,T,fr,hk⟩:=hs.tok _ _ h;exact absurd (lt_of_heap hk.heap) (by omega)
    intro i i' b hb h h';rw[key i b hb h,key i' b hb h']) h2.os h2.out
  refine⟨_,h6,h7,fun i hi p q=>⟨by simp[G.addLoc,upd_ne (show i≠st0.length by omega),p],q⟩,?_⟩
  exact .arr (by simp[G.addLoc,Bv]) hc1 hc2 (by simpa[G.addLoc,Bv]using hc3)
end
section
variable{n:Nat}{P:Program}{ops:Array Oper}{Q:Exit→Act→World→Prop}{rest:List Nat}{i:Nat}{o:Oper}{a:Act}{w w':World}{r:Value}
theorem Anr(d:Option Tmp)(ho:ops[i]?=some o)(hd:o.dst=d)(hg:o.guard=none){f:FuncId}{args:Array Value}(hr:(execOp a.eval o).run P w= .ok (.enter f args) w')
  {R:Ending→World→Prop}(hR:CallsIn Fence.wide (n - 1) P f args w' R)(hret:∀e w'',R e w''→∃v,e= .returned v∧wpOpsIn Fence.wide n P ops Q rest (a.put d v) w''):
  wpOpsIn Fence.wide n P ops Q (i::rest) a w:=by
 subst hd;unfold wpOpsIn;rw[ho];dsimp only;rw[show Region.wanted o (yielded ops a.tmps)=true from by simp[Region.wanted,hg]]
 simp only[if_true];refine⟨fun _ _=>trivial,?_⟩;show Oper.uponIn _ _ _ _ _ _ _ ((execOp a.eval o).run P w);rw[hr];refine⟨fun h=>absurd h (by simp[Fence.wide]),hR.mono ?_⟩
 intro e w'' he;obtain⟨v,rfl,h⟩:=hret e w'' he;exact h
theorem A0g{ρ:Operand→Value}{f:FuncId}{xs:Array Operand}{ts:Array TypeId}(ho:o.op= .call {callee:= .value (.func f),args:=xs,argTypes:=ts})(hρ:ρ (.func f)= .func (.func f) #[] #[])
  (eg:∀args w,(callFunc f args).run P w= .ok (.enter f args) w):(execOp ρ o).run P w= .ok (.enter f (xs.map ρ)) w:=by
 unfold execOp;rw[ho];simp[resolve,hρ,Deferred.ofValue,invoke,eg]
def Amb(tS tq:TypeId)(fa:FuncId):Array Oper:=
 #[{dst:=some 3,op:=Go.Op.move (Operand.tmp 0),type:=tq,pos:= "iter.go:60",after:= #[],guard:=none},{dst:=some 4,op:=Go.Op.call {callee:=Callee.value (Operand.func fa),args:= #[Operand.const (Value.slice none 0 0),Operand.tmp 3],argTypes:= #[tS,tq]},type:=tS,pos:= "iter.go:60",after:= #[{on:=0,ground:=Ground.data}],guard:=none},{dst:=some 2,op:=Go.Op.assign (Operand.tmp 4),type:=tS,pos:= "iter.go:60",after:= #[{on:=1,ground:=Ground.data},{on:=1,ground:=Ground.chain},{on:=0,ground:=Ground.phase},{on:=1,ground:=Ground.phase}],guard:=none}]
def Ta(tS tq:TypeId)(fa:FuncId):Code:=
 (Code.region 0 #[{dst:=some 2,op:=Go.Op.assign (Operand.const (Value.slice none 0 0)),type:=tS,pos:= "iter.go:59",after:= #[],guard:=none}] false).seq
  ((Code.region 1 (Amb tS tq fa) false).seq Code.ret)
theorem U6{f fa:FuncId}{fn:Func}{tS tq:TypeId}(hf:P.funcs[f]?=some fn)(hb:fn.body=some (Ta tS tq fa))(hn:fn.ntmps=5)(hres:fn.results= #[.tmp 2])
  (eg:∀args w,(callFunc fa args).run P w= .ok (.enter fa args) w){v0:Value}{R:Ending→World→Prop}(hR:CallsIn Fence.wide (n - 1) P fa #[.slice none 0 0,v0] w R)(hret:∀e w',R e w'→∃v,e= .returned v):
  CallsIn Fence.wide n P f #[v0] w R:=by
 refine callsIn_of_wp hf hb trivial ?_;rw[hn];generalize ha0:(#[v0]++Array.replicate (5 - (#[v0]:Array Value).size) undef:Array Value)=T;have hT:T.size=5:=by rw[← ha0];rfl
 have hT0:({tmps:=T,defers:= []}:Act).eval (.tmp 0)=v0:=by rw[← ha0];rfl
 clear ha0;refine wpIn_seq (wpIn_region ?_);show wpOpsIn _ _ _ _ _ [0] _ _;refine A7 (some 2) rfl rfl rfl (J7 (.inr rfl)) ?_;show Code.wpIn _ _ _ _ _ _ _;refine wpIn_seq (wpIn_region ?_);show wpOpsIn _ _ _ _ _ [0,1,2] _ _;refine A7 (some 3) rfl rfl rfl (J7 (.inl rfl)) ?_;have h3:(((({tmps:=T,defers:= []}:Act).put (some 2) (({tmps:=T,defers:= []}:Act).eval (.const (.slice none 0 0)))).put (some 3) ((({tmps:=T,defers:= []}:Act).put (some 2) (({tmps:=T,defers:= []}:Act).eval (.const (.slice none 0 0)))).eval (.tmp 0)))).eval (.tmp 3)=v0:=by rw[eval_put,if_pos ⟨rfl,by rw[Ar,hT];omega⟩,eval_put,if_neg (by simp),hT0]
 generalize ha3:((({tmps:=T,defers:= []}:Act).put (some 2) (({tmps:=T,defers:= []}:Act).eval (.const (.slice none 0 0)))).put (some 3) ((({tmps:=T,defers:= []}:Act).put (some 2) (({tmps:=T,defers:= []}:Act).eval (.const (.slice none 0 0)))).eval (.tmp 0)))=a3 at h3 ⊢;have hs3:a3.tmps.size=5:=by rw[← ha3,Ar,Ar,hT]
 have hd3:a3.defers= []:=by rw[← ha3];rfl
 clear ha3;refine Anr (some 4) rfl rfl rfl (A0g rfl rfl eg) (R:=R) ?_ fun e w' he=>?_
 ·simp only[List.map_toArray,MC,h3];exact hR
 ·obtain⟨v,rfl⟩:=hret e w' he;refine⟨v,rfl,A7 (some 2) rfl rfl rfl (J7 (.inr rfl)) ?_⟩;have h4:(a3.put (some 4) v).eval (.tmp 4)=v:=by rw[eval_put,if_pos ⟨rfl,by rw[hs3];omega⟩]
  rw[h4];show Code.wpIn _ _ _ _ _ _ _;refine wpIn_ret ⟨hd3,_,results_tmp hres _ _ _,?_⟩;have h5:(((a3.put (some 4) v).put (some 2) v).tmps.getD 2 undef)=v:=by
   have:((a3.put (some 4) v).put (some 2) v).eval (.tmp 2)=v:=by rw[eval_put,if_pos ⟨rfl,by rw[Ar,hs3];omega⟩]
   exact this
  rw[h5];exact he
end
end Go.Vam
namespace Go.Vam
theorem Qd{C:Eo}{nat:FuncId→Option Bz}{N n:Nat}{f:FuncId}{args:List D}{st:St}(h:nat f=none):Ii C nat N (n+1) f args st=run C (Ii C nat N n) N f args st:=by
 show(match nat f with|some g=>g (Ii C nat N n) args st|none=>run C (Ii C nat N n) N f args st)=_
 rw[h]
theorem Rm{n0:Nat}{v:D}{st:St}{W:Cb}(h1:D8 n0 v=false)(h2:W.filter (· <n0)= []):finish n0 v st W=some (v,st.take n0,[]):=by unfold finish;simp[h1,h2]
theorem Ale{st:St}:Cw st []=some ([],st):=rfl
theorem Ag6{st st1 st2:St}{d d':D}{l l':List D}(h1:Sl Gu st d=some (d',st1))(h2:Cw st1 l=some (l',st2)):Cw st (d::l)=some (d'::l',st2):=by unfold Cw at h2 ⊢;rw[Eu,h1];dsimp only;rw[h2]
def fz:D→Option D
 | .sl rows _=>some (.sl rows .none)
 | .nilsl=>some (.sl [] .none)
 | .agg _| .arr .. =>none
 |d=>some d
theorem Atx{d d':D}(h:fz d=some d')(st:St):Sl Gu st d=some (d',st):=by cases d<;>first|(cases h;rfl)|(cases h)
theorem Adq{st:St}{d d':D}{l:List D}(h:fz d=some d'):Cw st (d::l)=(Cw st l).map fun p=>(d'::p.1,p.2):=by
 cases hl:Cw st l with
 |some p=>exact Ag6 (Atx h st) hl
 |none=>unfold Cw at hl ⊢;rw[Eu,Atx h st];dsimp only;rw[hl];rfl
theorem Am5{st:St}{rows:List (List D)}{gr:Gr}{l:List D}:Cw st (.sl rows gr::l)=(Cw st l).map fun p=>(.sl rows .none::p.1,p.2):=Adq rfl
end Go.Vam
namespace Go.Vam
open Go.RowKit
section
variable{α:Type}[Inhabited α]{enc:α→Value}{w:World}{g:G}{st:St}{id c off n:Nat}{cs vs:List D}{d:Array α}
theorem Y6{A:Array Value}(k:Nat):(Go.Sort.putCells enc off d A)[k]?=A[k]?.map fun x=>if off≤k∧k<off+d.size then enc d[k - off]! else x:=by unfold Go.Sort.putCells;rw[Array.getElem?_mapIdx]
theorem Ag2(hs:Co g st w)(hl:g.loc id=some c)(h0:st[id]?=some (.cells cs))(hle:off+d.size≤cs.length)
  (hx:∀(j:Nat) (x:D) (v:Value),j<d.size→cs[off+j]?=some x→VR g x v→v=enc d[j]!):Go.Sort.Holds enc w c off d:=by
 obtain⟨o,ho,hr⟩:=hs.obj _ _ hl;rw[h0]at ho;cases ho;obtain⟨A,T,fr,hr⟩:=hr;have:=hr.len;intro j hj;have h1:off+j<A.size:=by omega
 have h2:off+j<cs.length:=by omega
 have hv:=hr.at_ (off+j) _ _ (List.getElem?_eq_getElem h2) (Array.getElem?_eq_getElem h1);have e:=hx j _ _ hj (List.getElem?_eq_getElem h2) hv;constructor
 ·simp only[World.cell?,hr.heap];rw[Array.getElem?_eq_getElem h1,e];rfl
 ·have h3:=hr.fr (off+j) h1;simp only[World.frozen?,hr.heap];rw[Bool.and_eq_false_iff];simp only[decide_eq_false_iff_not];by_cases h4:fr.1≤off+j
  ·right;intro h5;exact h3 ⟨h4,h5⟩
  ·left;exact h4
theorem Apn(hs:Co g st w)(hl:g.loc id=some c)(h0:st[id]?=some (.cells cs))(hle:off+d.size≤cs.length)(hn:vs.length=d.size)
  (hv:∀(j:Nat) (x:D),vs[j]?=some x→VR g x (enc d[j]!))(os:Array Go.Obj):
  let w':=Go.Sort.grow (Go.Sort.putRow enc (Go.Sort.ahead w n) c off d) os;let st':=st.set id (.cells (cs.take off++vs++cs.drop (off+vs.length)))
  Co g st' w'∧Step g st w [id] g st' w':=by
 intro w' st';obtain⟨o,ho,hr⟩:=hs.obj _ _ hl;rw[h0]at ho;cases ho;obtain⟨A,T,fr,hr⟩:=hr;have hlen:=hr.len;have hsb:Alc w (Go.Sort.putRow enc (Go.Sort.ahead w n) c off d) c (.cells (Go.Sort.putCells enc off d A) T fr):=by
  refine⟨?_,rfl,rfl⟩;unfold Go.Sort.putRow Go.Sort.mapBlock Go.Sort.ahead;apply Array.ext_getElem?;intro k;rw[Array.getElem?_modify,Array.getElem?_setIfInBounds];by_cases hk:c=k
  ·subst hk;have hlt:=lt_of_heap hr.heap;have hh:w.heap[c]?=_:=hr.heap;simp only[if_true,hlt,hh,Option.map_some,Go.Sort.onCells]
  ·simp[hk]
 have hsz:(Go.Sort.putCells enc off d A).size=A.size:=by simp[Go.Sort.putCells]
 obtain⟨h1,h2⟩:=hs.setObj (o:= .cells (cs.take off++vs++cs.drop (off+vs.length))) hl h0 rfl rfl hsb (fun hh=>by
  refine⟨_,T,fr,hh,hsz.trans hr.size,by rw[hsz];exact hr.fr,?_,?_,hr.own⟩
  ·rw[hsz];simp;omega
  ·intro j x v hj hv';rw[Y6]at hv';rw[List.getElem?_append,List.getElem?_append]at hj;have ht:(cs.take off).length=off:=by simp;omega
   have htv:(cs.take off++vs).length=off+vs.length:=by simp;omega
   rw[htv,ht]at hj;cases hA:A[j]? with
   |none=>rw[hA]at hv';cases hv'
   |some u=>
    rw[hA]at hv';simp only[Option.map_some,Option.some.injEq]at hv';by_cases h5:j<off
    ·rw[if_pos (by omega),if_pos h5]at hj
     rw[if_neg (by omega)]at hv'
     subst hv';rw[List.getElem?_take,if_pos h5]at hj;exact hr.at_ j x _ hj hA
    ·by_cases h6:j<off+vs.length
     ·rw[if_pos h6,if_neg h5]at hj;rw[if_pos ⟨by omega,by omega⟩]at hv'
      subst hv';exact hv _ _ hj
     ·rw[if_neg h6]at hj;rw[if_neg (by omega)]at hv'
      subst hv';rw[List.getElem?_drop]at hj;exact hr.at_ j x _ (by rw[← hj];congr 1;omega) hA) hr.own
 obtain⟨h3,h4⟩:=h1.still (w':=w') (by show _≤(_++os).size;simp) (fun b hb=>by show((Go.Sort.putRow enc (Go.Sort.ahead w n) c off d).heap++os)[b]?=_;rw[Array.getElem?_append_left hb]) rfl rfl
 have:=h2.trans h4;exact⟨h3,this⟩
end
end Go.Vam
namespace Go.Vam
def J5:List UInt8→List UInt8→Bool
 | [],_=>true
 |_::_,[]=>false
 |a::x,b::y=>Nat.blt a.toNat b.toNat || (Nat.beq a.toNat b.toNat && J5 x y)
theorem Uh:∀(a b:List UInt8),J5 a b=true↔a≤b
 | [],b=>by simp[J5]
 |a::x,[]=>by simp[J5]
 |a::x,b::y=>by
  have ih:=Uh x y;rw[List.cons_le_cons_iff,J5,Bool.or_eq_true,Bool.and_eq_true,ih];have e1:Nat.blt a.toNat b.toNat=true↔a<b:=by rw[Nat.blt_eq];exact UInt8.lt_iff_toNat_lt.symm
  have e2:Nat.beq a.toNat b.toNat=true↔a=b:=by rw[Nat.beq_eq];exact UInt8.toNat_inj
  rw[e1,e2]
def Al3{α:Type}(le:α→α→Bool)(x:α):List α→List α
 | []=> [x]
 |y::l=>if le x y then x::y::l else y::Al3 le x l
def Cq{α:Type}(le:α→α→Bool):List α→List α
 | []=> []
 |x::l=>Al3 le x (Cq le l)
section
variable{α:Type}{le:α→α→Bool}
theorem Y2(x:α):∀l:List α,(Al3 le x l).Perm (x::l)
 | []=>List.Perm.refl _
 |y::l=>by
  unfold Al3;split
  ·exact List.Perm.refl _
  ·exact((Y2 x l).cons y).trans (List.Perm.swap x y l)
theorem J8:∀l:List α,(Cq le l).Perm l
 | []=>List.Perm.refl _
 |x::l=>(Y2 x _).trans ((J8 l).cons x)
theorem Zw(htr:∀a b c,le a b=true→le b c=true→le a c=true)(htot:∀a b,(le a b || le b a)=true)(x:α):
  ∀l:List α,l.Pairwise (fun a b=>le a b=true)→(Al3 le x l).Pairwise (fun a b=>le a b=true)
 | [],_=>by simp[Al3]
 |y::l,h=>by
  unfold Al3;split
  ·rename_i hxy;refine List.pairwise_cons.2 ⟨fun z hz=>?_,h⟩;rcases List.mem_cons.1 hz with rfl|hz
   ·exact hxy
   ·exact htr _ _ _ hxy ((List.pairwise_cons.1 h).1 z hz)
  ·rename_i hxy;obtain⟨h1,h2⟩:=List.pairwise_cons.1 h;refine List.pairwise_cons.2 ⟨fun z hz=>?_,Zw htr htot x l h2⟩;rcases List.mem_cons.1 ((Y2 x l).mem_iff.1 hz)with rfl|hz
   ·have:=htot z y;simp only[Bool.or_eq_true]at this;rcases this with h|h
    ·exact absurd h hxy
    ·exact h
   ·exact h1 z hz
theorem Mi(htr:∀a b c,le a b=true→le b c=true→le a c=true)(htot:∀a b,(le a b || le b a)=true):
  ∀l:List α,(Cq le l).Pairwise (fun a b=>le a b=true)
 | []=>List.Pairwise.nil
 |x::l=>Zw htr htot x _ (Mi htr htot l)
theorem Ty(htr:∀a b c,le a b=true→le b c=true→le a c=true)(htot:∀a b,(le a b || le b a)=true)(has:∀a b,le a b=true→le b a=true→a=b)
  {l1 l2:List α}(hs:l1.Pairwise (fun a b=>le a b=true))(hp:l1.Perm l2):l1=Cq le l2:=
 List.Perm.eq_of_pairwise (fun a b _ _ h1 h2=>has a b h1 h2) hs (Mi htr htot l2) (hp.trans (J8 l2).symm)
end
theorem Pn(a b c:List UInt8)(h1:J5 a b=true)(h2:J5 b c=true):J5 a c=true:=by rw[Uh]at*;exact List.le_trans h1 h2
theorem M3(a b:List UInt8):(J5 a b || J5 b a)=true:=by rw[Bool.or_eq_true,Uh,Uh];exact List.le_total a b
theorem Mf(a b:List UInt8)(h1:J5 a b=true)(h2:J5 b a=true):a=b:=by rw[Uh]at*;exact List.le_antisymm h1 h2
theorem Aey{l1 l2:List (List UInt8)}(hp:l1.Perm l2):(l1.mergeSort fun x y=>decide (x≤y))=Cq J5 l2:=by
 have e:(fun x y:List UInt8=>decide (x≤y))=J5:=by funext x y;rw[Bool.eq_iff_iff,decide_eq_true_iff,Uh]
 rw[e];exact Ty Pn M3 Mf (List.pairwise_mergeSort Pn M3 l1) ((List.mergeSort_perm l1 J5).trans hp)
end Go.Vam
namespace Go.Vam
open Go.Proofs Go.Sort
def Al2(a b:List UInt8):Int:=if Op.bytesLess a b then -1 else if a == b then 0 else 1
def Lg(x y:Bool × List UInt8):Int:=if x.1 && !y.1 then 1 else if y.1 && !x.1 then -1 else Al2 x.2 y.2
def Rk(x y:Bool × List UInt8):Bool:=(!x.1 && y.1) || (x.1 == y.1 && J5 x.2 y.2)
theorem Akg:∀a b:List UInt8,Op.bytesLess a b=!J5 b a
 |a,[]=>by cases a<;>rfl
 | [],b::y=>rfl
 |a::x,b::y=>by
  have ih:=Akg x y;have e1:Nat.blt b.toNat a.toNat=decide (b<a):=by rw[Bool.eq_iff_iff,Nat.blt_eq,decide_eq_true_iff];exact UInt8.lt_iff_toNat_lt.symm
  have e2:Nat.beq b.toNat a.toNat=decide (a=b):=by rw[Bool.eq_iff_iff,Nat.beq_eq,decide_eq_true_iff,UInt8.toNat_inj];exact eq_comm
  rw[Op.bytesLess,J5,ih,e1,e2];by_cases h1:a<b
  ·have h2:¬ b<a:=by have:=UInt8.lt_iff_toNat_lt.1 h1;rw[UInt8.lt_iff_toNat_lt];omega
   have h3:¬ a=b:=by rintro rfl;exact h2 h1
   simp[h1,h2,h3]
  ·by_cases h3:a=b
   ·subst h3;simp[h1]
   ·have h2:b<a:=by
     rw[UInt8.lt_iff_toNat_lt]at h1 ⊢;have:a.toNat≠b.toNat:=fun h=>h3 (UInt8.toNat_inj.1 h);omega
    simp[h1,h2,h3]
theorem A2o(a b:List UInt8):decide (Al2 a b<0)=!J5 b a:=by
 rw[← Akg];unfold Al2;cases h:Op.bytesLess a b with
 |true=>simp
 |false=>cases h2:a == b<;>simp
theorem Abx(x y:Bool × List UInt8):ltOf Lg x y=!Rk y x:=by obtain⟨xb,xs⟩:=x;obtain⟨yb,ys⟩:=y;unfold ltOf Lg Rk;have:=A2o xs ys;cases xb<;>cases yb<;>simp_all
theorem Kh(x y:Bool × List UInt8):(Rk x y || Rk y x)=true:=by obtain⟨xb,xs⟩:=x;obtain⟨yb,ys⟩:=y;have:=M3 xs ys;unfold Rk;cases xb<;>cases yb<;>simp_all
theorem Mr(x y z:Bool × List UInt8)(h1:Rk x y=true)(h2:Rk y z=true):Rk x z=true:=by obtain⟨xb,xs⟩:=x;obtain⟨yb,ys⟩:=y;obtain⟨zb,zs⟩:=z;have:=Pn xs ys zs;unfold Rk at*;cases xb<;>cases yb<;>cases zb<;>simp_all
theorem Qj(x y:Bool × List UInt8)(h1:Rk x y=true)(h2:Rk y x=true):x=y:=by obtain⟨xb,xs⟩:=x;obtain⟨yb,ys⟩:=y;have:=Mf xs ys;unfold Rk at*;cases xb<;>cases yb<;>simp_all
theorem Bgv:SWO (ltOf Lg):= {
 irrefl x:=by rw[Abx];have:=Kh x x;simpa using this
 trans x y z h1 h2:=by
  rw[Abx]at*;have h3:=Kh x y;have h4:=Kh y z;cases h:Rk z x with
  |false=>rfl
  |true=>
   have hxy:Rk x y=true:=by simp_all
   have:=Mr z x y h hxy
   simp_all
 ntrans x y z h1 h2:=by
  rw[Abx]at*;have:=Mr z y x (by simpa using h2) (by simpa using h1)
  simp[this]}
theorem Bfo(x y:Bool × List UInt8)(h1:ltOf Lg x y=false)(h2:ltOf Lg y x=false):x=y:=by rw[Abx]at*;exact Qj x y (by simpa using h2) (by simpa using h1)
theorem Afb{l1 l2:List (Bool × List UInt8)}(hp:l1.Perm l2):(l1.mergeSort fun x y=>!(ltOf Lg) y x)=Cq Rk l2:=by
 have e:(fun x y:Bool × List UInt8=>!(ltOf Lg) y x)=Rk:=by funext x y;rw[Abx,Bool.not_not]
 rw[e];exact Ty Mr Kh Qj (List.pairwise_mergeSort Mr Kh l1) ((List.mergeSort_perm l1 Rk).trans hp)
end Go.Vam
