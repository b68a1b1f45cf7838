/-
  CacheOwn's function answers true.
-/
import Derived.Test.YtanifnfklgldpaaGreatDoorVcb
import Derived.ChangeArms
import Derived.DataReads
set_option linter.unusedSimpArgs false
set_option linter.unusedVariables false
set_option linter.unusedSectionVars false
set_option maxRecDepth 1000000
namespace Go.Vam
open Go.Proofs
section
variable{cf:Ah}{N:Nat}(hK:∀f,Ba (cf f))
include hK
def Cbp(x:Int):Nat:=min x.toNat 200
end
inductive B5z(S:St):D→List (List D)→List Nat→Prop
 |nil:B5z S .nilsl [] []
 |row {t g:Nat} {rows:List (List D)} (h:S[t]?=some (.tok g)) (h0:rows≠ []):B5z S (.sl rows (.tok t g)) rows [t]
section
variable{S S':St}{d:D}{rows:List (List D)}{ids:List Nat}
theorem B5z.fr(h:B5z S d rows ids)(hf:∀i∈ids,S'[i]?=S[i]?):B5z S' d rows ids:=by
 cases h with
 |nil=>exact .nil
 |row h h0=>exact .row (by rw[hf _ (by simp)];exact h) h0
theorem B5z.lt(h:B5z S d rows ids):∀i∈ids,i<S.length:=by
 cases h with
 |nil=>simp
 |row h h0=>simpa using(List.getElem?_eq_some_iff.1 h).1
theorem B5z.low(h:B5z S d rows ids){n:Nat}(hr:Gt n rows=false)(hi:∀i∈ids,i<n):D8 n d=false:=by
 cases h with
 |nil=>rfl
 |row h h0=>have:=hi _ (List.mem_singleton_self _);simp only[D8,hr,Bool.or_false,decide_eq_false_iff_not];omega
theorem B5z.ref(h:B5z S d rows ids){n:Nat}(hr:D8 n d=false):∀i∈ids,i<n:=by
 cases h with
 |nil=>simp
 |row h h0=>
  simp only[D8,Bool.or_eq_false_iff,decide_eq_false_iff_not]at hr;intro i hi;obtain rfl:i=_:=by simpa using hi
  omega
theorem B5z.cells(h:B5z S d rows ids)(n:Nat):∀i∈ids,∀o,S[i]?=some o→Zl n o=false:=by
 cases h with
 |nil=>simp
 |row h h0=>
  intro i hi o ho;obtain rfl:i=_:=by simpa using hi
  rw[h]at ho;cases ho;rfl
theorem B5z.tok(h:B5z S d rows ids):∀i∈ids,∃g,S[i]?=some (.tok g):=by
 cases h with
 |nil=>simp
 |row h h0=>
  intro i hi;obtain rfl:i=_:=by simpa using hi
  exact⟨_,h⟩
theorem B5z.len{P:Program}{t e:TypeId}(h:B5z S d rows ids)(hu:P.underlying t=some (.slice e))(T:St):Ny P t d T=some (.int .i64 (rows.length:Int),.pure):=by
 unfold Ny;rw[hu];cases h with
 |nil=>rfl
 |row=>rfl
theorem B5z.at_{P:Program}{t e:TypeId}{sz i:Nat}{r:List D}(h:B5z S d rows ids)(hu:P.underlying t=some (.slice e))(hs:Bw P e=some sz)(hr:rows[i]?=some r)(hl:r.length=sz):Cf P t d (.int .i64 (i:Int))=some (.eptr r,.pure):=by
 unfold Cf;rw[show E5 (.int .i64 (i:Int))=some i from by simp[E5]]
 dsimp only;rw[hu];cases h with
 |nil=>cases hr
 |row=>simp[hr,hs,hl]
theorem B5z.one(h:B5z S d rows ids):d.cells= [d]∧Al d=true:=by
 cases h with
 |nil=>exact⟨rfl,rfl⟩
 |row=>exact⟨rfl,rfl⟩
end
end Go.Vam
namespace Go.Vam
open Go.Proofs Go.Proofs.Tryz
def Cgn(v:Vl):Vl:=(v.1,if v.1 then v.2 else[])
def Cf7(vs:List Vl):List Vl:=(vs.take 10).map Cgn
theorem zs4:Bw prog 4=some 1:=by kernel_rfl
theorem zu4:(prog.underlying 4).isSome=true:=by kernel_rfl
theorem za4:Jg prog 4=false:=by kernel_rfl
theorem Co2:(prog.underlying 29).isSome=true:=by kernel_rfl
theorem Co0:Jg prog 29=true:=by kernel_rfl
theorem Cl1(b:Nat):Eh prog 29 (.ptr b 0) 0=some (.ptr b 0,.pure):=by kernel_rfl
theorem Cl5(b:Nat):Eh prog 29 (.ptr b 0) 1=some (.ptr b 1,.pure):=by kernel_rfl
theorem Bze(a b:D)(S:St):Fp prog 29 (.eptr [a,b]) S=some (.agg [a,b],.pure):=by
 unfold Fp;dsimp only;rw[B4e Chu Co2 Co0 (by simp)]
 rfl
theorem Cm0{S:St}{p:Nat}{a b:D}(h:S[p]?=some (.cells [a,b])):Fp prog 29 (.ptr p 0) S=some (.agg [a,b],.rd [p]):=by
 rw[ldp h,B4e Chu Co2 Co0 (by simp)]
 rfl
theorem Cqq{S:St}{p:Nat}{a b c d:D}(h:S[p]?=some (.cells [a,b]))(hc:Al c=true)(hd:Al d=true):I4 prog 29 (.ptr p 0) (.agg [c,d]) S=some (.undef,S.set p (.cells [c,d]),[p]):=by unfold I4;simp only[h,Chu,D.cells];simp[hc,hd]
theorem Cls{vs:List Vl}{v:Vl}{i:Nat}(h:vs[i]?=some v):Cf prog 22 (.sl (Bow vs) .none) (.int .i64 (i:Int))=some (.eptr [.bool v.1,.str v.2],.pure):=by
 unfold Cf;rw[show E5 (.int .i64 (i:Int))=some i from by simp[E5]]
 dsimp only;rw[underlying22];dsimp only;rw[show(Bow vs)[i]?=some (Cdo v)from by unfold Bow;rw[List.getElem?_map,h];rfl]
 simp[Cdo,Chu]
theorem Cm2(a b:D)(ha:a.known=true):I8 (fun i=>some (i*2,2)) (J2 [D.bool false,D.str []] 1) [(0,.agg [a,b])]=some [a,b]:=rfl
theorem Cm3{S:St}(o x:Obj):(S++ [o]).set S.length x=S++ [x]:=set1 S o x
section
variable{cf:Ah}{N:Nat}(hK:∀f,Ba (cf f))
include hK
end
end Go.Vam
namespace Go.Vam
open Go.Proofs
theorem Ci7{k:Tx}{v:List Vl}:∀{l:List (Tx × List Vl)},B16 k l=some v→∃e∈l,e.2=v
 | [],h=>by cases h
 |e::l,h=>by
  unfold B16 at h;split at h
  ·exact⟨e,by simp,Option.some.inj h⟩
  ·obtain⟨e',h1,h2⟩:=Ci7 h;exact⟨e',by simp[h1],h2⟩
section
variable{cf:Ah}{N:Nat}(hK:∀f,Ba (cf f))
include hK
end
section
variable{cf:Ah}{N:Nat}(hK:∀f,Ba (cf f))
include hK
end
end Go.Vam
namespace Go.Vam
open Go.Proofs Go.Proofs.Tryz
def B82(b c:Bool):Option Bool:=match b with
 |true=>match c with
  |true=>some true
  |false=>some false
 |false=>some false
theorem B6p{b c:Bool}:B82 b c=some (b && c):=by cases b<;>cases c<;>rfl
theorem Co6(a b:Bool)(s t:Tx):eqD prog 29 (.agg [.bool a,.str s]) (.agg [.bool b,.str t])=B82 (a == b) (s == t):=by kernel_rfl
theorem Cqd(a b:Vl):Bo prog .neq 29 (.agg [.bool a.1,.str a.2]) (.agg [.bool b.1,.str b.2])=some (.bool (!decide (a=b))):=by
 have h:decide (a=b)=(a.1 == b.1 && a.2 == b.2):=by rw[Bool.eq_iff_iff];simp[Prod.ext_iff]
 simp only[Bo,Co6,B6p,Option.map_some,h]
theorem Cij{a b:List Vl}{i:Nat}{x y:Vl}(h:a.take i=b.take i)(hx:a[i]?=some x)(hy:b[i]?=some y):a.take (i+1)=b.take (i+1)↔x=y:=by
 rw[List.take_add_one,List.take_add_one,hx,hy,h];constructor
 ·intro h;have:=List.append_cancel_left h;simpa using this
 ·rintro rfl;rfl
section
variable{cf:Ah}{N:Nat}(hK:∀f,Ba (cf f))
include hK
end
end Go.Vam
namespace Go.Vam
open Go.Proofs
def Cgu(P:Program):Nat→TypeId→Bool
 |0,_=>false
 |n+1,t=>match P.underlying t with
  |some .bool|some (.int _)|some .string=>true
  |some (.slice e)=>decide (0<P.cellsOf e) && Cgu P n e
  |some (.struct fs)=>decide (P.cellsOf t=fs.size) && (List.range fs.size).all fun i=>match fs[i]? with
   |some f=>decide (f.offset=i) && decide (P.cellsOf f.type=1) && Cgu P n f.type
   |none=>false
  |_=>false
def TyD(P:Program):Nat→TypeId→List D→Prop
 |0,_,_=>False
 |n+1,t,ds=>match P.underlying t with
  |some .bool=>∃b,ds= [.bool b]
  |some (.int k)=>∃z,ds= [.int k z]∧(Lit.int k z).wf=true
  |some .string=>∃s:List UInt8,ds= [.str s]∧s.length≤maxLen
  |some (.slice e)=>∃rows:List (List D),ds= [.sl rows .none]∧rows.length≤maxLen∧∀r∈rows,r.length=P.cellsOf e∧TyD P n e r
  |some (.struct fs)=>ds.length=fs.size∧∀(i:Nat) (f:Field) (d:D),fs[i]?=some f→ds[i]?=some d→TyD P n f.type [d]
  |_=>False
structure VRl(g:G)(ds:List D)(cs:List Value):Prop where
 len:ds.length=cs.length
 at_:∀(j:Nat) (d:D) (v:Value),ds[j]?=some d→cs[j]?=some v→VR g d v
theorem Cg7{α:Type}:∀(n:Nat) (P:Nat→α→Prop),(∀i,i<n→∃a,P i a)→∃l:List α,l.length=n∧∀(i:Nat) (a:α),l[i]?=some a→P i a
 |0,P,_=>⟨[],rfl,fun i a h=>by simp at h⟩
 |n+1,P,h=>by
  obtain⟨l,h1,h2⟩:=Cg7 n P fun i hi=>h i (by omega)
  obtain⟨a,ha⟩:=h n (by omega)
  refine⟨l++ [a],by simp[h1],fun i b hb=>?_⟩
  by_cases hi:i<l.length
  ·rw[List.getElem?_append_left hi]at hb;exact h2 i b hb
  ·rw[List.getElem?_append_right (by omega)]at hb
   have:i - l.length=0:=by
    cases hk:i - l.length with
    |zero=>rfl
    |succ k=>rw[hk]at hb;simp at hb
   rw[this]at hb;simp at hb;subst hb
   rwa [show i=n from by omega]
section
variable{H:Type}{enc:TypeId × Value→H}{P:Program}{w:World}{base:Nat}{spare:Nat→Bool}{held:Bool}
theorem Cgs{g:G}{d:D}{v:Value}(h:VR g d v):VRl g [d] [v]:=⟨rfl,fun j d' v' hj hv=>by
 cases j with
 |zero=>simp at hj hv;subst hj;subst hv;exact h
 |succ j=>simp at hj⟩
theorem Cit{a:Addr}{n:Nat}{v:Value}(h:w.cell? (a.add n)=some v):(a.add n).spot=none∧w.cell? ⟨a.block,a.off+n,none⟩=some v:=by
 have hs:(a.add n).spot=none:=by
  unfold World.cell? at h;split at h
  ·split at h
   ·cases h
   ·rename_i hn;simpa using hn
  ·cases h
 refine⟨hs,?_⟩;have:a.add n=⟨a.block,a.off+n,none⟩:=by
  unfold Addr.add at hs ⊢;split
  ·rename_i h0;rw[if_pos h0]at hs;subst h0;cases a;simp at hs;subst hs;rfl
  ·rfl
 rwa [this]at h
theorem Cgq:∀(m:Nat) (t:TypeId) (fuel:Nat) (cs:List Value) (x:DataW H × List MemPlace),Cgu P m t=true→DataW.trod enc P w base spare held fuel t cs=some x→∃ds,TyD P m t ds∧VRl (gA w) ds cs
 |0,_,_,_,_,h,_=>by cases h
 |m+1,t,fuel,cs,x,hp,h=>by
  unfold Cgu at hp;unfold TyD;split at hp
  ·rename_i ht;obtain⟨b,rfl,_⟩:=DataW.trod_bool ht h;exact⟨_,⟨b,rfl⟩,Cgs (.bool b)⟩
  ·rename_i k ht;obtain⟨z,rfl,_,hw⟩:=DataW.trod_int ht h;exact⟨_,⟨z,rfl,hw⟩,Cgs (.int k z)⟩
  ·rename_i ht;obtain⟨s,rfl,_,hw⟩:=DataW.trod_string ht h;exact⟨_,⟨s.data.toList,rfl,by simpa using hw⟩,Cgs (.str s)⟩
  ·rename_i e ht;rw[Bool.and_eq_true,decide_eq_true_eq]at hp;obtain⟨hc0,hp⟩:=hp;rcases DataW.trod_slice ht h with⟨rfl,_⟩|⟨a,len,cap,elems,rest,n,_,rfl,_,hb,hl,hm,hlen,hel,hsp,hns⟩
   ·exact⟨[.sl [] .none],⟨[],rfl,Nat.zero_le _,fun r hr=>by cases hr⟩,Cgs (.slNil (by simp))⟩
   ·have each:∀i,i<len→∃r:List D,∃cs':List Value,w.cells? base (a.add (i*P.cellsOf e)) (P.cellsOf e)=some cs'∧TyD P m e r∧VRl (gA w) r cs':=by
     intro i hi;have h1:=hel i hi;obtain⟨y,hy⟩:∃y,elems[i]?=some y:=⟨_,List.getElem?_eq_getElem (by omega)⟩
     rw[hy,Option.bind_eq_some_iff]at h1;obtain⟨cs',h2,h3⟩:=h1;obtain⟨r,h4,h5⟩:=Cgq m e n cs' y hp h3;exact⟨r,cs',h2,h4,h5⟩
    obtain⟨rows,hrl,hrows⟩:=Cg7 len (fun i r=>∃cs':List Value,w.cells? base (a.add (i*P.cellsOf e)) (P.cellsOf e)=some cs'∧TyD P m e r∧VRl (gA w) r cs') each;have hrow:∀r∈rows,r.length=P.cellsOf e∧TyD P m e r:=fun r hr=>by obtain⟨i,hi⟩:=List.mem_iff_getElem?.1 hr;obtain⟨cs',h2,h4,h5⟩:=hrows i r hi;exact⟨by rw[h5.len];exact(World.cells?_some h2).2.1,h4⟩
    refine⟨[.sl rows .none],⟨rows,rfl,by rw[hrl];omega,hrow⟩,Cgs ?_⟩
    by_cases h0:len=0
    ·subst h0;obtain rfl:rows= []:=List.eq_nil_of_length_eq_zero hrl;exact .slEmp (by simp) (by simp)
    ·have hcell:∀(i:Nat) (r:List D) (j:Nat) (d:D),rows[i]?=some r→r[j]?=some d→∃v,w.cell? ((a.add (i*P.cellsOf e)).add j)=some v∧VR (gA w) d v:=by
      intro i r j d hi hj;obtain⟨cs',h2,h4,h5⟩:=hrows i r hi;obtain⟨_,h6,h7⟩:=World.cells?_some h2;have hjl:j<cs'.length:=by rw[← h5.len];exact(List.getElem?_eq_some_iff.1 hj).1
      exact⟨cs'[j],by rw[h7 j (by omega),List.getElem?_eq_getElem hjl],h5.at_ j d _ hj (List.getElem?_eq_getElem hjl)⟩
     have hflat:∀(i:Nat) (r:List D) (j:Nat) (d:D),rows[i]?=some r→r[j]?=some d→∃v,w.cell? ⟨a.block,a.off+i*P.cellsOf e+j,none⟩=some v∧VR (gA w) d v:=by
      intro i r j d hi hj;obtain⟨v,h1,h2⟩:=hcell i r j d hi hj;refine⟨v,?_,h2⟩;have h3:=(Cit h1).2;have e1:(a.add (i*P.cellsOf e)).block=a.block:=by unfold Addr.add;split<;>rfl
      have e2:(a.add (i*P.cellsOf e)).off=a.off+i*P.cellsOf e:=by
       unfold Addr.add;split
       ·rename_i hz;rw[hz];rfl
       ·rfl
      rw[e1,e2]at h3;exact h3
     have hspot:a.spot=none:=by
      obtain⟨r0,hr0⟩:∃r,rows[0]?=some r:=⟨_,List.getElem?_eq_getElem (by omega)⟩
      obtain⟨d0,hd0⟩:∃d,r0[0]?=some d:=⟨_,List.getElem?_eq_getElem (by rw[(hrow r0 (List.mem_of_getElem? hr0)).1];omega)⟩
      obtain⟨v,h1,_⟩:=hcell 0 r0 0 d0 hr0 hd0;have:=(Cit h1).1;simpa[Addr.add]using this
     have ha:a=⟨a.block,a.off,none⟩:=by cases a;simp at hspot;subst hspot;rfl
     rw[ha,← hrl];refine .sl (sz:=P.cellsOf e) (fun r hr=>(hrow r hr).1) (fun i r j d hi hj=>?_) (fun i r j d v hi hj hv=>?_) (by omega) trivial
     ·obtain⟨v,h1,_⟩:=hflat i r j d hi hj;exact⟨v,h1⟩
     ·obtain⟨v',h1,h2⟩:=hflat i r j d hi hj;rw[show(gA w).I a.block (a.off+i*P.cellsOf e+j)=w.cell? ⟨a.block,a.off+i*P.cellsOf e+j,none⟩from rfl,h1]at hv;cases hv;exact h2
  ·rename_i fs ht;rw[Bool.and_eq_true,decide_eq_true_eq,List.all_eq_true]at hp;obtain⟨hc,hf⟩:=hp;obtain⟨xs,n,_,_,hcl,hxl,hx⟩:=DataW.trod_struct ht h;have hfld:∀(i:Nat) (f:Field),fs[i]?=some f→f.offset=i∧P.cellsOf f.type=1∧Cgu P m f.type=true:=fun i f hi=>by
    have hlt:i<fs.size:=(Array.getElem?_eq_some_iff.1 hi).1;have:=hf i (List.mem_range.2 hlt);rw[hi]at this;simp only[Bool.and_eq_true,decide_eq_true_eq]at this;exact⟨this.1.1,this.1.2,this.2⟩
   have each:∀i,i<fs.size→∃d:D,∀f,fs[i]?=some f→TyD P m f.type [d]∧∃v,cs[i]?=some v∧VR (gA w) d v:=by
    intro i hi;obtain⟨f,hfi⟩:∃f,fs[i]?=some f:=⟨_,Array.getElem?_eq_getElem hi⟩;obtain⟨h1,h2,h3⟩:=hfld i f hfi;obtain⟨y,hy⟩:∃y,xs[i]?=some y:=⟨_,List.getElem?_eq_getElem (by omega)⟩
    have h4:=hx i f hfi;rw[hy,h1,h2]at h4;obtain⟨v,hv⟩:∃v,cs[i]?=some v:=⟨_,List.getElem?_eq_getElem (by omega)⟩
    have h5:(cs.drop i).take 1= [v]:=by
     have hlt:i<cs.length:=by omega
     rw[List.drop_eq_getElem_cons hlt];rw[List.getElem?_eq_getElem hlt]at hv;cases hv;rfl
    rw[h5]at h4;obtain⟨ds,h6,h7⟩:=Cgq m f.type n [v] y h3 h4;obtain⟨d,rfl⟩:∃d,ds= [d]:=List.length_eq_one_iff.1 (by simpa using h7.len)
    refine⟨d,fun f' hf'=>?_⟩;rw[hfi]at hf';cases hf';exact⟨h6,v,hv,h7.at_ 0 d v rfl rfl⟩
   obtain⟨ds,hdl,hds⟩:=Cg7 fs.size (fun i d=>∀f,fs[i]?=some f→TyD P m f.type [d]∧∃v,cs[i]?=some v∧VR (gA w) d v) each;refine⟨ds,⟨hdl,fun i f d hi hd=>(hds i d hd f hi).1⟩,by omega,fun j d v hj hv=>?_⟩
   obtain⟨f,hfi⟩:∃f,fs[j]?=some f:=⟨_,Array.getElem?_eq_getElem (by rw[← hdl];exact(List.getElem?_eq_some_iff.1 hj).1)⟩
   obtain⟨_,v',h1,h2⟩:=hds j d hj f hfi;rw[hv]at h1;cases h1;exact h2
  ·cases hp
end
end Go.Vam
namespace Go.Vam
open Go.Proofs Go.Proofs.Tryz
noncomputable def C3:Eo:= {P:=prog,keepNil:= [],keepArr:= [10,13,43,44,45],hnd:= [3,10,12,43,44,45],byRef:= [12,14,43,44],ords:=Ah5}
inductive Cg3(S:St):D→List Vl→Prop
 |nil:Cg3 S .nilsl []
 |emp {gr:Gr} (h:gr= .none∨gr= .exact):Cg3 S (.sl [] gr) []
 |arr {id:Nat} {vs:List Vl} (h:S[id]?=some (.cells (Bow vs).flatten)) (h0:vs≠ []):Cg3 S (.arr 2 id 0 vs.length vs.length) vs
theorem Cre(id n:Nat):Bo prog .eql 22 (.arr 2 id 0 n n) .nilsl=some (.bool false):=by show(eqD prog 22 (.arr 2 id 0 n n) .nilsl).map D.bool=_;unfold eqD;rw[underlying22];rfl
theorem Cir{S:St}{id:Nat}{vs:List Vl}(h:S[id]?=some (.cells (Bow vs).flatten))(cap:Nat):rowsOf S (.arr 2 id 0 vs.length cap)=some (Bow vs):=by unfold rowsOf;simp only[h];exact Cmq vs
theorem Cqb(v:Vl)(l:List Vl)(S:St)(hl:l.length<2 ^ 30)(id:Nat)(hid:S[id]?=some (.cells (Bow (v::l)).flatten)):C8 prog true 22 (.arr 2 S.length 0 0 0) (.arr 2 id 0 (l.length+1) (l.length+1)) (S++ [.cells (J2 [.bool false,.str []] 0)])=
  some (.arr 2 (S.length+1) 0 (l.length+1) (l.length+1),S++ [.dead,.cells (Bow (v::l)).flatten],[S.length]):=by
 have h:=Clh v l .none S hl;have hr:rowsOf (S++ [.cells (J2 [D.bool false,.str []] 0)]) (.arr 2 id 0 (l.length+1) (l.length+1))=some (Bow (v::l)):=Cir (vs:=v::l) (by rw[List.getElem?_append_left (List.getElem?_eq_some_iff.1 hid).1];exact hid) _
 unfold C8 at h ⊢;rw[Cih]at h ⊢;dsimp only at h ⊢;rw[hr];exact h
section
variable{cf:Ah}{N:Nat}(hK:∀f,Ba (cf f))
include hK
theorem Cpc(v:Vl)(l:List Vl)(S:St)(hl0:l.length<2 ^ 30):run C3 cf N 43 [.sl (Bow (v::l)) .none] S=some (.arr 2 (S.length+1) 0 (l.length+1) (l.length+1),S++ [.dead,.cells (Bow (v::l)).flatten],[]):=by
 have hP:C3.P=prog:=rfl;refine Cet rfl hK func43 (bdy (by kernel_rfl)) ?_
 rw[show C3.hnd.contains 43=true from rfl];generalize he:(([.sl (Bow (v::l)) .none]:List D)++List.replicate (f43.ntmps - ([.sl (Bow (v::l)) .none]:List D).length) .undef)=e;have hl:e.length=8:=by rw[← he];rfl
 have e0:e.getD 0 .undef= .sl (Bow (v::l)) .none:=by rw[← he];rfl
 clear he;have q:=Cma v l .none;have a:=Clh v l .none S hl0;have hV:∀id∈ [S.length],S.length≤id:=by simp
 refine Bj8 ?_;obtain⟨code,hcode⟩:∃code,code=strip (bd f43):=⟨_,rfl⟩;rw[← hcode];simp only[bd,f43,strip,Dl,List.map_toArray,MC]at hcode;subst hcode
 repeat (first
  |refine A00 ?_|refine Asu ?_|refine Bkx ?_|refine Awr ?_|refine Ay7 ?_|refine Bq (by decide) ?_|refine Eg rfl rfl ?_|refine Zc hV ?_
  |((first|refine Ee rfl rfl ?_|refine Ed rfl rfl ?_|refine Bwz ?_);refine⟨_,by simp only[Bj,BB,Af,ev,Am,Ak,Ag,Gc,Ai,↓reduceIte,Nat.reduceEqDiff,Nat.reduceLT,Aj,Gn,hP,hl,e0,q,a,Cih,Chu,Ci1,Ck7];first|done|rfl,?_⟩)
  |dsimp only)
 refine⟨.inr rfl,[_],[_],_,?_,rfl,rfl,fun _ _=>rfl,?_,rfl⟩
 ·show Gm C3.P _ _ [.tmp 2]=_;simp only[Gm,BB,Am,hl,Nat.reduceEqDiff,↓reduceIte,Nat.reduceLT]
 ·simp[D8]
theorem Co8(S:St):run C3 cf N 43 [.nilsl] S=some (.nilsl,S,[]):=by
 have hP:C3.P=prog:=rfl;refine Bbg rfl hK func43 (bdy (by kernel_rfl)) ?_
 rw[show C3.hnd.contains 43=true from rfl];generalize he:(([.nilsl]:List D)++List.replicate (f43.ntmps - ([.nilsl]:List D).length) .undef)=e;have hl:e.length=8:=by rw[← he];rfl
 have e0:e.getD 0 .undef= .nilsl:=by rw[← he];rfl
 clear he;have q:Bo prog .eql 22 .nilsl .nilsl=some (.bool true):=by kernel_rfl
 refine Bj8 ?_;obtain⟨code,hcode⟩:∃code,code=strip (bd f43):=⟨_,rfl⟩;rw[← hcode];simp only[bd,f43,strip,Dl,List.map_toArray,MC]at hcode;subst hcode
 repeat (first
  |refine A00 ?_|refine Asu ?_|refine Bkx ?_|refine Awr ?_|refine Ay7 ?_|refine Bq (by decide) ?_|refine Eg rfl rfl ?_
  |((first|refine Ee rfl rfl ?_|refine Ed rfl rfl ?_|refine Bwz ?_);refine⟨_,by simp only[Bj,BB,Af,ev,Am,Ak,Ag,Gc,Ai,↓reduceIte,Nat.reduceEqDiff,Nat.reduceLT,Aj,Gn,hP,hl,e0,q];first|done|rfl,?_⟩)
  |dsimp only)
 refine⟨.inr rfl,[.nilsl],[.nilsl],S,?_,rfl,rfl,fun _ _=>rfl,.inl rfl⟩;show Gm C3.P _ _ [.tmp 2]=_;simp only[Gm,BB,Am,hl,Nat.reduceEqDiff,↓reduceIte,Nat.reduceLT]
theorem Cod(v:Vl)(l:List Vl)(S:St)(hl0:l.length<2 ^ 30)(id:Nat)(hid:S[id]?=some (.cells (Bow (v::l)).flatten)):run C3 cf N 43 [.arr 2 id 0 (l.length+1) (l.length+1)] S=some (.arr 2 (S.length+1) 0 (l.length+1) (l.length+1),S++ [.dead,.cells (Bow (v::l)).flatten],[]):=by
 have hP:C3.P=prog:=rfl;refine Cet rfl hK func43 (bdy (by kernel_rfl)) ?_
 rw[show C3.hnd.contains 43=true from rfl];generalize he:(([.arr 2 id 0 (l.length+1) (l.length+1)]:List D)++List.replicate (f43.ntmps - ([.arr 2 id 0 (l.length+1) (l.length+1)]:List D).length) .undef)=e;have hl:e.length=8:=by rw[← he];rfl
 have e0:e.getD 0 .undef= .arr 2 id 0 (l.length+1) (l.length+1):=by rw[← he];rfl
 clear he;have q:=Cre id (l.length+1);have a:=Cqb v l S hl0 id hid;have hV:∀id∈ [S.length],S.length≤id:=by simp
 refine Bj8 ?_;obtain⟨code,hcode⟩:∃code,code=strip (bd f43):=⟨_,rfl⟩;rw[← hcode];simp only[bd,f43,strip,Dl,List.map_toArray,MC]at hcode;subst hcode
 repeat (first
  |refine A00 ?_|refine Asu ?_|refine Bkx ?_|refine Awr ?_|refine Ay7 ?_|refine Bq (by decide) ?_|refine Eg rfl rfl ?_|refine Zc hV ?_
  |((first|refine Ee rfl rfl ?_|refine Ed rfl rfl ?_|refine Bwz ?_);refine⟨_,by simp only[Bj,BB,Af,ev,Am,Ak,Ag,Gc,Ai,↓reduceIte,Nat.reduceEqDiff,Nat.reduceLT,Aj,Gn,hP,hl,e0,q,a,Cih,Chu,Ci1,Ck7];first|done|rfl,?_⟩)
  |dsimp only)
 refine⟨.inr rfl,[_],[_],_,?_,rfl,rfl,fun _ _=>rfl,?_,rfl⟩
 ·show Gm C3.P _ _ [.tmp 2]=_;simp only[Gm,BB,Am,hl,Nat.reduceEqDiff,↓reduceIte,Nat.reduceLT]
 ·simp[D8]
set_option maxHeartbeats 1000000 in
theorem Csm(c:Nat)(s:CP)(k:Tx)(vs:List Vl)(vd:D)(hG:Cgg s)(hr:s.room≠0)(hn:B16 k s.l=none)(hlt:¬ s.room<s.l.length+1)(S:St)(ids:List Nat)(h0:CAt c S s ids)(hg:cf 13 [.ptr c 0,.str k] S=some (.tup [.nilsl,.bool false],S,[]))
  (hcl:∀T:St,(∀i,i<S.length→i ∉ ids→T[i]?=S[i]?)→∃d more more',cf 43 [vd] T=some (d,T++more,[])∧Sl Gu (T++more) d=some (.sl (Bow vs) .none,T++more')∧more'.length=more.length):
  ∃S' W ids',run C3 cf N 12 [.ptr c 0,.str k,vd] S=some (.bool true,S',W)∧(∀i∈W,i∈ids)∧CAt c S' ⟨s.room,s.l++ [(k,vs)],s.gone⟩ ids'∧(∀i∈ids',i∈ids∨S.length≤i):=by
 have hcg:G6 C3 cf 13 [] [] [.ptr c 0,.str k] S=some (.tup [.nilsl,.bool false],S,[]):=Amz (by kernel_rfl) rfl rfl hg
 have h00:=h0;obtain⟨h,hm,hk⟩:=h0;rename_i m kd ks;have hP:C3.P=prog:=rfl;have hcS:=(List.getElem?_eq_some_iff.1 h).1;have hmS:=(List.getElem?_eq_some_iff.1 hm).1;have hmc:m≠c:=fun e=>by rw[e,h]at hm;cases hm
 have hkl:(s.l.map (·.1)).length=s.l.length:=List.length_map ..;obtain⟨kd',T1,W1,ks1,ha,hk1,hW1,hks1,hfr1,hle1,hkc,hko⟩:=Cif (T:=S++ [.cells [.str k]]) (c:=c) (m:=m) (n:=S.length) k (hk.fr fun i hi=>List.getElem?_append_left (hk.lt.2 i hi)) (at1 _ _) (by rw[hkl];have:=hG.len;have:=hG.room;omega) (by simp;omega) (by simp;omega)
 have hkn:=hk.ne;have hcT:T1[c]?=some (.cells [.int .i64 s.room,kd,.map m,.int .i64 s.gone]):=by
  rw[hfr1 c (by simp;omega) (fun hi=>(hkn c hi).1 rfl),List.getElem?_append_left hcS]
  exact h
 have hmT:T1[m]?=some (.map (B2v s.l)):=by
  rw[hfr1 m (by simp;omega) (fun hi=>(hkn m hi).2 rfl),List.getElem?_append_left hmS]
  exact hm
 have hSl:(S++ [Obj.cells [.str k]]).length=S.length+1:=by simp
 have l1:=Ceq (off:=1) Che Cid Cin h rfl;have st1:=Ci2 (off:=1) Che hcT (by simp) hkc hko
 obtain⟨T2,hT2⟩:∃T2,T2=T1.set c (.cells ([.int .i64 s.room,kd,.map m,.int .i64 s.gone].set 1 kd')):=⟨_,rfl⟩;rw[← hT2]at st1;have hcT2:T2[c]?=some (.cells [.int .i64 s.room,kd',.map m,.int .i64 s.gone]):=by rw[hT2];exact B58 hcT
 have hmT2:T2[m]?=some (.map (B2v s.l)):=by rw[hT2,B5o hmc];exact hmT
 have hk2:Bsv T2 c m kd' (s.l.map (·.1)++ [k]) ks1:=hk1.fr fun i hi=>by rw[hT2,B5o (hk1.ne i hi).1]
 have hl2:T2.length=T1.length:=by rw[hT2,List.length_set]
 obtain⟨d,more,more',hc1,hz,hml⟩:=hcl T2 (fun i hi hni=>by simp only[List.mem_cons,not_or]at hni;rw[hT2,B5o hni.1,hfr1 i (by simp;omega) hni.2.2,List.getElem?_append_left hi])
 have hc2:G6 C3 cf 43 [] [] [vd] T2=some (d,T2++more,[]):=by
  rw[Cdz (by kernel_rfl) rfl]
  exact hc1
 have l2:=Ceq (off:=2) Cjf Cjz Cja hcT2 rfl;have up:=Clk hz (by rw[List.getElem?_append_left (List.getElem?_eq_some_iff.1 hmT2).1];exact hmT2) hn (vs:=vs)
 obtain⟨T4,hT4⟩:∃T4,T4=(T2++more').set m (.map (B2v (s.l++ [(k,vs)]))):=⟨_,rfl⟩;rw[← hT4]at up;have hcT4:T4[c]?=some (.cells [.int .i64 s.room,kd',.map m,.int .i64 s.gone]):=by rw[hT4,B5o (fun e=>hmc e.symm),List.getElem?_append_left (List.getElem?_eq_some_iff.1 hcT2).1];exact hcT2
 have hmT4:T4[m]?=some (.map (B2v (s.l++ [(k,vs)]))):=by rw[hT4];exact B58 (x:= .map (B2v s.l)) (by rw[List.getElem?_append_left (List.getElem?_eq_some_iff.1 hmT2).1];exact hmT2)
 have hk4:Bsv T4 c m kd' ((s.l++ [(k,vs)]).map (·.1)) ks1:=by rw[List.map_append];refine hk2.fr fun i hi=>?_;rw[hT4,B5o (hk2.ne i hi).2,List.getElem?_append_left (hk2.lt.2 i hi)]
 have l6:=Ceq (off:=1) Che Cid Cin hcT4 rfl;have l7:=Ceq (off:=0) zs3 zu3 za3 hcT4 rfl;have ln:=hk4.len' T4;rw[List.length_map,List.length_append,show[(k,vs)].length=1 from rfl]at ln;have g:=Chs 3 ((s.l.length+1:Nat):Int) (s.room:Int);have l0:=Ceq (off:=0) zs3 zu3 za3 h rfl;have q:=B6y 3 (s.room:Int) 0;rw[show((s.room:Int) == 0)=false from by simpa using hr]at q
 have hod:C3.ords 12 5=some (List.range 8,false):=by kernel_rfl
 have hod6:C3.ords 12 6=some (List.range 10,true):=by kernel_rfl
 have hod7:C3.ords 12 7=some (List.range 11,true):=by kernel_rfl
 obtain⟨Pw,hPw⟩:∃Pw:Nat→Prop,Pw=fun i=>i∈c::m::ks∨S.length≤i:=⟨_,rfl⟩;have hVc:∀id∈ [c],Pw id:=by rw[hPw];simp
 have hVm1:∀id∈ [m],Pw id:=by rw[hPw];simp
 have hVW1:∀id∈W1,Pw id:=fun id hid=>by rw[hPw];exact .inl (by simp[hW1 id hid])
 have hVm:∀id∈Dj (Dn (T2++more) (T2++more')) [m],∀(B:Array Nat) (i:Nat),Pw id∧∀j,id=c→(maskAt B i).testBit j=true:=fun id hid B i=>by
  rw[hPw];rcases Cm.1 hid with h1|h1
  ·have:=Cg1 _ _ _ id h1;rw[hl2]at this;exact⟨.inr (by omega),fun j e=>absurd e (by omega)⟩
  ·obtain rfl:id=m:=by simpa using h1
   exact⟨.inl (by simp),fun j e=>absurd e hmc⟩
 have hks':∀i∈ks1,i∈c::m::ks∨S.length≤i:=fun i hi=>by
  rcases hks1 i hi with h1|h1
  ·exact .inl (by simp[h1])
  ·exact .inr (by omega)
 refine Cff rfl hK (Cep c) func12 (bdy (by kernel_rfl)) h00 ?_
 rw[show C3.hnd.contains 12=true from rfl,← hPw];generalize he:(([.ptr c 0,.str k,vd]:List D)++List.replicate (f12.ntmps - ([.ptr c 0,.str k,vd]:List D).length) .undef)=e;have hl:e.length=79:=by rw[← he];rfl
 have e0:e.getD 0 .undef= .ptr c 0:=by rw[← he];rfl
 have e1:e.getD 1 .undef= .str k:=by rw[← he];rfl
 have e2:e.getD 2 .undef=vd:=by rw[← he];rfl
 clear he;refine Bj8 ?_;obtain⟨code,hcode⟩:∃code,code=strip (bd f12):=⟨_,rfl⟩;rw[← hcode];simp only[bd,f12,strip,Dl,List.map_toArray,MC]at hcode;subst hcode;rw[decide_eq_false (by omega)]at g
 repeat (first
  |refine A00 ?_|refine Asu ?_|refine Bkx ?_|((first|refine Bji hod6 ?_|refine Bji hod7 ?_);simp only[List.map_toArray,MC,Dl])|(refine B4n (fun _ id=>id=c) (fun _=>True) hod trivial (fun B _=>?_);simp only[List.map_toArray,MC,Dl])
  |refine Awr ?_|refine Ay7 ?_|refine Bq (by decide) ?_|refine Eg rfl rfl ?_|refine B5t ?_|refine B7v rfl rfl ?_|refine Zc (by first|exact hVc|exact hVW1|exact(fun id hid=>hVm id hid _ _)|exact hVm1|(simp;done)) ?_
  |((first|refine Ei rfl rfl rfl rfl ?_|refine Ee rfl rfl ?_|refine Ed rfl rfl ?_|refine B8g rfl rfl ?_|refine B7s rfl rfl ?_|refine Bwz ?_);refine⟨_,by simp only[Bj,BB,Af,ev,Am,Ak,Ag,Gc,Ai,↓reduceIte,Nat.reduceEqDiff,Nat.reduceLT,Aj,Gn,hP,hl,e0,e1,e2,Cf4,hcg,Cgx,Cg4,Cg2,D.known,l0,q,l1,Cgm,zs9,zo9,Ca0,Cau,Ce2,ha,st1,l2,hc2,up,l6,l7,ln,g];first|done|rfl,?_⟩)
  |dsimp only)
 refine⟨.inr rfl,[.bool true],[.bool true],T4,c::m::ks1,?_,rfl,rfl,fun _ _=>rfl,.mk hcT4 hmT4 hk4,fun i hi=>?_⟩
 ·show Gm C3.P _ _ [.tmp 6]=_;simp only[Gm,BB,Am,hl,Nat.reduceEqDiff,↓reduceIte,Nat.reduceLT]
 ·rcases List.mem_cons.1 hi with rfl|hi
  ·exact .inl (by simp)
  ·rcases List.mem_cons.1 hi with rfl|hi
   ·exact .inl (by simp)
   ·exact hks' i hi
end
theorem Chm{C:Eo}{hh:Bool}{od:Nat→Option (List Nat × Bool)}{cf:Ah}{N:Nat}{Pw:Nat→Prop}{e:Env}{st:St}{Q Q':Ex→Env→St→Prop}{c:Code}(h:Rp C hh od cf N Pw c e st Q)(hq:∀x e' st',Q x e' st'→Q' x e' st'):Rp C hh od cf N Pw c e st Q':=by obtain⟨x,e',st',V,h1,h2,h3⟩:=h.ex;exact⟨x,e',st',V,h1,h2,hq _ _ _ h3⟩
theorem Cg3.len{S:St}{d:D}{vs:List Vl}(h:Cg3 S d vs)(T:St):Ny prog 22 d T=some (.int .i64 (vs.length:Int),.pure):=by unfold Ny;rw[underlying22];cases h<;>rfl
theorem Cj3{vs:List Vl}{v:Vl}{i:Nat}(h:vs[i]?=some v):(Bow vs).flatten[i*2]?=some (.bool v.1)∧(Bow vs).flatten[i*2+1]?=some (.str v.2):=by
 induction vs generalizing i with
 |nil=>cases h
 |cons x l ih=>
  rw[show(Bow (x::l)).flatten= .bool x.1:: .str x.2::(Bow l).flatten from rfl];cases i with
  |zero=>cases h;exact⟨rfl,rfl⟩
  |succ i=>
   rw[show(i+1)*2=i*2+2 from by omega]
   exact ih (i:=i) h
theorem Cg3.at_{S:St}{d:D}{vs:List Vl}{v:Vl}{i:Nat}(h:Cg3 S d vs)(hi:vs[i]?=some v):∃a rd,Cf prog 22 d (.int .i64 (i:Int))=some (a,.pure)∧Fp prog 29 a S=some (.agg [.bool v.1,.str v.2],.rd rd):=by
 cases h with
 |nil=>cases hi
 |emp=>cases hi
 |arr h h0=>
  rename_i id;have hlt:=(List.getElem?_eq_some_iff.1 hi).1;obtain⟨h1,h2⟩:=Cj3 hi;refine⟨.ptr id (i*2),[id],?_,?_⟩
  ·unfold Cf;rw[show E5 (.int .i64 (i:Int))=some i from by simp[E5]]
   dsimp only;rw[underlying22];simp[hlt,Chu]
  ·rw[ldp h,B4e Chu Co2 Co0 (by rw[Chj];omega)]
   have:((Bow vs).flatten.drop (i*2)).take 2= [.bool v.1,.str v.2]:=by
    have hl:=Chj vs;apply List.ext_getElem?;intro j
    match j with
    |0=>rw[List.getElem?_take,if_pos (by omega),List.getElem?_drop];exact h1
    |1=>rw[List.getElem?_take,if_pos (by omega),List.getElem?_drop];exact h2
    |j+2=>rw[List.getElem?_take,if_neg (by omega)];rfl
   rw[this];rfl
section
variable{cf:Ah}{N:Nat}(hK:∀f,Ba (cf f))
include hK
theorem Coj(x:Int)(S:St):run C3 cf N 11 [.int .i64 x] S=some (.ptr (S.length+1) 0,S++ [.map [],.cells [.int .i64 (Cbp x:Int),.nilsl,.map S.length,.int .i64 0]],[]):=by
 have hP:C3.P=prog:=rfl;refine Cet rfl hK func11 (bdy (by kernel_rfl)) ?_
 rw[show C3.hnd.contains 11=false from rfl];generalize he:(([.int .i64 x]:List D)++List.replicate (f11.ntmps - ([.int .i64 x]:List D).length) .undef)=e;have hl:e.length=9:=by rw[← he];rfl
 have e0:e.getD 0 .undef= .int .i64 x:=by rw[← he];rfl
 clear he;have m1:Om Ab0 (.int .i64 x) [.int .i64 0]=some (.int .i64 (if x<0 then 0 else x)):=by
  show(match Ab0 (.int .i64 x) (.int .i64 0)with|some c=>Om Ab0 c []|none=>none)=_
  unfold Ab0;simp[Om]
 have m2:Om Abk (.int .i64 (if x<0 then 0 else x)) [.int .i64 200]=some (.int .i64 (Cbp x:Int)):=by
  show(match Abk (.int .i64 (if x<0 then 0 else x)) (.int .i64 200)with|some c=>Om Abk c []|none=>none)=_
  unfold Abk;simp only[if_true,Om];congr 2;unfold Cbp;split<;>split<;>omega
 generalize(if x<0 then(0:Int)else x)=z at m1 m2;generalize((Cbp x:Nat):Int)=r at m2;have b1:Adc prog 90 [(0,.int .i64 r),(2,.map S.length)]=some (.agg [.int .i64 r,.nilsl,.map S.length,.int .i64 0]):=by kernel_rfl
 refine Bj8 ?_;obtain⟨code,hcode⟩:∃code,code=strip (bd f11):=⟨_,rfl⟩;rw[← hcode];simp only[bd,f11,strip,Dl,List.map_toArray,MC]at hcode;subst hcode
 repeat (first
  |refine A00 ?_|refine Asu ?_|refine Bkx ?_|refine Awr ?_|refine Ay7 ?_|refine Bq (by decide) ?_|refine Eg rfl rfl ?_
  |((first|refine Ee rfl rfl ?_|refine Ed rfl rfl ?_|refine Bwz ?_);refine⟨_,by simp only[Bj,BB,Af,ev,Am,Ak,Ag,Gc,Ai,↓reduceIte,Nat.reduceEqDiff,Nat.reduceLT,Aj,hP,hl,e0,m1,m2,Cig,b1,D.known,D.cells];first|done|rfl,?_⟩)
  |dsimp only)
 have hlen:(S++ [Obj.map []]).length=S.length+1:=by simp
 refine⟨.inr rfl,[.ptr (S++ [Obj.map []]).length 0],[.ptr (S++ [Obj.map []]).length 0],_,?_,rfl,by rw[hlen];rfl,fun _ _=>rfl,?_,?_⟩
 ·show Gm C3.P _ _ [.tmp 2]=_;simp only[Gm,BB,Am,hl,Nat.reduceEqDiff,↓reduceIte,Nat.reduceLT]
 ·simp[D8]
 ·simp
theorem Csz(hc:Cgk cf)(c:Nat)(s:CP)(k:Tx)(hs:∀e∈s.l,e.2.length<2 ^ 30)(S:St)(ids:List Nat)(h0:CAt c S s ids):
  ∃d more,run C3 cf N 13 [.ptr c 0,.str k] S=some (.tup [d,.bool (B16 k s.l).isSome],S++more,[])∧Cg3 (S++more) d ((B16 k s.l).getD [])∧(B16 k s.l=none→d= .nilsl∧more= [])∧(∀id n m,d= .arr 2 id 0 n m→S.length≤id):=by
 have hgl:∀v,B16 k s.l=some v→v.length<2 ^ 30:=fun v hv=>by obtain⟨e,h1,rfl⟩:=Ci7 hv;exact hs e h1
 have hcall:∃d more,G6 C3 cf 43 [] [] [Ckv (B16 k s.l)] S=some (d,S++more,[])∧Cg3 (S++more) d ((B16 k s.l).getD [])∧((D8 S.length d=true)∨(D8 S.length d=false∧more= []))∧(B16 k s.l=none→d= .nilsl∧more= [])∧(∀id n m,d= .arr 2 id 0 n m→S.length≤id):=by
  rw[Cdz (by kernel_rfl) rfl]
  cases hg:B16 k s.l with
  |none=>exact⟨.nilsl,[],by rw[List.append_nil];exact hc.n S,.nil,.inr ⟨rfl,rfl⟩,fun _=>⟨rfl,rfl⟩,fun _ _ _ e=>by cases e⟩
  |some v=>
   cases v with
   |nil=>exact⟨.sl [] .exact,[],by rw[List.append_nil];exact hc.e S,.emp (.inr rfl),.inr ⟨rfl,rfl⟩,(fun h=>by cases h),fun _ _ _ e=>by cases e⟩
   |cons v l=>exact⟨_,_,hc.c v l S (by have:=hgl _ hg;simp only[List.length_cons]at this;omega),.arr (vs:=v::l) (at2 _ _ _) (by simp),.inl (by simp[D8]),(fun h=>by cases h),fun _ _ _ e=>by cases e;omega⟩
 obtain⟨d,more,hc1,hh,hrf,hnn⟩:=hcall;obtain⟨h,hm,hk⟩:=h0;refine⟨d,more,?_,hh,hnn⟩;have l1:=Ceq (off:=2) Cjf Cjz Cja h rfl;have l2:=Cix k hm;generalize B16 k s.l=o at*;have hP:C3.P=prog:=rfl;have hx:Rp C3 (C3.hnd.contains 13) (C3.ords 13) cf N (fun i=>S.length≤i) (bd f13) (([.ptr c 0,.str k]:List D)++List.replicate (f13.ntmps - ([.ptr c 0,.str k]:List D).length) .undef) S (fun y e' st'=>(y= .norm∨y= .ret)∧Gm C3.P e' st' f13.results.toList=some [d,.bool o.isSome]∧st'=S++more):=by
  rw[show C3.hnd.contains 13=false from rfl];generalize he:(([.ptr c 0,.str k]:List D)++List.replicate (f13.ntmps - ([.ptr c 0,.str k]:List D).length) .undef)=e;have hl:e.length=22:=by rw[← he];rfl
  have e0:e.getD 0 .undef= .ptr c 0:=by rw[← he];rfl
  have e1:e.getD 1 .undef= .str k:=by rw[← he];rfl
  clear he;refine Bj8 ?_;obtain⟨code,hcode⟩:∃code,code=strip (bd f13):=⟨_,rfl⟩;rw[← hcode];simp only[bd,f13,strip,Dl,List.map_toArray,MC]at hcode;subst hcode
  repeat (first
   |refine A00 ?_|refine Asu ?_|refine Bkx ?_|refine Awr ?_|refine Ay7 ?_|refine Bq (by decide) ?_|refine Eg rfl rfl ?_|refine Zc (V:= []) (by simp) ?_
   |((first|refine Ee rfl rfl ?_|refine Ed rfl rfl ?_|refine Bwz ?_);refine⟨_,by simp only[Bj,BB,Af,ev,Am,Ak,Ag,Gc,Ai,↓reduceIte,Nat.reduceEqDiff,Nat.reduceLT,Aj,hP,hl,e0,e1,Cf4,Cg2,l1,l2,hc1];first|done|rfl,?_⟩)
   |dsimp only)
  refine⟨.inr rfl,?_,rfl⟩;show Gm C3.P _ _ [.tmp 4,.tmp 5]=_;simp only[Gm,BB,Am,hl,Nat.reduceEqDiff,↓reduceIte,Nat.reduceLT]
 rcases hrf with hrf|⟨hrf,rfl⟩
 ·refine Cet rfl hK func13 (bdy (by kernel_rfl)) ?_
  exact Chm hx fun y e' st' ⟨h1,h2,h3⟩=>⟨h1,_,_,st',h2,rfl,rfl,fun _ _=>rfl,by simp[oneOf,D8,F6,hrf],h3⟩
 ·rw[List.append_nil]at hx ⊢;refine Bbg rfl hK func13 (bdy (by kernel_rfl)) ?_
  exact Chm hx fun y e' st' ⟨h1,h2,h3⟩=>⟨h1,_,_,st',h2,rfl,rfl,fun _ _=>rfl,.inl (by simp[oneOf,D8,F6,hrf])⟩
theorem eq3(a b:List Vl)(x y:D)(S:St)(hx0:Cg3 S x a)(hy0:Cg3 S y b)(ha:a.length+5<N)(ha2:a.length<2 ^ 40):run C3 cf N 14 [x,y] S=some (.bool (decide (a=b)),S,[]):=by
 have hP:C3.P=prog:=rfl;refine Bbg rfl hK func14 (bdy (by kernel_rfl)) ?_
 rw[show C3.hnd.contains 14=false from rfl];generalize he:(([x,y]:List D)++List.replicate (Tryz.f14.ntmps - ([x,y]:List D).length) .undef)=e;have hl:e.length=26:=by rw[← he];rfl
 have e0:e.getD 0 .undef=x:=by rw[← he];rfl
 have e1:e.getD 1 .undef=y:=by rw[← he];rfl
 clear he;have hlx:=fun S=>hx0.len S;have hly:=fun S=>hy0.len S;have q:=Cib 3 (a.length:Int) (b.length:Int);have hod:C3.ords 14 6=some (List.range 9,true):=by kernel_rfl
 refine Bj8 ?_;obtain⟨code,hcode⟩:∃code,code=strip (bd Tryz.f14):=⟨_,rfl⟩;rw[← hcode];simp only[bd,Tryz.f14,strip,Dl,List.map_toArray,MC]at hcode;subst hcode;by_cases hlab:a.length=b.length
 ·rw[show((a.length:Int) !=(b.length:Int))=false from by simp[hlab]]at q
  repeat (first
   |refine A00 ?_|refine Asu ?_|refine Bkx ?_|refine Awr ?_|refine Ay7 ?_|refine Bq (by decide) ?_|refine Eg rfl rfl ?_
   |((first|refine Ee rfl rfl ?_|refine Ed rfl rfl ?_|refine Bwz ?_);refine⟨_,by simp only[Bj,BB,Af,ev,Am,Ak,Ag,Gc,Ai,↓reduceIte,Nat.reduceEqDiff,Nat.reduceLT,Aj,hP,hl,e0,e1,hlx,hly,q];first|done|rfl,?_⟩)
   |dsimp only)
  refine Awv (fun n e' S'=>∃i,n=a.length - i∧i≤a.length∧S'=S∧e'.length=26∧e'.getD 0 .undef=x∧e'.getD 1 .undef=y∧e'.getD 12 .undef= .int .i64 (a.length:Int)∧e'.getD 13 .undef= .int .i64 (i:Int)∧a.take i=b.take i) a.length (by omega) ?_ ?_
  ·refine⟨0,rfl,Nat.zero_le _,rfl,?_,?_,?_,?_,?_,rfl⟩
   all_goals (simp only[BB,Am,hl,e0,e1,Nat.reduceEqDiff,↓reduceIte,Nat.reduceLT];first|done|rfl)
  clear e0 e1 hl e;rintro n e S' ⟨i,rfl,hi,rfl,hl,e0,e1,e12,e13,htk⟩;have g1:=B5p 0 (i:Int) (a.length:Int);by_cases hlt:i<a.length
  ·rw[decide_eq_true (by omega)]at g1
   obtain⟨u,hx⟩:∃u,a[i]?=some u:=⟨_,List.getElem?_eq_getElem hlt⟩;obtain⟨v,hy⟩:∃v,b[i]?=some v:=⟨_,List.getElem?_eq_getElem (by omega)⟩
   obtain⟨ax,rx,ix,lx⟩:=hx0.at_ hx;obtain⟨ay,ry,iy,ly⟩:=hy0.at_ hy;have nq:=Cqd u v;have nx:=Cij htk hx hy;have ad:Bo prog .add 3 (.int .i64 (i:Int)) (.int .i64 1)=some (.int .i64 ((i+1:Nat):Int)):=Cgf 3 (i:Int) 1 (by omega)
   replace g1:Bo prog .lss 3 (.int .i64 (i:Int)) (.int .i64 (a.length:Int))=some (.bool true):=g1;by_cases hxy:u=v
   ·rw[decide_eq_true hxy]at nq
    repeat (first
     |refine A00 ?_|refine Asu ?_|refine Bkx ?_|(refine Bji hod ?_;simp only[List.map_toArray,MC,Dl])|refine Awr ?_|refine Ay7 ?_|refine Avq ?_|refine Bq (by decide) ?_|refine Eg rfl rfl ?_
     |((first|refine Ee rfl rfl ?_|refine Ed rfl rfl ?_|refine Bwz ?_);refine⟨_,by simp only[Bj,BB,Af,ev,Am,Ak,Ag,Gc,Ai,↓reduceIte,Nat.reduceEqDiff,Nat.reduceLT,Aj,hP,hl,e0,e1,e12,e13,g1,ix,iy,lx,ly,nq,ad];first|done|rfl,?_⟩)
     |dsimp only)
    refine⟨a.length - (i+1),by omega,i+1,rfl,by omega,rfl,?_,?_,?_,?_,?_,nx.2 hxy⟩
    all_goals (simp only[BB,Am,hl,e0,e1,e12,e13,Nat.reduceEqDiff,↓reduceIte,Nat.reduceLT];first|done|rfl)
   ·rw[decide_eq_false hxy]at nq;have hne:a≠b:=fun e=>hxy (by rw[e,hy]at hx;exact(Option.some.inj hx).symm)
    rw[decide_eq_false hne]
    repeat (first
     |refine A00 ?_|refine Asu ?_|refine Bkx ?_|(refine Bji hod ?_;simp only[List.map_toArray,MC,Dl])|refine Awr ?_|refine Ay7 ?_|refine Avq ?_|refine Bq (by decide) ?_|refine Eg rfl rfl ?_
     |((first|refine Ee rfl rfl ?_|refine Ed rfl rfl ?_|refine Bwz ?_);refine⟨_,by simp only[Bj,BB,Af,ev,Am,Ak,Ag,Gc,Ai,↓reduceIte,Nat.reduceEqDiff,Nat.reduceLT,Aj,hP,hl,e0,e1,e12,e13,g1,ix,iy,lx,ly,nq,ad];first|done|rfl,?_⟩)
     |dsimp only)
    refine⟨.inr rfl,[.bool false],[.bool false],_,?_,rfl,rfl,fun _ _=>rfl,.inl rfl⟩;show Gm C3.P _ _ [.tmp 4]=_;simp only[Gm,BB,Am,hl,Nat.reduceEqDiff,↓reduceIte,Nat.reduceLT]
  ·rw[decide_eq_false (by omega)]at g1
   replace g1:Bo prog .lss 3 (.int .i64 (i:Int)) (.int .i64 (a.length:Int))=some (.bool false):=g1;have hab:a=b:=by
    rw[List.take_of_length_le (by omega),List.take_of_length_le (by omega)]at htk
    exact htk
   rw[decide_eq_true hab]
   repeat (first
    |refine A00 ?_|refine Asu ?_|refine Bkx ?_|refine Awr ?_|refine Ay7 ?_|refine Avq ?_|refine Bq (by decide) ?_|refine Eg rfl rfl ?_
    |((first|refine Ee rfl rfl ?_|refine Ed rfl rfl ?_|refine Bwz ?_);refine⟨_,by simp only[Bj,BB,Af,ev,Am,Ak,Ag,Gc,Ai,↓reduceIte,Nat.reduceEqDiff,Nat.reduceLT,Aj,hP,hl,e0,e1,e12,e13,g1];first|done|rfl,?_⟩)
    |dsimp only)
   refine⟨.inr rfl,[.bool true],[.bool true],_,?_,rfl,rfl,fun _ _=>rfl,.inl rfl⟩;show Gm C3.P _ _ [.tmp 4]=_;simp only[Gm,BB,Am,hl,Nat.reduceEqDiff,↓reduceIte,Nat.reduceLT]
 ·rw[show((a.length:Int) !=(b.length:Int))=true from bne_iff_ne.2 (by omega)]at q
  rw[decide_eq_false (fun e=>hlab (by rw[e]))]
  repeat (first
   |refine A00 ?_|refine Asu ?_|refine Bkx ?_|refine Awr ?_|refine Ay7 ?_|refine Bq (by decide) ?_|refine Eg rfl rfl ?_
   |((first|refine Ee rfl rfl ?_|refine Ed rfl rfl ?_|refine Bwz ?_);refine⟨_,by simp only[Bj,BB,Af,ev,Am,Ak,Ag,Gc,Ai,↓reduceIte,Nat.reduceEqDiff,Nat.reduceLT,Aj,hP,hl,e0,e1,hlx,hly,q];first|done|rfl,?_⟩)
   |dsimp only)
  refine⟨.inr rfl,[.bool false],[.bool false],S,?_,rfl,rfl,fun _ _=>rfl,.inl rfl⟩;show Gm C3.P _ _ [.tmp 4]=_;simp only[Gm,BB,Am,hl,Nat.reduceEqDiff,↓reduceIte,Nat.reduceLT]
end
def Cg8(S:St)(d:D)(l:List Vl)(n0:Nat):Prop:=(d= .nilsl∧l= [])∨∃id,n0≤id∧d= .arr 2 id 0 l.length l.length∧S[id]?=some (.cells (Bow l).flatten)∧l≠ []
theorem Cg8.fr2{S:St}{d:D}{l:List Vl}{n0:Nat}(h:Cg8 S d l n0)(os:List Obj):Cg8 (S++os) d l n0:=by
 rcases h with h|⟨id,h1,h2,h3,h4⟩
 ·exact .inl h
 ·exact .inr ⟨id,h1,h2,by rw[List.getElem?_append_left (List.getElem?_eq_some_iff.1 h3).1];exact h3,h4⟩
theorem Cpx(a b:D):List.take (0*2) (J2 [D.bool false,D.str []] 1)++(D.agg [a,b]).cells++List.drop (0*2+2) (J2 [D.bool false,D.str []] 1)= [a,b]:=rfl
theorem Cns(a b:D):List.take (0*2) (J2 [D.bool false,D.str []] 1)++ [a,b]++List.drop (0*2+2) (J2 [D.bool false,D.str []] 1)= [a,b]:=rfl
theorem Cl9(a b:List Vl):(Bow (a++b)).flatten=(Bow a).flatten++(Bow b).flatten:=by unfold Bow;rw[List.map_append,List.flatten_append]
theorem Aqi{T:St}{d:D}{l:List Vl}{n0:Nat}{v:Vl}(hk:Cg8 T d l n0)(x:Nat)(hx:T[x]?=some (.cells (Cdo v)))(hl:l.length<1000)(hn:n0≤T.length):
  ∃d' T' W,C8 prog true 22 d (.arr 2 x 0 1 1) T=some (d',T',W)∧Cg8 T' d' (l++ [v]) n0∧(∀i∈W,n0≤i)∧T.length≤T'.length:=by
 have hr:rowsOf T (.arr 2 x 0 1 1)=some [Cdo v]:=by unfold rowsOf;simp only[hx];rfl
 unfold C8;rw[Cih];dsimp only;rw[Chu,Bhp,hr];dsimp only;have ha:([Cdo v]:List (List D)).all (fun r=>r.length == 2 && r.all Al)=true:=rfl;rw[ha,A7y];simp only[Bool.and_self,if_true];rcases hk with⟨rfl,rfl⟩|⟨id,h1,rfl,h3,h4⟩
 ·exact⟨.arr 2 T.length 0 1 1,T++ [.cells (Cdo v)],[],by simp[Dh],.inr ⟨T.length,hn,rfl,at1 _ _,by simp⟩,by simp,by simp⟩
 ·have hlt:=(List.getElem?_eq_some_iff.1 h3).1;have e1:decide ((l.length+1)*24≤Dh)=true:=decide_eq_true (by unfold Dh;omega)
  have e2:decide (l.length+1≤Dh)=true:=decide_eq_true (by unfold Dh;omega)
  have e4:l.length*2≤(Bow l).flatten.length:=by rw[Chj];exact Nat.le_refl _
  simp only[h3,List.length_cons,List.length_nil,List.isEmpty_cons,BF,Nat.zero_add,e1,e2,decide_true,Bool.and_self,Bool.not_true];rw[if_neg (by rw[Bool.and_eq_true];intro h;have:=of_decide_eq_true h.1;omega),if_pos e4]
  have e3:(Bow l).flatten.take (l.length*2)++ [Cdo v].flatten=(Bow (l++ [v])).flatten:=by
   rw[List.take_of_length_le (by rw[Chj];exact Nat.le_refl _),Cl9]
   rfl
  rw[e3];refine⟨_,_,[id],rfl,.inr ⟨T.length,hn,by simp,?_,by simp⟩,by simpa using h1,by simp⟩
  rw[List.getElem?_append_right (by simp),List.length_set,Nat.sub_self]
  rfl
section
variable{cf:Ah}{N:Nat}(hK:∀f,Ba (cf f))
include hK
set_option maxHeartbeats 1000000 in
theorem Cq7(hN:20<N)(vs:List Vl)(S:St):Rp C3 (C3.hnd.contains 10) (C3.ords 10) cf N (fun i=>S.length≤i) (bd f10) (([.sl (Bow vs) .none]:List D)++List.replicate (f10.ntmps - ([.sl (Bow vs) .none]:List D).length) .undef) S
  (fun y e' st'=>(y= .norm∨y= .ret)∧∃d,Gm C3.P e' st' f10.results.toList=some [d]∧Cg8 st' d (Cf7 vs) S.length):=by
 have hP:C3.P=prog:=rfl;rw[show C3.hnd.contains 10=true from rfl];generalize he:(([.sl (Bow vs) .none]:List D)++List.replicate (f10.ntmps - ([.sl (Bow vs) .none]:List D).length) .undef)=e;have hl:e.length=29:=by rw[← he];rfl
 have e0:e.getD 0 .undef= .sl (Bow vs) .none:=by rw[← he];rfl
 clear he;have hln:∀S,Ny prog 22 (.sl (Bow vs) .none) S=some (.int .i64 (vs.length:Int),.pure):=fun S=>by unfold Ny;rw[underlying22];simp[Chg]
 refine Bj8 ?_;obtain⟨code,hcode⟩:∃code,code=strip (bd f10):=⟨_,rfl⟩;rw[← hcode];simp only[bd,f10,strip,Dl,List.map_toArray,MC]at hcode;subst hcode
 repeat (first
  |refine A00 ?_|refine Asu ?_|refine Bkx ?_|refine Awr ?_|refine Ay7 ?_|refine Bq (by decide) ?_|refine Eg rfl rfl ?_
  |((first|refine Ee rfl rfl ?_|refine Ed rfl rfl ?_|refine Bwz ?_);refine⟨_,by simp only[Bj,BB,Af,ev,Am,Ak,Ag,Gc,Ai,↓reduceIte,Nat.reduceEqDiff,Nat.reduceLT,Aj,hP,hl,e0];first|done|rfl,?_⟩)
  |dsimp only)
 refine Awv (fun k e' S'=>∃i d,k=10 - i∧i≤10∧i≤vs.length∧e'.length=29∧e'.getD 0 .undef= .sl (Bow vs) .none∧e'.getD 3 .undef=d∧e'.getD 4 .undef= .int .i64 (i:Int)∧Cg8 S' d ((vs.take i).map Cgn) S.length∧S.length≤S'.length) 10 (by omega) ?_ ?_
 ·refine⟨0,.nilsl,rfl,Nat.zero_le _,Nat.zero_le _,?_,?_,?_,?_,.inl ⟨rfl,rfl⟩,Nat.le_refl _⟩
  all_goals (simp only[BB,Am,hl,e0,Nat.reduceEqDiff,↓reduceIte,Nat.reduceLT];first|done|rfl)
 clear e0 hl e;rintro k e S' ⟨i,d,rfl,hi,hi2,hl,e0,e3,e4,htk,hle⟩;have g1:=B5p 3 (i:Int) (vs.length:Int);have g2:=B5p 3 (i:Int) 10;by_cases hlt:i<vs.length∧i<10
 ·rw[decide_eq_true (by omega)]at g1
  rw[decide_eq_true (by omega)]at g2
  obtain⟨v,hvi⟩:∃v,vs[i]?=some v:=⟨_,List.getElem?_eq_getElem hlt.1⟩;have ix:=Cls hvi;have l1:=Bze (.bool v.1) (.str v.2) S';have s1:=Cqq (S:=S'++ [.cells [.bool false,.str []]]) (p:=S'.length) (c:= .bool v.1) (d:= .str v.2) (at1 _ _) rfl rfl;rw[Cm3]at s1;have l2:=Ceq (off:=0) zs4 zu4 za4 (at1 S' (.cells [.bool v.1,.str v.2])) rfl;have ad:Bo prog .add 3 (.int .i64 (i:Int)) (.int .i64 1)=some (.int .i64 ((i+1:Nat):Int)):=Cgf 3 (i:Int) 1 (by omega)
  have hVp:∀id∈ [S'.length],S.length≤id:=by simpa using hle
  have htake:(vs.take (i+1)).map Cgn=(vs.take i).map Cgn++ [Cgn v]:=by rw[List.take_add_one,hvi];simp
  have hlr:((vs.take i).map Cgn).length<1000:=by rw[List.length_map,List.length_take];omega
  cases hb:v.1 with
  |true=>
   rw[hb]at ix l1 s1 l2;have l3:=Cm0 (at1 S' (.cells [.bool true,.str v.2]));have f1:=Cm2 (.bool true) (.str v.2) rfl;obtain⟨d',S2,W,ha,hk',hW,hle'⟩:=Aqi (v:=Cgn v) (htk.fr2 [.cells [.bool true,.str v.2],.cells (Cdo (Cgn v))]) (S'.length+1) (by rw[List.getElem?_append_right (by omega),Nat.add_sub_cancel_left];rfl) hlr (by simp;omega)
   rw[show Cdo (Cgn v)= [.bool true,.str v.2]from by unfold Cgn;rw[hb];rfl]at ha
   have hVW:∀id∈W,S.length≤id:=hW;have hpl:(S'++ [Obj.cells [.bool true,.str v.2]]).length=S'.length+1:=by simp
   have happ:S'++ [Obj.cells [.bool true,.str v.2]]++ [Obj.cells [.bool true,.str v.2]]=S'++ [.cells [.bool true,.str v.2],.cells [.bool true,.str v.2]]:=by simp
   repeat (first
    |refine A00 ?_|refine Asu ?_|refine Bkx ?_|refine Awr ?_|refine Ay7 ?_|refine Avq ?_|refine Bq (by decide) ?_|refine Eg rfl rfl ?_|refine Zc (by first|exact hVp|exact hVW) ?_
    |((first|refine Ei rfl rfl rfl rfl ?_|refine Ee rfl rfl ?_|refine Ed rfl rfl ?_|refine Bwz ?_);refine⟨_,by simp only[Bj,BB,Af,ev,Am,Ak,Ag,Gc,Ai,↓reduceIte,Nat.reduceEqDiff,Nat.reduceLT,Aj,Gn,hP,hl,e0,e3,e4,hln,g1,g2,ix,l1,Ci1,s1,Cl1,Cl5,l2,l3,Cih,Chu,Cpx,Cns,hpl,happ,Ck7,ha,ad];first|done|rfl,?_⟩)
    |dsimp only)
   refine⟨10 - (i+1),by omega,i+1,d',rfl,by omega,by omega,?_,?_,?_,?_,by rw[htake];exact hk',by simp at hle';omega⟩
   all_goals (simp only[BB,Am,hl,e0,e3,e4,Nat.reduceEqDiff,↓reduceIte,Nat.reduceLT];first|done|rfl)
  |false=>
   rw[hb]at ix l1 s1 l2;have s2:=Ci2 (off:=1) (d:= .str []) zs9 (at1 S' (.cells [.bool false,.str v.2])) (by simp) rfl rfl
   rw[Cm3]at s2;replace s2:I4 prog 9 (.ptr S'.length 1) (.str []) (S'++ [.cells [.bool false,.str v.2]])=some (.undef,S'++ [.cells [.bool false,.str []]],[S'.length]):=s2;have l3:=Cm0 (at1 S' (.cells [.bool false,.str []]));have f1:=Cm2 (.bool false) (.str []) rfl;obtain⟨d',S2,W,ha,hk',hW,hle'⟩:=Aqi (v:=Cgn v) (htk.fr2 [.cells [.bool false,.str []],.cells (Cdo (Cgn v))]) (S'.length+1) (by rw[List.getElem?_append_right (by omega),Nat.add_sub_cancel_left];rfl) hlr (by simp;omega)
   rw[show Cdo (Cgn v)= [.bool false,.str []]from by unfold Cgn;rw[hb];rfl]at ha
   have hVW:∀id∈W,S.length≤id:=hW;have hpl:(S'++ [Obj.cells [.bool false,.str []]]).length=S'.length+1:=by simp
   have happ:S'++ [Obj.cells [.bool false,.str []]]++ [Obj.cells [.bool false,.str []]]=S'++ [.cells [.bool false,.str []],.cells [.bool false,.str []]]:=by simp
   repeat (first
    |refine A00 ?_|refine Asu ?_|refine Bkx ?_|refine Awr ?_|refine Ay7 ?_|refine Avq ?_|refine Bq (by decide) ?_|refine Eg rfl rfl ?_|refine Zc (by first|exact hVp|exact hVW) ?_
    |((first|refine Ei rfl rfl rfl rfl ?_|refine Ee rfl rfl ?_|refine Ed rfl rfl ?_|refine Bwz ?_);refine⟨_,by simp only[Bj,BB,Af,ev,Am,Ak,Ag,Gc,Ai,↓reduceIte,Nat.reduceEqDiff,Nat.reduceLT,Aj,Gn,hP,hl,e0,e3,e4,hln,g1,g2,ix,l1,Ci1,s1,Cl1,Cl5,l2,s2,l3,Cih,Chu,Cpx,Cns,hpl,happ,Ck7,ha,ad];first|done|rfl,?_⟩)
    |dsimp only)
   refine⟨10 - (i+1),by omega,i+1,d',rfl,by omega,by omega,?_,?_,?_,?_,by rw[htake];exact hk',by simp at hle';omega⟩
   all_goals (simp only[BB,Am,hl,e0,e3,e4,Nat.reduceEqDiff,↓reduceIte,Nat.reduceLT];first|done|rfl)
 ·have hend:Cf7 vs=(vs.take i).map Cgn:=by
   unfold Cf7;by_cases h1:i<vs.length
   ·rw[show i=10 from by omega]
   ·rw[List.take_of_length_le (show vs.length≤i by omega),List.take_of_length_le (show vs.length≤10 by omega)]
  rw[hend];have hif:(decide ((i:Int)<(vs.length:Int))=true∧decide ((i:Int)<10)=false)∨decide ((i:Int)<(vs.length:Int))=false:=by
   by_cases h1:i<vs.length
   ·exact .inl ⟨decide_eq_true (by omega),decide_eq_false (by omega)⟩
   ·exact .inr (decide_eq_false (by omega))
  rcases hif with⟨h1,h2⟩|h1
  all_goals
   rw[h1]at g1
   try rw[h2]at g2
   repeat (first
    |refine A00 ?_|refine Asu ?_|refine Bkx ?_|refine Awr ?_|refine Ay7 ?_|refine Avq ?_|refine Bq (by decide) ?_|refine Eg rfl rfl ?_
    |((first|refine Ei rfl rfl rfl rfl ?_|refine Ee rfl rfl ?_|refine Ed rfl rfl ?_|refine Bwz ?_);refine⟨_,by simp only[Bj,BB,Af,ev,Am,Ak,Ag,Gc,Ai,↓reduceIte,Nat.reduceEqDiff,Nat.reduceLT,Aj,Gn,hP,hl,e0,e3,e4,hln,g1,g2];first|done|rfl,?_⟩)
    |dsimp only)
   refine⟨.inr rfl,d,?_,htk⟩;show Gm C3.P _ _ [.tmp 2]=_;simp only[Gm,BB,Am,hl,Nat.reduceEqDiff,↓reduceIte,Nat.reduceLT]
theorem Crl(hN:20<N)(vs:List Vl)(S:St):∃d S',run C3 cf N 10 [.sl (Bow vs) .none] S=some (d,S',[])∧Cg8 S' d (Cf7 vs) S.length:=by
 obtain⟨y,e',st',V,h1,h2,h3,d,h4,h5⟩:=(Cq7 (N:=N) hK hN vs S).ex;have hx:Rp C3 (C3.hnd.contains 10) (C3.ords 10) cf N (fun i=>S.length≤i) (bd f10) (([.sl (Bow vs) .none]:List D)++List.replicate (f10.ntmps - ([.sl (Bow vs) .none]:List D).length) .undef) S (fun y' e'' st''=>(y'= .norm∨y'= .ret)∧Gm C3.P e'' st'' f10.results.toList=some [d]∧st''=st'):=⟨y,e',st',V,h1,h2,h3,h4,rfl⟩;rcases h5 with⟨rfl,hv⟩|⟨id,h6,rfl,h7,h8⟩
 ·refine⟨.nilsl,S,Bbg rfl hK func10 (bdy (by kernel_rfl)) (Chm hx fun y e' st' ⟨h1,h2,h3⟩=>⟨h1,_,_,st',h2,rfl,rfl,fun _ _=>rfl,.inl rfl⟩),.inl ⟨rfl,hv⟩⟩
 ·exact⟨_,st',Cet rfl hK func10 (bdy (by kernel_rfl)) (Chm hx fun y e' st' ⟨h1,h2,h3⟩=>⟨h1,_,_,st',h2,rfl,rfl,fun _ _=>rfl,by simp[oneOf,D8,h6],h3⟩),.inr ⟨id,h6,rfl,h7,h8⟩⟩
end
theorem Cn1(vs:List Vl):(Cf7 vs).length≤10:=by unfold Cf7;rw[List.length_map,List.length_take];omega
theorem Cpp{c:Nat}{S:St}{s:CP}{ids:List Nat}(h:CAt c S s ids):∀id∈ids,id<S.length:=fun id hid=>by
 obtain⟨h1,h2,h3⟩:=h;rcases List.mem_cons.1 hid with rfl|hid
 ·exact(List.getElem?_eq_some_iff.1 h1).1
 ·rcases List.mem_cons.1 hid with rfl|hid
  ·exact(List.getElem?_eq_some_iff.1 h2).1
  ·exact h3.lt.2 id hid
theorem Cpy(b o:Nat):Eh prog 29 (.ptr b o) 0=some (.ptr b o,.pure):=by kernel_rfl
theorem Cqc(b o:Nat):Eh prog 29 (.ptr b o) 1=some (.ptr b (o+1),.pure):=by kernel_rfl
theorem Cpv(id n i:Nat)(h:i<n):Cf prog 22 (.arr 2 id 0 n n) (.int .i64 (i:Int))=some (.ptr id (i*2),.pure):=by
 unfold Cf;rw[show E5 (.int .i64 (i:Int))=some i from by simp[E5]]
 dsimp only;rw[underlying22];simp[h,Chu]
theorem Cml(l:List Vl)(i:Nat)(v:Vl)(t:Tx)(h:l[i]?=some v):(Bow l).flatten.set (i*2+1) (.str t)=(Bow (l.set i (v.1,t))).flatten:=by
 induction l generalizing i with
 |nil=>cases h
 |cons x l ih=>
  rw[show(Bow (x::l)).flatten= .bool x.1:: .str x.2::(Bow l).flatten from rfl];cases i with
  |zero=>cases h;rfl
  |succ i=>
   rw[show(i+1)*2+1=(i*2+1)+2 from by omega]
   show D.bool x.1:: .str x.2::(Bow l).flatten.set (i*2+1) (.str t)=D.bool x.1:: .str x.2::(Bow (l.set i (v.1,t))).flatten;rw[ih i h]
theorem Cmg(l:List Vl)(i:Nat)(v:Vl)(b:Bool)(h:l[i]?=some v):(Bow l).flatten.set (i*2) (.bool b)=(Bow (l.set i (b,v.2))).flatten:=by
 induction l generalizing i with
 |nil=>cases h
 |cons x l ih=>
  rw[show(Bow (x::l)).flatten= .bool x.1:: .str x.2::(Bow l).flatten from rfl];cases i with
  |zero=>cases h;rfl
  |succ i=>
   rw[show(i+1)*2=i*2+2 from by omega]
   show D.bool x.1:: .str x.2::(Bow l).flatten.set (i*2) (.bool b)=D.bool x.1:: .str x.2::(Bow (l.set i (b,v.2))).flatten;rw[ih i h]
def Cm4(S:St)(d:D)(n:Nat):Prop:=n=0∨∃id l,d= .arr 2 id 0 n n∧l.length=n∧S[id]?=some (.cells (Bow l).flatten)
theorem Cg3.fr{S S':St}{d:D}{l:List Vl}(h:Cg3 S d l)(hf:∀id n m,d= .arr 2 id 0 n m→S'[id]?=S[id]?):Cg3 S' d l:=by
 cases h with
 |nil=>exact .nil
 |emp h=>exact .emp h
 |arr h h0=>exact .arr (by rw[hf _ _ _ rfl];exact h) h0
theorem Cg3.n{S:St}{d:D}{l:List Vl}(h:Cg3 S d l):Cm4 S d l.length:=by
 cases h with
 |nil=>exact .inl rfl
 |emp h=>exact .inl rfl
 |arr h h0=>exact .inr ⟨_,_,rfl,rfl,h⟩
theorem Cg8.v{S:St}{d:D}{l:List Vl}{n0:Nat}(h:Cg8 S d l n0):Cg3 S d l:=by
 rcases h with⟨rfl,rfl⟩|⟨id,_,rfl,h,h0⟩
 ·exact .nil
 ·exact .arr h h0
section
variable{cf:Ah}{N:Nat}(hK:∀f,Ba (cf f))
include hK
set_option maxHeartbeats 4000000 in
theorem Bd8{cf2:Ah}(hN:300<N)(h9:Ao cf 9 [] (.bool true))(h10:∀vs S,∃d S',cf 10 [.sl (Bow vs) .none] S=some (d,S',[])∧Cg8 S' d (Cf7 vs) S.length)
  (h11:∀(x:Int) S,cf 11 [.int .i64 x] S=some (.ptr (S.length+1) 0,S++ [.map [],.cells [.int .i64 (Cbp x:Int),.nilsl,.map S.length,.int .i64 0]],[]))
  (hput:∀(c:Nat) (s:CP) (k:Tx) (vs:List Vl) (vd:D),Cgg s→s.room≠0→B16 k s.l=none→¬ s.room<s.l.length+1→∀(S:St) (ids:List Nat),CAt c S s ids→(∀T:St,(∀i,i<S.length→i ∉ ids→T[i]?=S[i]?)→∃d more more',cf2 43 [vd] T=some (d,T++more,[])∧Sl Gu (T++more) d=some (.sl (Bow vs) .none,T++more')∧more'.length=more.length)→∃S' W ids',cf 12 [.ptr c 0,.str k,vd] S=some (.bool true,S',W)∧(∀i∈W,i∈ids)∧CAt c S' ⟨s.room,s.l++ [(k,vs)],s.gone⟩ ids'∧(∀i∈ids',i∈ids∨S.length≤i))
  (hget:∀(c:Nat) (s:CP) (k:Tx),(∀e∈s.l,e.2.length<2 ^ 30)→∀(S:St) (ids:List Nat),CAt c S s ids→∃d more,cf 13 [.ptr c 0,.str k] S=some (.tup [d,.bool (B16 k s.l).isSome],S++more,[])∧Cg3 (S++more) d ((B16 k s.l).getD [])∧(B16 k s.l=none→d= .nilsl∧more= [])∧(∀id n m,d= .arr 2 id 0 n m→S.length≤id))
  (heq:∀(a:List Vl) (x y:D) (S:St),Cg3 S x a→Cg3 S y a→a.length≤10→cf 14 [x,y] S=some (.bool true,S,[]))
  (hcn:∀T,cf2 43 [.nilsl] T=some (.nilsl,T,[]))(hca:∀(T:St) (id:Nat) (v:Vl) (l:List Vl),T[id]?=some (.cells (Bow (v::l)).flatten)→l.length<2 ^ 30→cf2 43 [.arr 2 id 0 (l.length+1) (l.length+1)] T=some (.arr 2 (T.length+1) 0 (l.length+1) (l.length+1),T++ [.dead,.cells (Bow (v::l)).flatten],[]))
  (vs:List Vl):Ao (run C3 cf N) 3 [.sl (Bow vs) .none] (.bool true):=fun S=>by
 have hP:C3.P=prog:=rfl;refine Bbg rfl hK func3 (bdy (by kernel_rfl)) ?_
 rw[show C3.hnd.contains 3=true from rfl];generalize he:(([.sl (Bow vs) .none]:List D)++List.replicate (f3.ntmps - ([.sl (Bow vs) .none]:List D).length) .undef)=e;have hl:e.length=69:=by rw[← he];rfl
 have e0:e.getD 0 .undef= .sl (Bow vs) .none:=by rw[← he];rfl
 clear he;have hc9:∀S,G6 C3 cf 9 [] [] [] S=some (.bool true,S,[]):=fun S=>Amz (by kernel_rfl) rfl rfl (h9 S)
 have hll:=Cn1 vs;obtain⟨d,S1,hr1,hd1⟩:=h10 vs S;generalize Cf7 vs=l at hd1 hll;have hk1:=hK 10 _ _ _ _ _ hr1;have hc10:G6 C3 cf 10 [] [] [.sl (Bow vs) .none] S=some (d,S1,[]):=by
  unfold G6;rw[show Dm C3.P 10=true from by kernel_rfl,show C3.byRef.contains 10=false from rfl]
  have hz:Cw S [.sl (Bow vs) .none]=some ([.sl (Bow vs) .none],S):=rfl;simp only[Bool.not_true,BF,hz,List.nil_append,List.append_nil,hr1];rw[if_neg,Du]
  ·rfl
  ·rcases hd1 with⟨rfl,_⟩|⟨id,_,rfl,_⟩<;>simp[Sn,R3]
 have hS1:S.length≤S1.length:=hk1.1;obtain⟨dw,mw,hap,hw2⟩:∃dw mw,C8 prog true 22 .nilsl d S1=some (dw,S1++mw,[])∧Cg8 (S1++mw) dw l S1.length:=by
  rcases hd1 with⟨rfl,rfl⟩|⟨id,h1,rfl,h3,h4⟩
  ·refine⟨.nilsl,[],?_,.inl ⟨rfl,rfl⟩⟩;unfold C8;rw[Cih];dsimp only;rw[Chu,Bhp];simp[rowsOf,A7y]
  ·have hr:=Cir h3 l.length;have ha:(Bow l).all (fun r=>r.length == 2 && r.all Al)=true:=Cia _ _ fun v=>by simp[Cdo,Al]
   have hne:(Bow l).isEmpty=false:=by
    cases l with
    |nil=>exact absurd rfl h4
    |cons=>rfl
   refine⟨.arr 2 S1.length 0 l.length l.length,[.cells (Bow l).flatten],?_,.inr ⟨S1.length,Nat.le_refl _,rfl,at1 _ _,h4⟩⟩;unfold C8;rw[Cih];dsimp only;rw[Chu,Bhp,hr];dsimp only;rw[ha,A7y];simp only[Bool.and_self,if_true,hne,BF,Chg];rw[if_pos];simp only[Bool.and_eq_true,decide_eq_true_eq];unfold Dh;omega
 obtain⟨S2,hS2⟩:∃S2,S2=S1++mw:=⟨_,rfl⟩;rw[← hS2]at hap hw2;have hd2:Cg8 S2 d l S.length:=by rw[hS2];exact hd1.fr2 _
 have hS2l:S1.length≤S2.length:=by rw[hS2];simp
 obtain⟨S3,hS3⟩:∃S3,S3=S2++ [.map [],.cells [.int .i64 ((3:Nat):Int),.nilsl,.map S2.length,.int .i64 0]]:=⟨_,rfl⟩;have hS3l:S3.length=S2.length+2:=by rw[hS3];simp
 have hc11:G6 C3 cf 11 [] [] [.int .i64 3] S2=some (.ptr (S2.length+1) 0,S3,[]):=by
  unfold G6;rw[show Dm C3.P 11=true from by kernel_rfl,show C3.byRef.contains 11=false from rfl]
  have hz:Cw S2 [.int .i64 3]=some ([.int .i64 3],S2):=rfl;have:=h11 3 S2;rw[show Cbp 3=3 from rfl,← hS3]at this;simp only[Bool.not_true,BF,hz,List.nil_append,List.append_nil,this];rw[Du];rfl
 obtain⟨c,hcc⟩:∃c,c=S2.length+1:=⟨_,rfl⟩;rw[← hcc]at hc11;have hat3:CAt c S3 ⟨3,[],0⟩ [c,S2.length]:=by
  refine .mk (kd:= .nilsl) (ks:= []) ?_ ?_ .nil
  ·rw[hS3,hcc];exact at2 _ _ _
  ·rw[hS3,List.getElem?_append_right (Nat.le_refl _),Nat.sub_self];rfl
 have hd3:Cg8 S3 d l S.length:=by rw[hS3];exact hd2.fr2 _
 have hw3:Cg8 S3 dw l S1.length:=by rw[hS3];exact hw2.fr2 _
 have hdid:∀id n m,d= .arr 2 id 0 n m→id<S1.length∧S.length≤id:=fun id n m e=>by
  rcases hd1 with⟨rfl,_⟩|⟨id',h1,rfl,h3,_⟩
  ·cases e
  ·cases e;exact⟨(List.getElem?_eq_some_iff.1 h3).1,h1⟩
 have hwid:∀id n m,dw= .arr 2 id 0 n m→id<S2.length∧S1.length≤id:=fun id n m e=>by
  rcases hw2 with⟨rfl,_⟩|⟨id',h1,rfl,h3,_⟩
  ·cases e
  ·cases e;exact⟨(List.getElem?_eq_some_iff.1 h3).1,h1⟩
 obtain⟨S4,W4,ids4,hcp,hW4,hat4,hids4⟩:=hput c ⟨3,[],0⟩ [107] l d ⟨by show 3≤200;decide,by show 0≤3;decide,by show 0<2 ^ 60;decide,by simp⟩ (by show 3≠0;decide) rfl (by show ¬ 3<0+1;decide) S3 _ hat3 (fun T hT=>by
  rcases hd3 with⟨rfl,rfl⟩|⟨id,h1,rfl,h3,h4⟩
  ·exact⟨.nilsl,[],[],by rw[List.append_nil];exact hcn T,by rw[List.append_nil];rfl,rfl⟩
  ·obtain⟨v,l',rfl⟩:∃v l',l=v::l':=by
    cases l with
    |nil=>exact absurd rfl h4
    |cons v l'=>exact⟨_,_,rfl⟩
   have hid:=hdid id _ _ rfl;have hTi:T[id]?=some (.cells (Bow (v::l')).flatten):=by
    rw[hT id (by omega) (by simp;omega)]
    exact h3
   exact⟨_,_,[.dead,.fcells (Bow (v::l')).flatten],hca T id v l' hTi (by simp only[List.length_cons]at hll;omega),Cgr (v::l') T,rfl⟩)
 have hk4:=hK 12 _ _ _ _ _ hcp;have hc12:G6 C3 cf 12 [] [] [.ptr c 0,.str [107],d] S3=some (.bool true,S4,W4):=by
  rw[Cdz (by kernel_rfl) rfl]
  exact hcp
 have hW4':∀i∈W4,i=c∨i=S2.length:=fun i hi=>by simpa using hW4 i hi
 have hVW4:∀id∈W4,S.length≤id:=fun id hid=>by rcases hW4' id hid with h|h<;>omega
 have hfr4:∀i,i<S2.length→S4[i]?=S3[i]?:=fun i hi=>hk4.2 i (by omega) fun hm=>by rcases hW4' i hm with h|h<;>omega
 have hd4:Cg3 S4 d l:=hd3.v.fr fun id n m e=>hfr4 id (by have:=hdid id n m e;omega)
 have hw4:Cg3 S4 dw l:=hw3.v.fr fun id n m e=>hfr4 id (hwid id n m e).1;have hids4':∀i∈ids4,S2.length≤i∧i<S4.length:=fun i hi=>by
  refine⟨?_,Cpp hat4 i hi⟩;rcases hids4 i hi with h|h
  ·simp at h;omega
  ·omega
 have hln4:=fun T=>hd4.len T;refine Bj8 ?_;obtain⟨code,hcode⟩:∃code,code=strip (bd f3):=⟨_,rfl⟩;rw[← hcode];simp only[bd,f3,strip,Dl,List.map_toArray,MC]at hcode;subst hcode
 repeat (first
  |refine A00 ?_|refine Asu ?_|refine Bkx ?_|refine Awr ?_|refine Ay7 ?_|refine Bq (by decide) ?_|refine Eg rfl rfl ?_|refine Zc (by first|exact hVW4|(simp;done)) ?_
  |((first|refine Ei rfl rfl rfl rfl ?_|refine Ee rfl rfl ?_|refine Ed rfl rfl ?_|refine Bwz ?_);refine⟨_,by simp only[Bj,BB,Af,ev,Am,Ak,Ag,Gc,Ai,↓reduceIte,Nat.reduceEqDiff,Nat.reduceLT,Aj,Gn,hP,hl,e0,hc9,hc10,Ck7,hap,hc11,hc12,hln4];first|done|rfl,?_⟩)
  |dsimp only)
 refine Awv (fun k e' S'=>∃i,k=l.length - i∧i≤l.length∧e'.length=69∧e'.getD 0 .undef=d∧e'.getD 4 .undef=dw∧e'.getD 5 .undef= .ptr c 0∧e'.getD 24 .undef= .int .i64 (l.length:Int)∧e'.getD 25 .undef= .int .i64 (i:Int)∧S'.length=S4.length∧(∀j,(∀n m,d≠ .arr 2 j 0 n m)→S'[j]?=S4[j]?)∧Cm4 S' d l.length) l.length (by omega) ?_ ?_
 ·refine⟨0,rfl,Nat.zero_le _,?_,?_,?_,?_,?_,?_,rfl,fun _ _=>rfl,hd4.n⟩
  all_goals (simp only[BB,Am,hl,Nat.reduceEqDiff,↓reduceIte,Nat.reduceLT];first|done|rfl)
 clear e0 hl e hc10 hap hc11 hc12;rintro k e S5 ⟨i,rfl,hi,hl,e0,e4,e5,e24,e25,hS5l,hfr5,hn5⟩;have g1:=B5p 3 (i:Int) (l.length:Int);by_cases hlt:i<l.length
 ·rw[decide_eq_true (by omega)]at g1
  obtain⟨id,l',rfl,hl',hid⟩:=hn5.resolve_left (by omega)
  have hdi:=hdid id _ _ rfl;obtain⟨v,hv⟩:∃v,l'[i]?=some v:=⟨_,List.getElem?_eq_getElem (by omega)⟩
  have ix:=Cpv id l.length i hlt;have fa:=Cqc id (i*2);have st:=Ci2 (off:=i*2+1) (d:= .str [116,117,114,110,101,100]) zs9 hid (by rw[Chj];omega) rfl rfl
  rw[Cml l' i v _ hv]at st;have ad:Bo prog .add 3 (.int .i64 (i:Int)) (.int .i64 1)=some (.int .i64 ((i+1:Nat):Int)):=Cgf 3 (i:Int) 1 (by omega)
  have hVi:∀x∈ [id],S.length≤x:=by simpa using hdi.2
  repeat (first
   |refine A00 ?_|refine Asu ?_|refine Bkx ?_|refine Awr ?_|refine Ay7 ?_|refine Avq ?_|refine Bq (by decide) ?_|refine Eg rfl rfl ?_|refine Zc hVi ?_
   |((first|refine Ei rfl rfl rfl rfl ?_|refine Ee rfl rfl ?_|refine Ed rfl rfl ?_|refine Bwz ?_);refine⟨_,by simp only[Bj,BB,Af,ev,Am,Ak,Ag,Gc,Ai,↓reduceIte,Nat.reduceEqDiff,Nat.reduceLT,Aj,Gn,hP,hl,e0,e24,e25,g1,ix,fa,st,ad];first|done|rfl,?_⟩)
   |dsimp only)
  refine⟨l.length - (i+1),by omega,i+1,rfl,by omega,?_,?_,?_,?_,?_,?_,by rw[List.length_set];exact hS5l,fun j hj=>?_,.inr ⟨id,_,rfl,?_,B58 hid⟩⟩
  ·simp only[BB,Am,hl,Nat.reduceEqDiff,↓reduceIte,Nat.reduceLT]
  ·simp only[BB,Am,hl,e0,Nat.reduceEqDiff,↓reduceIte,Nat.reduceLT]
  ·simp only[BB,Am,hl,e4,Nat.reduceEqDiff,↓reduceIte,Nat.reduceLT]
  ·simp only[BB,Am,hl,e5,Nat.reduceEqDiff,↓reduceIte,Nat.reduceLT]
  ·simp only[BB,Am,hl,e24,Nat.reduceEqDiff,↓reduceIte,Nat.reduceLT]
  ·simp only[BB,Am,hl,e25,Nat.reduceEqDiff,↓reduceIte,Nat.reduceLT]
  ·rw[B5o (fun e=>hj l.length l.length (by rw[e]))]
   exact hfr5 j hj
  ·rw[List.length_set];exact hl'
 ·rw[decide_eq_false (by omega)]at g1
  have hnd:∀j,S1.length≤j→∀n m,d≠ .arr 2 j 0 n m:=fun j hj n m e=>by have:=hdid j n m e;omega
  have hat5:CAt c S5 ⟨3,[([107],l)],0⟩ ids4:=(Cep c).fr _ _ _ _ hat4 fun j hj=>hfr5 j (hnd j (by have:=hids4' j hj;omega))
  have hw5:Cg3 S5 dw l:=hw4.fr fun id n m e=>hfr5 id (hnd id (hwid id n m e).2);obtain⟨da,m6,hg6,ha6,_,hafr6⟩:=hget c ⟨3,[([107],l)],0⟩ [107] (fun e he=>by
   obtain rfl:e=([107],l):=by simpa using he
   show l.length<2 ^ 30;omega) S5 ids4 hat5
  rw[show B16 [107] [(([107]:Tx),l)]=some l from rfl]at hg6 ha6;replace ha6:Cg3 (S5++m6) da l:=ha6;obtain⟨S6,hS6⟩:∃S6,S6=S5++m6:=⟨_,rfl⟩;rw[← hS6]at hg6 ha6;have hS6l:S5.length≤S6.length:=by rw[hS6];simp
  have hfr6:∀i,i<S5.length→S6[i]?=S5[i]?:=fun i hi=>by rw[hS6];exact List.getElem?_append_left hi
  have hc13:G6 C3 cf 13 [] [] [.ptr c 0,.str [107]] S5=some (.tup [da,.bool true],S6,[]):=by
   unfold G6;rw[show Dm C3.P 13=true from by kernel_rfl,show C3.byRef.contains 13=false from rfl]
   have hz:Cw S5 [.ptr c 0,.str [107]]=some ([.ptr c 0,.str [107]],S5):=rfl;simp only[Bool.not_true,BF,hz,List.nil_append,List.append_nil,hg6];rw[if_neg,Du]
   ·rfl
   ·cases ha6<;>simp[Sn,R3]
  have hwlt:∀id n m,dw= .arr 2 id 0 n m→id<S4.length:=fun id n m e=>by have:=hwid id n m e;have:=hk4.1;omega
  have hw6:Cg3 S6 dw l:=hw5.fr fun id n m e=>hfr6 id (by rw[hS5l];exact hwlt id n m e)
  have hc14:G6 C3 cf 14 [] [] [da,dw] S6=some (.bool true,S6,[]):=by
   rw[Cdz (by kernel_rfl) rfl]
   exact heq l da dw S6 ha6 hw6 hll
  have hln6:=fun T=>ha6.len T;have hat6:CAt c S6 ⟨3,[([107],l)],0⟩ ids4:=(Cep c).fr _ _ _ _ hat5 fun j hj=>hfr6 j (by rw[hS5l];exact(hids4' j hj).2)
  have hkg:=hK 13 _ _ _ _ _ hg6;have hS5S:S.length≤S5.length:=by rw[hS5l];have:=hk4.1;omega
  have hafr:l.length=0∨∃id,da= .arr 2 id 0 l.length l.length∧id ∉ ids4∧(∀n m,dw≠ .arr 2 id 0 n m)∧S.length≤id:=by
   generalize hda:da=da' at ha6 hafr6;cases ha6 with
   |nil=>exact .inl rfl
   |emp h=>exact .inl rfl
   |arr h h0=>rename_i id;have h1:=hafr6 id _ _ rfl;exact .inr ⟨id,rfl,fun hm=>by have:=(hids4' id hm).2;omega,fun n m e=>by have:=hwlt id n m e;omega,by omega⟩
  repeat (first
   |refine A00 ?_|refine Asu ?_|refine Bkx ?_|refine Awr ?_|refine Ay7 ?_|refine Avq ?_|refine Bq (by decide) ?_|refine Eg rfl rfl ?_|refine Zc (V:= []) (by simp) ?_
   |((first|refine Ei rfl rfl rfl rfl ?_|refine Ee rfl rfl ?_|refine Ed rfl rfl ?_|refine Bwz ?_);refine⟨_,by simp only[Bj,BB,Af,ev,Am,Ak,Ag,Gc,Ai,↓reduceIte,Nat.reduceEqDiff,Nat.reduceLT,Aj,Gn,hP,hl,e0,e4,e5,e24,e25,g1,hc13,hc14,hln6];first|done|rfl,?_⟩)
   |dsimp only)
  refine Awv (fun k e' S'=>∃i,k=l.length - i∧i≤l.length∧e'.length=69∧e'.getD 7 .undef=da∧e'.getD 4 .undef=dw∧e'.getD 5 .undef= .ptr c 0∧e'.getD 43 .undef= .int .i64 (l.length:Int)∧e'.getD 44 .undef= .int .i64 (i:Int)∧S'.length=S6.length∧(∀j,(∀n m,da≠ .arr 2 j 0 n m)→S'[j]?=S6[j]?)∧Cm4 S' da l.length) l.length (by omega) ?_ ?_
  ·refine⟨0,rfl,Nat.zero_le _,?_,?_,?_,?_,?_,?_,rfl,fun _ _=>rfl,ha6.n⟩
   all_goals (simp only[BB,Am,hl,e4,e5,Nat.reduceEqDiff,↓reduceIte,Nat.reduceLT];first|done|rfl)
  clear e0 e4 e5 e24 e25 hl e g1 hc13 hc14;rintro k e S7 ⟨i,rfl,hi,hl,e7,e4,e5,e43,e44,hS7l,hfr7,hn7⟩;have g1:=B5p 3 (i:Int) (l.length:Int);by_cases hlt:i<l.length
  ·rw[decide_eq_true (by omega)]at g1
   obtain⟨id,l',hda,hl',hid⟩:=hn7.resolve_left (by omega)
   obtain⟨id',hda',_,_,hidS⟩:=hafr.resolve_left (by omega)
   have hii:id'=id:=by rw[hda]at hda';cases hda';rfl
   subst hii;obtain⟨v,hv⟩:∃v,l'[i]?=some v:=⟨_,List.getElem?_eq_getElem (by omega)⟩
   have ix:=Cpv id' l.length i hlt;rw[← hda]at ix;have fa:=Cpy id' (i*2);have ld:=Ceq (off:=i*2) zs4 zu4 za4 hid (Cj3 hv).1;have st:=Ci2 (off:=i*2) (d:= .bool (!v.1)) zs4 hid (by rw[Chj];omega) rfl rfl
   rw[Cmg l' i v _ hv]at st;have ad:Bo prog .add 3 (.int .i64 (i:Int)) (.int .i64 1)=some (.int .i64 ((i+1:Nat):Int)):=Cgf 3 (i:Int) 1 (by omega)
   have hVi:∀x∈ [id'],S.length≤x:=by simpa using hidS
   repeat (first
    |refine A00 ?_|refine Asu ?_|refine Bkx ?_|refine Awr ?_|refine Ay7 ?_|refine Avq ?_|refine Bq (by decide) ?_|refine Eg rfl rfl ?_|refine Zc hVi ?_
    |((first|refine Ei rfl rfl rfl rfl ?_|refine Ee rfl rfl ?_|refine Ed rfl rfl ?_|refine Bwz ?_);refine⟨_,by simp only[Bj,BB,Af,ev,Am,Ak,Ag,Gc,Ai,↓reduceIte,Nat.reduceEqDiff,Nat.reduceLT,Aj,Gn,hP,hl,e7,e43,e44,g1,ix,fa,ld,st,ad];first|done|rfl,?_⟩)
    |dsimp only)
   refine⟨l.length - (i+1),by omega,i+1,rfl,by omega,?_,?_,?_,?_,?_,?_,by rw[List.length_set];exact hS7l,fun j hj=>?_,.inr ⟨id',_,hda,?_,B58 hid⟩⟩
   ·simp only[BB,Am,hl,Nat.reduceEqDiff,↓reduceIte,Nat.reduceLT]
   ·simp only[BB,Am,hl,e7,Nat.reduceEqDiff,↓reduceIte,Nat.reduceLT]
   ·simp only[BB,Am,hl,e4,Nat.reduceEqDiff,↓reduceIte,Nat.reduceLT]
   ·simp only[BB,Am,hl,e5,Nat.reduceEqDiff,↓reduceIte,Nat.reduceLT]
   ·simp only[BB,Am,hl,e43,Nat.reduceEqDiff,↓reduceIte,Nat.reduceLT]
   ·simp only[BB,Am,hl,e44,Nat.reduceEqDiff,↓reduceIte,Nat.reduceLT]
   ·rw[B5o (fun e=>hj l.length l.length (by rw[e];exact hda))]
    exact hfr7 j hj
   ·rw[List.length_set];exact hl'
  ·rw[decide_eq_false (by omega)]at g1
   have hda:∀j,j∈ids4∨(∃n m,dw= .arr 2 j 0 n m)→S7[j]?=S6[j]?:=fun j hj=>by
    rcases hafr with h0|⟨id,hda,h1,h2,_⟩
    ·refine hfr7 j fun n m e=>?_;rw[e]at ha6;cases ha6 with
     |arr h hne=>exact hne (List.eq_nil_of_length_eq_zero h0)
    ·refine hfr7 j fun n m e=>?_;rw[hda]at e;cases e;rcases hj with hj|⟨n,m,hj⟩
     ·exact h1 hj
     ·exact h2 _ _ hj
   have hat7:CAt c S7 ⟨3,[([107],l)],0⟩ ids4:=(Cep c).fr _ _ _ _ hat6 fun j hj=>hda j (.inl hj);have hw7:Cg3 S7 dw l:=hw6.fr fun id n m e=>hda id (.inr ⟨n,m,e⟩);obtain⟨db,m8,hg8,hb8,_,_⟩:=hget c ⟨3,[([107],l)],0⟩ [107] (fun e he=>by
    obtain rfl:e=([107],l):=by simpa using he
    show l.length<2 ^ 30;omega) S7 ids4 hat7
   rw[show B16 [107] [(([107]:Tx),l)]=some l from rfl]at hg8 hb8;replace hb8:Cg3 (S7++m8) db l:=hb8;have hc13:G6 C3 cf 13 [] [] [.ptr c 0,.str [107]] S7=some (.tup [db,.bool true],S7++m8,[]):=by
    unfold G6;rw[show Dm C3.P 13=true from by kernel_rfl,show C3.byRef.contains 13=false from rfl]
    have hz:Cw S7 [.ptr c 0,.str [107]]=some ([.ptr c 0,.str [107]],S7):=rfl;simp only[Bool.not_true,BF,hz,List.nil_append,List.append_nil,hg8];rw[if_neg,Du]
    ·rfl
    ·cases hb8<;>simp[Sn,R3]
   have hw8:Cg3 (S7++m8) dw l:=hw7.fr fun id n m e=>List.getElem?_append_left (by have:=hwlt id n m e;omega)
   have hc14:G6 C3 cf 14 [] [] [db,dw] (S7++m8)=some (.bool true,S7++m8,[]):=by
    rw[Cdz (by kernel_rfl) rfl]
    exact heq l db dw _ hb8 hw8 hll
   repeat (first
    |refine A00 ?_|refine Asu ?_|refine Bkx ?_|refine Awr ?_|refine Ay7 ?_|refine Avq ?_|refine Bq (by decide) ?_|refine Eg rfl rfl ?_|refine Zc (V:= []) (by simp) ?_
    |((first|refine Ei rfl rfl rfl rfl ?_|refine Ee rfl rfl ?_|refine Ed rfl rfl ?_|refine Bwz ?_);refine⟨_,by simp only[Bj,BB,Af,ev,Am,Ak,Ag,Gc,Ai,↓reduceIte,Nat.reduceEqDiff,Nat.reduceLT,Aj,Gn,hP,hl,e7,e4,e5,e43,e44,g1,hc13,hc14];first|done|rfl,?_⟩)
    |dsimp only)
   refine⟨.inr rfl,[.bool true],[.bool true],_,?_,rfl,rfl,fun _ _=>rfl,.inl rfl⟩;show Gm C3.P _ _ [.tmp 2]=_;simp only[Gm,BB,Am,hl,Nat.reduceEqDiff,↓reduceIte,Nat.reduceLT]
end
end Go.Vam
namespace Go.Vam
open Go.Proofs Go.Proofs.Tryz Go.RowKit
theorem Crd{β:Nat→Nat→Option Value}{nat:FuncId→Option Bz}(hn:Ww C3 β nat)(N n:Nat):Ctx C3 (Ii C3 nat N n) β:=
 Bka (C:=C3) A8y (fun f x h=>by cases h) Bep Bbq hn N n
noncomputable def Cg9:Bz:=fun cf args st=>match B5v cf args st with
 |some r=>some r
 |none=>run C3 cf 2000 43 args st
noncomputable def Clw:FuncId→Option Bz:=fun f=>if f=9 then some (Im Np)else if f=43 then some Cg9 else none
theorem Cpl{β:Nat→Nat→Option Value}(hM:I6 β)(hT:Aw0 β):Ww C3 β Clw:=by
 have h9:∀r∈Np,Akr prog β 9 r.1 r.2:=B60 hM hT (9,Np) (List.mem_cons_self ..);refine⟨fun f nt h cf hX=>?_,fun f nt h cf hk=>?_⟩
 ·unfold Clw at h;split at h
  ·rename_i hf;cases h;rw[hf];exact Qg h9 cf
  split at h
  ·rename_i hf;cases h;rw[hf];intro args st v st' W h;unfold Cg9 at h;split at h
   ·rename_i r hr;cases h;exact Cgi cf args st v st' W hr
   ·exact Ar5 hX 2000 43 args st v st' W h
  ·cases h
 ·unfold Clw at h;split at h
  ·cases h;exact Ou cf
  split at h
  ·cases h;intro args st v st' W h;unfold Cg9 at h;split at h
   ·rename_i r hr;cases h;exact Cga cf args st v st' W hr
   ·exact Arx hk 2000 43 args st v st' W h
  ·cases h
noncomputable abbrev CO(n:Nat):Ah:=Ii C3 Clw 2000 n
section
variable(hK:∀n f,Ba (CO n f))
theorem nO{n:Nat}{f:FuncId}{g:Bz}{xs:List D}{S:St}{r:Option (D × St × Cb)}(h:Clw f=some g)(hv:g (CO n) xs S=r):CO (n+1) f xs S=r:=by
 show(match Clw f with|some g=>g (CO n) xs S|none=>run C3 (CO n) 2000 f xs S)=_
 rw[h];exact hv
theorem o9(n:Nat):Ao (CO (n+1)) 9 [] (.bool true):=fun S=>nO (g:=Im Np) rfl rfl
include hK
theorem o43(n:Nat):Cgk (CO (n+1)):= {
 n S:=nO (g:=Cg9) rfl (Co8 (N:=2000) (hK n) S)
 e S:=nO (g:=Cg9) rfl rfl
 c v l S hl:=nO (g:=Cg9) rfl (Cpc (N:=2000) (hK n) v l S hl)}
theorem Css(n:Nat)(T:St)(id:Nat)(v:Vl)(l:List Vl)(h:T[id]?=some (.cells (Bow (v::l)).flatten))(hl:l.length<2 ^ 30):CO (n+1) 43 [.arr 2 id 0 (l.length+1) (l.length+1)] T=some (.arr 2 (T.length+1) 0 (l.length+1) (l.length+1),T++ [.dead,.cells (Bow (v::l)).flatten],[]):=
 nO (g:=Cg9) rfl (Cod (N:=2000) (hK n) v l T hl id h)
theorem o13(n c:Nat)(s:CP)(k:Tx)(hs:∀e∈s.l,e.2.length<2 ^ 30)(S:St)(ids:List Nat)(h0:CAt c S s ids):∃d more,CO (n+2) 13 [.ptr c 0,.str k] S=some (.tup [d,.bool (B16 k s.l).isSome],S++more,[])∧Cg3 (S++more) d ((B16 k s.l).getD [])∧(B16 k s.l=none→d= .nilsl∧more= [])∧(∀id n m,d= .arr 2 id 0 n m→S.length≤id):=by obtain⟨d,more,h1,h2⟩:=Csz (N:=2000) (hK (n+1)) (o43 hK n) c s k hs S ids h0;exact⟨d,more,(Qd rfl).trans h1,h2⟩
theorem o12(n c:Nat)(s:CP)(k:Tx)(vs:List Vl)(vd:D)(hG:Cgg s)(hr:s.room≠0)(hn:B16 k s.l=none)(hlt:¬ s.room<s.l.length+1)(S:St)(ids:List Nat)(h0:CAt c S s ids)
  (hcl:∀T:St,(∀i,i<S.length→i ∉ ids→T[i]?=S[i]?)→∃d more more',CO (n+2) 43 [vd] T=some (d,T++more,[])∧Sl Gu (T++more) d=some (.sl (Bow vs) .none,T++more')∧more'.length=more.length):
  ∃S' W ids',CO (n+3) 12 [.ptr c 0,.str k,vd] S=some (.bool true,S',W)∧(∀i∈W,i∈ids)∧CAt c S' ⟨s.room,s.l++ [(k,vs)],s.gone⟩ ids'∧(∀i∈ids',i∈ids∨S.length≤i):=by
 obtain⟨d,more,h1,_,h3,_⟩:=o13 hK n c s k hG.val S ids h0;obtain⟨rfl,rfl⟩:=h3 hn;rw[hn,List.append_nil]at h1;obtain⟨S',W,ids',h4,h5⟩:=Csm (N:=2000) (hK (n+2)) c s k vs vd hG hr hn hlt S ids h0 h1 hcl;exact⟨S',W,ids',(Qd rfl).trans h4,h5⟩
theorem Bfr(vs:List Vl):Ao (CO 10) 3 [.sl (Bow vs) .none] (.bool true):=fun st=>by
 rw[show CO 10 3 [.sl (Bow vs) .none] st=run C3 (CO 9) 2000 3 [.sl (Bow vs) .none] st from Qd rfl];refine Bd8 (cf2:=CO 8) (hK 9) (by decide) (o9 8) (fun vs S=>?_) (fun x S=>(Qd rfl).trans (Coj (N:=2000) (hK 8) x S)) (fun c s k vs vd hG hr hn hlt S ids h0 hcl=>?_) (fun c s k hs S ids h0=>o13 hK 7 c s k hs S ids h0) (fun a x y S hx hy ha=>?_) (fun T=>(o43 hK 7).n T) (fun T id v l h hl=>Css hK 7 T id v l h hl) vs st
 ·obtain⟨d,S',h1,h2⟩:=Crl (N:=2000) (hK 8) (by decide) vs S
  exact⟨d,S',(Qd rfl).trans h1,h2⟩
 ·exact o12 hK 6 c s k vs vd hG hr hn hlt S ids h0 hcl
 ·have:=eq3 (N:=2000) (hK 8) a a x y S hx hy (by omega) (by omega)
  rw[decide_eq_true rfl]at this;exact(Qd rfl).trans this
end
theorem Clo{α:Type}{f:α→List D}:∀(rows:List (List D)),(∀r∈rows,∃a,r=f a)→∃l:List α,rows=l.map f
 | [],_=>⟨[],rfl⟩
 |r::rows,h=>by
  obtain⟨a,rfl⟩:=h r (by simp)
  obtain⟨l,rfl⟩:=Clo rows fun r hr=>h r (by simp[hr])
  exact⟨a::l,rfl⟩
theorem Csy{n:Nat}{ds:List D}(h:TyD prog (n+3) 22 ds):∃vs:List Vl,ds= [.sl (Bow vs) .none]:=by
 unfold TyD at h;rw[underlying22]at h;obtain⟨rows,rfl,_,h⟩:=h;obtain⟨vs,rfl⟩:=Clo (f:=Cdo) rows fun r hr=>by
  obtain⟨_,h2⟩:=h r hr;unfold TyD at h2;rw[underlying29]at h2;obtain⟨h3,h4⟩:=h2
  match r,h3 with
  | [a,b],_=>have ha:TyD prog (n+1) 4 [a]:=h4 0 _ a rfl rfl;have hb:TyD prog (n+1) 9 [b]:=h4 1 _ b rfl rfl;unfold TyD at ha hb;rw[underlying4]at ha;rw[underlying9]at hb;obtain⟨x,hx⟩:=ha;obtain⟨y,hy,_⟩:=hb;cases hx;cases hy;exact⟨(x,y),rfl⟩
 exact⟨vs,rfl⟩
theorem Cpr:Cgu prog 3 22=true:=by kernel_rfl
theorem Aps.sameO{W W':World}(h:Aps W W'){p:MemPlace}(hp:p.block<W.heap.size):W.sameAt W' p:=by
 cases p with
 |cell b o=>exact World.cell?_of_block (w:=W) (h.up b hp)
 |map b=>exact h.up b hp
theorem Bb9{W:World}{H:Type}{enc:TypeId × Value→H}{spare:Nat→Bool}{held:Bool}(hm:∃m,W.cell? ⟨1,0,none⟩=some (.int .i64 m))(ht:Lib.TabIs prog W "internal/strconv.uint64pow10" .u64 Lib.pow10Tab)(a:Option Addr)(len cap:Nat){d:DataW H}{ps:List MemPlace}
  (hd:DataW.Trod enc prog W 0 spare held 22 (.slice a len cap) d ps):Calls prog 3 #[.slice a len cap] W fun e W'=>e= .returned (.bool true)∧Aps W W':=by
 obtain⟨fuel,hf⟩:=hd;obtain⟨ds,h1,h2⟩:=Cgq 3 22 fuel _ _ Cpr hf;obtain⟨vs,rfl⟩:=Csy (n:=0) h1;have hv:VR (gA W) (.sl (Bow vs) .none) (.slice a len cap):=h2.at_ 0 _ _ rfl rfl;have hO:=Cpl (β:=Akm W) hm (Bfn W ht);have hA:F8 (gA W) [.sl (Bow vs) .none] #[.slice a len cap]:=⟨rfl,fun j d v h h'=>by
  match j with
  |0=>cases h;cases h';exact hv
  |j+1=>cases h⟩
 refine(((Crd hO 2000 10).just 3) _ _ _ _ _ (Bfr (fun n=>(Crd hO 2000 n).keeps) vs []) (gA W) W _ rfl (Bhy W) hA).mono ?_;rintro e W' ⟨r,g',rfl,hv,_,hst,_⟩;cases hv;exact⟨rfl,hst.os,hst.out,fun i hi=>hst.fr i hi fun id hid=>by cases hid⟩
end Go.Vam
