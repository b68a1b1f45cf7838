/- P. -/
import Derived.Test.YtiobopjhbneieaaGreatDoorVcc
set_option linter.unusedSimpArgs false
set_option linter.unusedVariables false
set_option linter.unusedSectionVars false
noncomputable section
set_option maxRecDepth 1000000
namespace Go.Vam
open Go.Proofs Go.Proofs.Tryz
theorem Bfi:Hd C1 22 Tryz.f22 (bd Tryz.f22) [] [] []=
 .leaf [(.sl [[.str [108,101,116]],[.str [100,101,112,115]],[.str [114,100,101,112,115]],[.str [115,111,109,101,112,97,116,104]],[.str [97,108,108,112,97,116,104,115]],[.str [107,105,110,100]],[.str [102,105,108,116,101,114]],[.str [97,108,108]]] .exact)] []:=by kernel_rfl
theorem Bdp(x0:D):Hd C1 7 f7 (bd f7) [] [.dyn x0] []=
 .call 20 [] [x0] [] fun x1=>
 .ite x1 (
  .call 22 [] [] [] fun x2=>
  .call 21 [] [x2,x0] [] fun x3=>
  .bind (.bin .lss 3 x3 i0) fun x4=>
  .ite x4 (
  .bind (.bin .neq 9 x0 (.str [45])) fun x5=>
  .leaf [x5] []) (
  .leaf [bf] [])) (
  .leaf [bf] []):=by kernel_rfl
theorem Bel(x0 x1:D):Hd C1 21 Tryz.f21 (bd Tryz.f21) [] [.dyn x0,.dyn x1] []=
 .loop 0 0 [i0,i0] (Ca [fun x2=>
  .bind (.ln 23 x0) fun x3=>
  .bind (.bin .lss 3 (hv x2 1) x3) fun x4=>
  .ite x4 (
  .bind (.ia 23 x0 (hv x2 1)) fun x5=>
  .bind (.ld 9 x5) fun x6=>
  .bind (.bin .eql 9 x6 x1) fun x7=>
  .ite x7 (
   .leaf [(hv x2 1)] []) (
   .bind (.bin .add 3 (hv x2 1) i1) fun x8=>
   .again 0 0 [(hv x2 0),x8])) (
  .leaf [.int .i64 (-1)] [])]):=by kernel_rfl
theorem Bc8(x0:D):Hd C1 20 Tryz.f20 (bd Tryz.f20) [{alts:= [[]],objs:= [],joins:= [1,7]}] [.dyn x0] []=
 .joi (
  .bind (.ln 9 x0) fun x1=>
  .bind (.bin .lss 3 x1 i1) fun x2=>
  .ite x2 (
  .leaf [bt] []) (
  .bind (.ln 9 x0) fun x3=>
  .bind (.bin .gtr 3 x3 (.int .i64 40)) fun x4=>
  .ite x4 (
   .leaf [bt] []) (
   .bind (.bin .eql 9 x0 (.str [114,117,108,101])) fun x5=>
   .ite x5 (
   .leaf [bt] []) (
   .bind (.bin .eql 9 x0 (.str [105,110])) fun x6=>
   .ite x6 (
    .leaf [bt] []) (
    .bind (.bin .eql 9 x0 (.str [111,117,116])) fun x7=>
    .ite x7 (
    .leaf [bt] []) (
    .bind (.bin .eql 9 x0 (.str [97,102,116,101,114])) fun x8=>
    .leaf [x8] [])))))) fun x1=>
 .ite x1 (
  .leaf [bf] []) (
  .call 51 [] [x0] [] fun x2=>
  .loop 0 0 [bf,i0] (Ca [fun x3=>
  .bind (.ln 23 x2) fun x4=>
  .bind (.bin .lss 3 (hv x3 1) x4) fun x5=>
  .ite x5 (
   .joi (
   .bind (.ia 23 x2 (hv x3 1)) fun x6=>
   .bind (.ld 9 x6) fun x7=>
   .bind (.bin .eql 9 x7 s0) fun x8=>
   .ite x8 (
    .leaf [bt] []) (
    .bind (.ia 23 x2 (hv x3 1)) fun x9=>
    .bind (.ld 9 x9) fun x10=>
    .bind (.bin .eql 9 x10 (.str [46])) fun x11=>
    .ite x11 (
    .leaf [bt] []) (
    .bind (.ia 23 x2 (hv x3 1)) fun x12=>
    .bind (.ld 9 x12) fun x13=>
    .bind (.bin .eql 9 x13 (.str [46,46])) fun x14=>
    .leaf [x14] []))) fun x6=>
   .ite x6 (
   .leaf [bf] []) (
   .loop 1 0 [(hv x3 0),i0] (Ca [fun x7=>
    .bind (.ia 23 x2 (hv x3 1)) fun x8=>
    .bind (.ld 9 x8) fun x9=>
    .bind (.ln 9 x9) fun x10=>
    .bind (.bin .lss 3 (hv x7 1) x10) fun x11=>
    .ite x11 (
    .bind (.ia 23 x2 (hv x3 1)) fun x12=>
    .bind (.ld 9 x12) fun x13=>
    .bind (.idx 9 x13 (hv x7 1)) fun x14=>
    .call 52 [] [x14] [] fun x15=>
    .bind (.un .not x15) fun x16=>
    .ite x16 (
     .leaf [bf] []) (
     .bind (.bin .add 3 (hv x7 1) i1) fun x17=>
     .again 1 0 [(hv x7 0),x17])) (
    .bind (.bin .add 3 (hv x3 1) i1) fun x12=>
    .again 0 0 [(hv x7 0),x12])]))) (
   .leaf [bt] [])])):=by kernel_rfl
theorem Bda(x0:D):Hd C1 52 f52 (bd f52) [] [.dyn x0] []=
 .bind (.bin .geq 5 x0 (.int .u8 97)) fun x1=>
 .ite x1 (
  .bind (.bin .leq 5 x0 (.int .u8 122)) fun x2=>
  .ite x2 (
  .leaf [bt] []) (
  .bind (.bin .geq 5 x0 (.int .u8 65)) fun x3=>
  .ite x3 (
   .bind (.bin .leq 5 x0 (.int .u8 90)) fun x4=>
   .ite x4 (
   .leaf [bt] []) (
   .bind (.bin .geq 5 x0 (.int .u8 48)) fun x5=>
   .ite x5 (
    .bind (.bin .leq 5 x0 (.int .u8 57)) fun x6=>
    .ite x6 (
    .leaf [bt] []) (
    .bind (.bin .eql 5 x0 (.int .u8 46)) fun x7=>
    .ite x7 (
     .leaf [bt] []) (
     .bind (.bin .eql 5 x0 (.int .u8 95)) fun x8=>
     .ite x8 (
     .leaf [bt] []) (
     .bind (.bin .eql 5 x0 (.int .u8 45)) fun x9=>
     .leaf [x9] [])))) (
    .bind (.bin .eql 5 x0 (.int .u8 46)) fun x6=>
    .ite x6 (
    .leaf [bt] []) (
    .bind (.bin .eql 5 x0 (.int .u8 95)) fun x7=>
    .ite x7 (
     .leaf [bt] []) (
     .bind (.bin .eql 5 x0 (.int .u8 45)) fun x8=>
     .leaf [x8] []))))) (
   .bind (.bin .geq 5 x0 (.int .u8 48)) fun x4=>
   .ite x4 (
   .bind (.bin .leq 5 x0 (.int .u8 57)) fun x5=>
   .ite x5 (
    .leaf [bt] []) (
    .bind (.bin .eql 5 x0 (.int .u8 46)) fun x6=>
    .ite x6 (
    .leaf [bt] []) (
    .bind (.bin .eql 5 x0 (.int .u8 95)) fun x7=>
    .ite x7 (
     .leaf [bt] []) (
     .bind (.bin .eql 5 x0 (.int .u8 45)) fun x8=>
     .leaf [x8] [])))) (
   .bind (.bin .eql 5 x0 (.int .u8 46)) fun x5=>
   .ite x5 (
    .leaf [bt] []) (
    .bind (.bin .eql 5 x0 (.int .u8 95)) fun x6=>
    .ite x6 (
    .leaf [bt] []) (
    .bind (.bin .eql 5 x0 (.int .u8 45)) fun x7=>
    .leaf [x7] [])))))) (
  .bind (.bin .geq 5 x0 (.int .u8 65)) fun x2=>
  .ite x2 (
  .bind (.bin .leq 5 x0 (.int .u8 90)) fun x3=>
  .ite x3 (
   .leaf [bt] []) (
   .bind (.bin .geq 5 x0 (.int .u8 48)) fun x4=>
   .ite x4 (
   .bind (.bin .leq 5 x0 (.int .u8 57)) fun x5=>
   .ite x5 (
    .leaf [bt] []) (
    .bind (.bin .eql 5 x0 (.int .u8 46)) fun x6=>
    .ite x6 (
    .leaf [bt] []) (
    .bind (.bin .eql 5 x0 (.int .u8 95)) fun x7=>
    .ite x7 (
     .leaf [bt] []) (
     .bind (.bin .eql 5 x0 (.int .u8 45)) fun x8=>
     .leaf [x8] [])))) (
   .bind (.bin .eql 5 x0 (.int .u8 46)) fun x5=>
   .ite x5 (
    .leaf [bt] []) (
    .bind (.bin .eql 5 x0 (.int .u8 95)) fun x6=>
    .ite x6 (
    .leaf [bt] []) (
    .bind (.bin .eql 5 x0 (.int .u8 45)) fun x7=>
    .leaf [x7] []))))) (
  .bind (.bin .geq 5 x0 (.int .u8 48)) fun x3=>
  .ite x3 (
   .bind (.bin .leq 5 x0 (.int .u8 57)) fun x4=>
   .ite x4 (
   .leaf [bt] []) (
   .bind (.bin .eql 5 x0 (.int .u8 46)) fun x5=>
   .ite x5 (
    .leaf [bt] []) (
    .bind (.bin .eql 5 x0 (.int .u8 95)) fun x6=>
    .ite x6 (
    .leaf [bt] []) (
    .bind (.bin .eql 5 x0 (.int .u8 45)) fun x7=>
    .leaf [x7] [])))) (
   .bind (.bin .eql 5 x0 (.int .u8 46)) fun x4=>
   .ite x4 (
   .leaf [bt] []) (
   .bind (.bin .eql 5 x0 (.int .u8 95)) fun x5=>
   .ite x5 (
    .leaf [bt] []) (
    .bind (.bin .eql 5 x0 (.int .u8 45)) fun x6=>
    .leaf [x6] []))))):=by kernel_rfl
structure RS where
 k:Nat
 bad:Option Nat
def Nu(L:Nat)(W:List Wd)(s:RS):List D:= [.sl (Dt L W) .none,.int .i64 (s.k:Int),Nv s.bad]
def Km(cf:Ah)(f:Nat)(xs:List D)(L:Nat)(W:List Wd)(s:RS)(v:D)(s':RS):Prop:=Acn cf f (none::xs.map some) (Nu L W s) v (Nu L W s')
def Gg(L:Nat)(W:List Wd)(s:RS):RS:=⟨s.k,match s.bad with
 |none=>some (Cn L (W.drop s.k)).at_
 |some b=>some b⟩
def A3f(w:Wd):Prop:=(w.k=1→Lt w.tx)∧(w.k=3→∃c,c∈O5∧w.tx= [c])
def Ng(W:List Wd):Prop:=W.length<1000∧∀w∈W,A3f w
theorem Ng.hd{L:Nat}{W:List Wd}(h:Ng W)(k:Nat):A3f (Cn L (W.drop k)):=by
 cases hs:W.drop k with
 |nil=>exact⟨(fun h=>by cases h),(fun h=>by cases h)⟩
 |cons w ws=>exact h.2 w (List.mem_of_mem_drop (i:=k) (by rw[hs];simp))
def Pg(L:Nat)(W:List Wd)(s:RS)(t:List UInt8):Bool:=(((Cn L (W.drop s.k)).k:Int) == 3 && (Cn L (W.drop s.k)).tx == t) || ((((Cn L (W.drop s.k)).k:Int) == 1 && (Cn L (W.drop s.k)).tx == t) && (t == [45] || (t == Vx || t == Ib)))
section
variable{cf:Ah}{N:Nat}{L:Nat}{W:List Wd}
variable(hK:∀f,Ba (cf f))(h63:∀s:RS,Km cf 63 [] L W s (.bool s.bad.isNone) s)(h64:∀s:RS,s.k≤W.length→Km cf 64 [] L W s (.agg (Ci (Cn L (W.drop s.k)))) s)
 (h65:∀s:RS,s.k≤W.length→Km cf 65 [] L W s (.tup []) (Gg L W s))(h117:∀(s:RS) (t:List UInt8),s.k≤W.length→Km cf 117 [.str t] L W s (.bool (Pg L W s t)) s)
def Dw(L:Nat)(may:List UInt8→Bool)(W:List Wd)(s:RS):List UInt8 × RS:=if s.bad.isNone && (((Cn L (W.drop s.k)).k:Int) == 1 && may (Cn L (W.drop s.k)).tx)then((Cn L (W.drop s.k)).tx,⟨s.k+1,s.bad⟩)else([],Gg L W s)
def Bg(L:Nat)(W:List Wd)(s:RS)(t:List UInt8):RS:=if s.bad.isNone && Pg L W s t then⟨s.k+1,s.bad⟩else Gg L W s
end
def QJ(cs:List D):Prop:=∃k a r ln nm n rows,cs= [.int .i64 k,.int .i64 a,.bool r,.str ln,.str nm,.int .i64 n,.sl rows .none]∧Gt 0 rows=false
theorem QJ.enc(x:Qy):QJ (Br x):=by have hr:=K3 x;obtain⟨k,a,r,ln,nm,n,rows,h⟩:=J9 x;rw[h]at hr;refine⟨k,a,r,ln,nm,n,rows,h,?_⟩;simpa[F6,D8]using hr
theorem QJ.len{cs:List D}(h:QJ cs):cs.length=7:=by obtain⟨k,a,r,ln,nm,n,rows,rfl,_⟩:=h;rfl
theorem QJ.ok{cs:List D}(h:QJ cs):cs.all Al=true:=by obtain⟨k,a,r,ln,nm,n,rows,rfl,_⟩:=h;rfl
theorem QJ.ref{cs:List D}(h:QJ cs):F6 0 cs=false:=by obtain⟨k,a,r,ln,nm,n,rows,rfl,h⟩:=h;simp[F6,D8,h]
theorem QJ.frz{cs:List D}(h:QJ cs):Jf (.agg cs)=some (.agg cs):=by obtain⟨k,a,r,ln,nm,n,rows,rfl,h⟩:=h;rfl
theorem QJ.slim{cs:List D}(h:QJ cs):(Av.slim (.agg cs)).sem prog=some (.agg cs):=by obtain⟨k,a,r,ln,nm,n,rows,rfl,h⟩:=h;rfl
theorem QJ.agg{cs:List D}(h:QJ cs):(Av.agg 7 (.agg cs)).sem prog=some (.agg cs):=by rw[M5,if_pos h.len]
theorem QJ.cl{cs:List D}(h:QJ cs):cl (.agg cs) 7=cs:=Axv h.len
theorem A54:Jm prog 30=some 88:=by kernel_rfl
theorem QJ.app0{cs:List D}(h:QJ cs):(Av.app 28 .nilsl (.sl [cs] .exact)).sem prog=some (.sl [cs] .none):=Amt A60 Wp A54 A7y h.len h.ok (by decide)
theorem QJ.app1{rows:List (List D)}{g:Gr}{cs:List D}(h:QJ cs)(hr:∀r∈rows,QJ r)(hne:rows≠ [])(hl:rows.length≤1000):(Av.app1 28 (.sl rows g) (.sl [cs] .exact)).sem prog=some (.sl (rows++ [cs]) .none):=
 Anb A60 Wp A54 A7y h.len h.ok (by decide) (fun r hr'=>(hr r hr').len) hne (by omega)
section
variable(L:Nat)(may:List UInt8→Bool)(gr:List UInt8→Int × Bool)(W:List Wd)
end
section
variable{cf:Ah}{N:Nat}{L:Nat}{W:List Wd}{may:List UInt8→Bool}{gr:List UInt8→Int × Bool}
theorem QJ.mk{k:Int}{a:Nat}{r:Bool}{ln nm:List UInt8}{n:Int}{rows:List (List D)}(h:Gt 0 rows=false):QJ (qc k a r ln nm n (.sl rows .none)):=⟨k,a,r,ln,nm,n,rows,rfl,h⟩
variable(hK:∀f,Ba (cf f))(hW:Ng W)
 (h63:∀s:RS,Km cf 63 [] L W s (.bool s.bad.isNone) s)(h64:∀s:RS,s.k≤W.length→Km cf 64 [] L W s (.agg (Ci (Cn L (W.drop s.k)))) s)
 (h65:∀s:RS,s.k≤W.length→Km cf 65 [] L W s (.tup []) (Gg L W s))(h117:∀(s:RS) (t:List UInt8),s.k≤W.length→Km cf 117 [.str t] L W s (.bool (Pg L W s t)) s)
 (h119:∀(s:RS) (t:List UInt8),s.k≤W.length→Km cf 119 [.str t] L W s (.tup []) (Bg L W s t))
 (h118:∀s:RS,s.k≤W.length→Km cf 118 [] L W s (.str (Dw L may W s).1) (Dw L may W s).2)
end
section
variable{cf:Ah}{N:Nat}{L:Nat}{W:List Wd}{may:List UInt8→Bool}{gr:List UInt8→Int × Bool}
variable(hK:∀f,Ba (cf f))(hW:Ng W)
 (h63:∀s:RS,Km cf 63 [] L W s (.bool s.bad.isNone) s)(h64:∀s:RS,s.k≤W.length→Km cf 64 [] L W s (.agg (Ci (Cn L (W.drop s.k)))) s)
 (h65:∀s:RS,s.k≤W.length→Km cf 65 [] L W s (.tup []) (Gg L W s))(h117:∀(s:RS) (t:List UInt8),s.k≤W.length→Km cf 117 [.str t] L W s (.bool (Pg L W s t)) s)
 (h119:∀(s:RS) (t:List UInt8),s.k≤W.length→Km cf 119 [.str t] L W s (.tup []) (Bg L W s t))
 (h118:∀s:RS,s.k≤W.length→Km cf 118 [] L W s (.str (Dw L may W s).1) (Dw L may W s).2)
theorem O4(rows:List (List D))(g:Gr):(Av.cell (.sl rows g)).sem prog=some (.sl rows g):=rfl
end
section
variable{cf:Ah}{N:Nat}{L:Nat}{W:List Wd}{may:List UInt8→Bool}{gr:List UInt8→Int × Bool}
variable(hK:∀f,Ba (cf f))(hW:Ng W)
 (h63:∀s:RS,Km cf 63 [] L W s (.bool s.bad.isNone) s)(h64:∀s:RS,s.k≤W.length→Km cf 64 [] L W s (.agg (Ci (Cn L (W.drop s.k)))) s)
 (h65:∀s:RS,s.k≤W.length→Km cf 65 [] L W s (.tup []) (Gg L W s))(h117:∀(s:RS) (t:List UInt8),s.k≤W.length→Km cf 117 [.str t] L W s (.bool (Pg L W s t)) s)
 (h119:∀(s:RS) (t:List UInt8),s.k≤W.length→Km cf 119 [.str t] L W s (.tup []) (Bg L W s t))
 (h118:∀s:RS,s.k≤W.length→Km cf 118 [] L W s (.str (Dw L may W s).1) (Dw L may W s).2)
end
section
variable{cf:Ah}{N:Nat}{L:Nat}{W:List Wd}{may:List UInt8→Bool}{gr:List UInt8→Int × Bool}
variable(hK:∀f,Ba (cf f))(hW:Ng W)
 (h63:∀s:RS,Km cf 63 [] L W s (.bool s.bad.isNone) s)(h64:∀s:RS,s.k≤W.length→Km cf 64 [] L W s (.agg (Ci (Cn L (W.drop s.k)))) s)
 (h117:∀(s:RS) (t:List UInt8),s.k≤W.length→Km cf 117 [.str t] L W s (.bool (Pg L W s t)) s)
 (h119:∀(s:RS) (t:List UInt8),s.k≤W.length→Km cf 119 [.str t] L W s (.tup []) (Bg L W s t))
 (h118:∀s:RS,s.k≤W.length→Km cf 118 [] L W s (.str (Dw L may W s).1) (Dw L may W s).2)
end
end Go.Vam
