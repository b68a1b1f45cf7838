/- A part. -/
import Derived.Test.YtiobopjhbneieaaGreatDoorVag
set_option linter.unusedVariables false
noncomputable section
set_option maxRecDepth 1000000
namespace Go.Vam
open Go.Proofs Go.Proofs.Tryz Go.RowKit
attribute [local go_sem] Oper.semAt_some
theorem Arp{α:Type}{l:List α}{k:Nat}(h:k<l.length):l.take (k+1)=l.take k++ [l[k]]:=by rw[List.take_add_one,List.getElem?_eq_getElem h];rfl
set_option maxHeartbeats 2000000 in
theorem Aq4(n:Nat)(hn:1≤n){w:World}{Bs b off cap:Nat}{zs:List (List UInt8)}(hreach:zs.length<2 ^ 30)(hBs:Bs<w.heap.size)(hb:0<zs.length→b<w.heap.size)(hc0:w.cell? ⟨Bs,0,none⟩=some (.slice (some ⟨b,off,none⟩) zs.length cap))
  (hcs:∀j (h:j<zs.length),w.cell? ⟨b,off+j,none⟩=some (encStr zs[j])):Hu Fence.wide n prog 297 #[.pointer (some ⟨Bs,0,none⟩)] encStr (fun xs=>xs=zs) zs.length w:=by
 intro l J W hW hJa hJ hY h0;have hcW:W.cell? ⟨Bs,0,none⟩=some (.slice (some ⟨b,off,none⟩) zs.length cap):=by rw[← hc0];exact World.cell?_of_block (hW.block Bs hBs)
 refine callsIn_of_wp func297 rfl trivial ?_ rfl;simp only[ntmps297,List.size_toArray,List.length_cons,List.length_nil,Nat.reduceAdd,Nat.reduceSub,Array.replicate_succ,Array.replicate_zero,List.push_toArray,List.append_toArray,List.nil_append,List.cons_append]
 gi_wp2
 gi_loopw [7] (fun i wr=>∃k:Nat,k≤zs.length∧i= .int .i64 k∧J (zs.take k) wr)
  (fun i _=>zs.length - (RowKit.intOf i).toNat)
 case atStart=>exact⟨0,Nat.zero_le _,rfl,h0⟩
 case round=>
  obtain⟨k,hk,rfl,hJs⟩:=hrel;by_cases hlt:k<zs.length
  ·have hcx:wr.cell? ⟨b,off+k,none⟩=some (encStr zs[k]):=by
    rw[← hcs k hlt];exact World.cell?_of_block (hJ _ _ hJs b (hb (by omega)))
   obtain⟨fn,tmps,assign,body,hy,hR⟩:=hY _ zs[k] wr hJs (by rw[List.length_take];omega)
   unfold encStr at hcx hy
   gi_wp2
   refine hR.mono ?_;rintro e W3 ⟨rfl,hJ3,hk3⟩
   gi_wp2
   go_roundw
   case rel=>exact⟨k+1,by omega,by simp,by rw[Arp hlt];exact hJ3⟩
   case measure=>simp[RowKit.intOf];omega
  ·obtain rfl:k=zs.length:=by omega
   gi_wp2
   go_end0
   exact⟨⟨_,rfl⟩,zs,rfl,by rw[List.take_length]at hJs;exact hJs⟩
set_option maxHeartbeats 2000000 in
theorem U2(n:Nat)(hn:1≤n){w:World}{Bs:Nat}(hBs:Bs<w.heap.size)(hc0:w.cell? ⟨Bs,0,none⟩=some (.slice none 0 0)):Hu Fence.wide n prog 297 #[.pointer (some ⟨Bs,0,none⟩)] encStr (fun xs=>xs= []) 0 w:=by
 intro l J W hW hJa hJ hY h0;have hcW:W.cell? ⟨Bs,0,none⟩=some (.slice none 0 0):=by rw[← hc0];exact World.cell?_of_block (hW.block Bs hBs)
 refine callsIn_of_wp func297 rfl trivial ?_ rfl;simp only[ntmps297,List.size_toArray,List.length_cons,List.length_nil,Nat.reduceAdd,Nat.reduceSub,Array.replicate_succ,Array.replicate_zero,List.push_toArray,List.append_toArray,List.nil_append,List.cons_append]
 gi_wp2
 gi_loopw [7] (fun i wr=>i= .int .i64 0∧J [] wr) (fun _ _=>0)
 case atStart=>exact⟨rfl,h0⟩
 case round=>
  obtain⟨rfl,hJs⟩:=hrel
  gi_wp2
  go_end0
  exact⟨⟨_,rfl⟩,[],rfl,hJs⟩
def Pe(ks:List (List UInt8))(st:St):D × St × Cb:=(Acy 1 st.length ((Cq J5 ks).map fun s=> [.str s]),st++Jq ((Cq J5 ks).map fun s=> [.str s]),[])
def I5:Bz:=fun _ args st=>match args with
 | [.func 297 [] [.ptr b 0]]=>match st[b]? with
  |some (.cells (.sl rows _::_))=>match Q0 rows with
   |some ks=>if ks.length<2 ^ 19 then some (Pe ks st)else none
   |none=>none
  |some (.cells (.nilsl::_))=>some (Pe [] st)
  |_=>none
 |_=>none
def Ho:Bz:=fun cf args st=>match Fb cf args st with
 |some r=>some r
 |none=>I5 cf args st
theorem Aap{β:Nat→Nat→Option Value}(cf:Ah):Ji prog β 153 (I5 cf):=by
 intro args st v st' W h g w A hb hs hA;unfold I5 at h;split at h
 case h_2=>cases h
 rename_i b;have hcase:∃d cs ks,st[b]?=some (.cells (d::cs))∧((∃rows gr,d= .sl rows gr∧Q0 rows=some ks)∨d= .nilsl∧ks= [])∧ks.length<2 ^ 19∧some (Pe ks st)=some (v,st',W):=by
  split at h
  ·rename_i rows gr cs hst;split at h
   ·rename_i ks hks;split at h
    ·rename_i hlt;exact⟨_,_,ks,hst,.inl ⟨rows,gr,rfl,hks⟩,hlt,h⟩
    ·cases h
   ·cases h
  ·rename_i cs hst;exact⟨_,_,[],hst,.inr ⟨rfl,rfl⟩,by decide,h⟩
  ·cases h
 clear h;obtain⟨d,cs,ks,hst,hd,hlen,hres⟩:=hcase;cases hres;obtain⟨v0,hA0⟩:∃v0,A= #[v0]:=by have:=hA.size;simp at this;exact Array.size_eq_one_iff.1 this
 subst hA0;have hv0:=hA.at_ 0 _ _ rfl rfl;cases hv0 with
 |func ha hb' hva hvb=>
 rename_i A B;have hA2:A= #[]:=by simpa using ha
 obtain⟨vb,hB⟩:∃vb,B= #[vb]:=by simp at hb';exact Array.size_eq_one_iff.1 hb'
 subst hA2 hB;have hvb0:=hvb 0 _ _ rfl rfl;cases hvb0 with
 |ptr hlb=>
 rename_i cb;obtain⟨o,ho,hr⟩:=hs.obj _ _ hlb;rw[hst]at ho;cases ho;obtain⟨A,T,fr,hr⟩:=hr;have hA0:0<A.size:=by have:=hr.len;simp at this;omega
 have hvm:=hr.at_ 0 _ _ rfl (Array.getElem?_eq_getElem hA0);have hcell:w.cell? ⟨cb,0,none⟩=some A[0]:=by simp only[World.cell?,hr.heap];rw[Array.getElem?_eq_getElem hA0];rfl
 have hcb:cb<w.heap.size:=hs.blk _ _ hlb;generalize A[0]=x at hvm hcell;have hseq:∀n,Hu Fence.wide (n+1) prog 297 #[.pointer (some ⟨cb,0,none⟩)] encStr (fun xs=>xs.Perm ks) ks.length w:=by
  intro n;rcases hd with⟨rows,gr,rfl,hks⟩|⟨rfl,rfl⟩
  ·have hrk:=Vu hks;cases hvm with
   |slNil hgr=>
    have:ks= []:=by
     cases ks with
     |nil=>rfl
     |cons y ys=>cases hrk
    subst this;intro l J W hW hJa hJ hY h0;refine(U2 (n+1) (by omega) hcb hcell l J W hW hJa hJ hY h0).mono ?_
    rintro e W' ⟨h1,xs,rfl,h2⟩;exact⟨h1,[],.refl _,h2⟩
   |sl hsz hI hv hcap hgr=>
    rename_i c o sz cap;have hl:rows.length=ks.length:=by rw[hrk];simp[Cr]
    have hget:∀j (h:j<ks.length),w.cell? ⟨c,o+j,none⟩=some (encStr ks[j]):=by
     intro j hj;have hr1:rows[j]?=some [.str ks[j]]:=by rw[hrk,Cr,List.getElem?_map,List.getElem?_eq_getElem hj];rfl
     have hsz1:sz=1:=by have:=hsz _ (List.mem_of_getElem? hr1);simpa using this.symm
     subst hsz1;obtain⟨u,hu⟩:=hI j _ 0 _ hr1 rfl;have hv1:=hv j _ 0 _ u hr1 rfl hu;rw[C9 hv1]at hu;have:=hs.imm _ _ _ hu;simpa using this
    rw[hl]at hcell;have hc:0<ks.length→c<w.heap.size:=fun hpos=>by
     have:=hget 0 hpos;unfold World.cell? at this;cases hh:w.heap[c]? with
     |none=>simp[hh]at this
     |some _=>exact(Array.getElem?_eq_some_iff.1 hh).1
    intro l J W hW hJa hJ hY h0;refine(Aq4 (n+1) (by omega) (by omega) hcb hc hcell hget l J W hW hJa hJ hY h0).mono ?_
    rintro e W' ⟨h1,xs,rfl,h2⟩;exact⟨h1,_,.refl _,h2⟩
  ·cases hvm;intro l J W hW hJa hJ hY h0;refine(U2 (n+1) (by omega) hcb hcell l J W hW hJa hJ hY h0).mono ?_
   rintro e W' ⟨h1,xs,rfl,h2⟩;exact⟨h1,[],.refl _,h2⟩
 have hfin:=Abv (f:=297) (lb:= #[.pointer (some ⟨cb,0,none⟩)]) (w:=w) (ks:=ks) hlen (hseq 6) (enters_of func297 (by kernel_rfl) rfl)
 refine hfin.mono ?_;rintro e w' ⟨v,rfl,hrow⟩;obtain⟨g',h1,h2,h3,h4⟩:=hrow.graft hs (by intro r hr d hd;obtain⟨x,_,rfl⟩:=List.mem_map.1 hr;simp at hd;subst hd;rfl)
 exact⟨v,g',rfl,h4,h1,h2,h3⟩
theorem Zh(cf:Ah):Ba (I5 cf):=by
 intro args st v st' W h;unfold I5 at h
 repeat' split at h
 all_goals (first|cases h)
 all_goals exact Jh
theorem Aec{β:Nat→Nat→Option Value}(cf:Ah):Ji prog β 153 (Ho cf):=by
 intro args st v st' W h;unfold Ho at h;split at h
 ·rename_i r hr;cases h;exact Aao cf args st v st' W hr
 ·exact Aap cf args st v st' W h
theorem Aat(cf:Ah):Ba (Ho cf):=by
 intro args st v st' W h;unfold Ho at h;split at h
 ·rename_i r hr;cases h;exact Yz cf args st v st' W hr
 ·exact Zh cf args st v st' W h
def A13:Array Oper:=match f62.body with
 |some (.seq (.region _ o _) _)=>o
 |_=> #[]
def Aa7:Array Oper:=match f62.body with
 |some (.seq _ (.seq (.seq (.region _ o _) _) _))=>o
 |_=> #[]
def Bdi:Code:=match f62.body with
 |some (.seq _ (.seq (.seq _ (.cond _ a _)) _))=>a
 |_=> .skip
def Ap6:Code:=match f62.body with
 |some (.seq _ (.seq _ a))=>a
 |_=> .skip
theorem A85:f62.body=some (.seq (.region 0 #[opB A13 0] false) (.seq (.seq (.region 1 #[opB Aa7 0,opB Aa7 1] false) (.cond (.tmp 4) Bdi .skip)) Ap6)):=by kernel_rfl
section
variable{C:Eo}{cf:Ah}{N:Nat}{st:St}{e:Env}{hh:Bool}{Pw:Nat→Prop}
theorem Au2(hP:C.P=prog)(hl:e.length=8){gr:Gr}(e0:e.getD 0 .undef= .sl [] gr):Mk C false cf N Pw Ap6 e st (fun y e' st'=>y= .ret∧st'=st∧e'.length=8∧e'.getD 2 .undef= .sl [] .exact):=by
 have hsl:Fs st []=some []:=rfl;have hup:Gn prog false .append #[23,23] [.sl [] .exact,.sl [] gr] st=some (.sl [] .exact,st,[]):=by unfold Gn;dsimp only;rw[Apw];unfold C8;rw[Uk];dsimp only;rw[Zt,Amm];simp[rowsOf,Ab8]
 refine Cs ?_;obtain⟨code,hcode⟩:∃code,code=strip Ap6:=⟨_,rfl⟩;rw[← hcode];simp only[Ap6,f62,strip,Dl,List.map_toArray,MC]at hcode;subst hcode
 repeat (first
  |refine Bp ?_|refine Bh ?_|refine Bi ?_|refine Ch ?_|refine Ce ?_|refine D9 ?_|refine Bq (by decide) ?_|refine Eg rfl rfl ?_|refine Zc (by first|exact hupV|exact hV2|exact hV|(simp;done)) ?_
  |((first|refine Ei rfl rfl rfl rfl ?_|refine Ee rfl rfl ?_|refine Ed rfl rfl ?_|refine Ec ?_);refine⟨_,by simp only[Bj,BB,Af,ev,Am,Ak,Ag,hP,↓reduceIte,Nat.reduceEqDiff,Nat.reduceLT,hl,e0,hsl,Uk,Zt,Aiv];first|done|rfl|exact hup|exact hup2|exact hup3,?_⟩)
  |dsimp only)
 refine⟨rfl,rfl,?_,?_⟩
 ·simp only[Am,List.length_set];exact hl
 ·simp only[BB,Am,↓reduceIte,Nat.reduceLT,hl];rfl
end
def Mx:Bz:=fun _ args st=>match args with
 | [.sl [] _]=>some (.sl [] .exact,st,[])
 |_=>none
def Kg:Bz:=fun cf args st=>match Mx cf args st with
 |some r=>some r
 |none=>Pv cf args st
theorem Acc{C:Eo}(hP:C.P=prog){β:Nat→Nat→Option Value}(cf:Ah)(hX:Ctx C cf β):Ji prog β 62 (Mx cf):=by
 intro args st v st' W h g w A hb hs hA;unfold Mx at h;split at h
 case h_2=>cases h
 rename_i gr;cases h;obtain⟨v0,rfl⟩:=K9 (A:=A) (by simpa using hA.size)
 have hv0:VR g (.sl [] gr) v0:=hA.at_ 0 _ _ rfl rfl;have hsl:∃p cap,v0= .slice p 0 cap:=by
  cases hv0 with
  |slNil=>exact⟨_,_,rfl⟩
  |sl=>exact⟨_,_,rfl⟩
 obtain⟨p,cap,rfl⟩:=hsl;cases p with
 |none=>refine(Tryz.slices_Clone_string_nil 0 cap w).mono ?_;rintro e w' ⟨rfl,rfl⟩;exact⟨_,g,rfl,.slNil (fun t n h=>by cases h),hs,Step.refl _ _ _,Dx.refl _ _⟩
 |some a=>
  refine calls_of_wp func62 A85 ?_;have hntm:f62.ntmps=8:=by kernel_rfl
  rw[hntm];generalize ha0:({tmps:= #[.slice (some a) 0 cap]++Array.replicate (8 - (#[Value.slice (some a) 0 cap]:Array Value).size) undef,defers:= []}:Act)=a0;have hE:F8 g ([D.sl [] gr]++List.replicate 7 .undef) a0.tmps:=by
   rw[← ha0];refine hA.append ⟨by simp,fun j d x hj hx=>?_⟩
   rw[List.getElem?_replicate]at hj;split at hj
   ·cases hj;exact .undef x
   ·cases hj
  have hd0:a0.defers= []:=by rw[← ha0]
  have hev0:a0.eval (.tmp 0)= .slice (some a) 0 cap:=by rw[← ha0];rfl
  clear ha0;have hS:=At.start hs hE;rw[hd0]at hS;have hX0:=Bdu hP hX 0;have hP0:C0.P=prog:=rfl;rw[← hP0];have hsz0:a0.tmps.size=8:=by rw[hE.size];rfl
  refine wp_seq (wp_region ?_);show wpOps _ _ _ [0] _ _;refine Gp (some 2) rfl (by kernel_rfl) (by kernel_rfl) (J7 (x:= .const (.slice none 0 0)) (.inr (by kernel_rfl))) ?_
  have hA1:At g st w [] (Am ([D.sl [] gr]++List.replicate 7 .undef) (some 2) .nilsl) st [] (a0.put (some 2) (.slice none 0 0)) w g:=
   ⟨hS.sim,hS.step,hS.free,G5 hS.env .nilsl,by rw[Act.put_defers'];exact hS.defers,hS.k⟩
  have hev1:(a0.put (some 2) (.slice none 0 0)).eval (.tmp 0)= .slice (some a) 0 cap:=by
   rw[eval_put,if_neg (by simp)]
   exact hev0
  have hev1':a0.eval (.const (.slice none 0 0))= .slice none 0 0:=rfl;rw[hev1'];generalize ha1:a0.put (some 2) (.slice none 0 0)=a1 at hA1 hev1 ⊢;have hsz1:a1.tmps.size=8:=by rw[hA1.env.size];rfl
  clear ha1;show Code.wp _ _ _ _ _;refine wp_seq (wp_seq (wp_region ?_));show wpOps _ _ _ [0,1] _ _;refine Gp (some 3) rfl (by kernel_rfl) (by kernel_rfl) (J7 (x:= .tmp 0) (.inl (by kernel_rfl))) ?_
  rw[hev1];have hA2:At g st w [] (Am _ (some 3) (.sl [] gr)) st [] (a1.put (some 3) (.slice (some a) 0 cap)) w g:=
   ⟨hA1.sim,hA1.step,hA1.free,G5 hA1.env hv0,by rw[Act.put_defers'];exact hA1.defers,hA1.k⟩
  have hev2:(a1.put (some 3) (.slice (some a) 0 cap)).eval (.tmp 3)= .slice (some a) 0 cap:=by rw[eval_put,if_pos ⟨rfl,by rw[hsz1];omega⟩]
  generalize ha2:a1.put (some 3) (.slice (some a) 0 cap)=a2 at hA2 hev2 ⊢;have hsz2:a2.tmps.size=8:=by rw[hA2.env.size];rfl
  clear ha2;have hop:(opB Aa7 1).op= .binOp .eql 23 (.tmp 3) (.const (.slice none 0 0)) 23:=by kernel_rfl
  have hrun:(execOp a2.eval (opB Aa7 1)).run C0.P w= .ok (.value (.bool false)) w:=by unfold execOp;rw[hop];dsimp only;rw[hev2];have:=Lib.run_eql_slice_nil w 23 9 (some a) 0 cap 0 0 (P:=prog) underlying23;have he:a2.eval (.const (.slice none 0 0))= .slice none 0 0:=rfl;rw[he,hP0];simp[eqGuard,this,go_sem]
  refine Gp (some 4) rfl (by kernel_rfl) (by kernel_rfl) hrun ?_
  have hA3:At g st w [] (Am _ (some 4) (.bool false)) st [] (a2.put (some 4) (.bool false)) w g:=
   ⟨hA2.sim,hA2.step,hA2.free,G5 hA2.env (.bool _),by rw[Act.put_defers'];exact hA2.defers,hA2.k⟩
  show Code.wp _ _ _ _ _;refine wp_cond_false (by rw[eval_put,if_pos ⟨rfl,by rw[hsz2];omega⟩]) (wp_skip ?_)
  show Code.wp _ _ _ _ _;refine J6 hX0 hb (G9 _) hA3 (Au2 (N:=0) (Pw:=fun _=>False) hP0 rfl (gr:=gr) rfl) ?_;rintro x e5 st5 W5 a5 w5 g5 hA5 hW5 ⟨rfl,rfl,l5,e2⟩;have hW:W5= []:=Aoy fun id hid=>(hW5 id hid).elim (fun h=>by cases h) (fun h=>h)
  subst hW;have hr4:Gm prog e5 st5 f62.results.toList=some [e5.getD 2 .undef]:=by
   have:f62.results.toList= [.tmp 2]:=by kernel_rfl
   rw[this];rfl
  obtain⟨B,h1,h2⟩:=Oi (P:=prog) hA5.sim hA5.env hr4;have h3:=Ac9 h2;rw[e2]at h3;exact⟨hA5.defers,_,h1,_,g5,rfl,h3,hA5.sim,hA5.step,hA5.free⟩
theorem Ab4{C:Eo}(hP:C.P=prog){β:Nat→Nat→Option Value}(cf:Ah)(hX:Ctx C cf β):Ji prog β 62 (Kg cf):=by
 intro args st v st' W h;unfold Kg at h;split at h
 ·rename_i r hr;cases h;exact Acc hP cf hX args st v st' W hr
 ·exact Ae9 cf args st v st' W h
theorem Aal(cf:Ah):Ba (Kg cf):=by
 intro args st v st' W h;unfold Kg at h;split at h
 ·rename_i r hr;cases h;unfold Mx at hr;split at hr
  ·cases hr;exact⟨Nat.le_refl _,fun _ _ _=>rfl⟩
  ·cases hr
 ·exact Acj cf args st v st' W h
def Baj:List (Nat × List (Nat × (List Nat × Bool))):= [
 (3,[(8,(List.range 16,true))]),(8,[(5,(List.range 4,false)),(11,(List.range 8,false))]),(10,[(8,(List.range 9,false)),(9,(List.range 9,false)),(18,([0,1,3,4,2,5,6],false)),(19,(List.range 8,true))]),(14,[(3,(List.range 3,true))]),(15,[(3,(List.range 3,true))]),(17,[(12,([0,1,2,3,5,7,8,9,10,4,6,11,12,13],false)),(15,([0,2,3,1,4,5,6,7],false)),(20,([0,2,1,3,4,5,6],false)),(22,([0,2,1,3,4,5,6],false)),(24,(List.range 7,false)),(26,([0,1,3,2,4,5,6,7],false)),(28,([0,1,2,3,4,8,5,6,7,9,10,11],false))]),(24,[(9,(List.range 8,false))]),(27,[(6,(List.range 5,true))]),(29,[(1,([0,1,3,4,6,7,9,10,2,12,5,8,11,13,14,15,16,17,18,19],false)),(5,([0,1,2,3,4,5,6,7,8,9,10,11,13,14,15,16,17,18,12,19,20,21,22,23,24,25],false))]),(30,[(9,(List.range 7,true))]),(32,[(1,(List.range 8,true)),(2,(List.range 17,true)),(6,(List.range 6,false)),(7,(List.range 9,true))]),(34,[(6,([0,1,3,4,5,7,2,6,8],false))]),(37,[(1,(List.range 14,true)),(5,(List.range 9,true))]),(40,[(6,(List.range 10,true)),(11,(List.range 10,true))]),(41,[(2,([0,1,2,3,4,5,6,7,8,9,10,11,12,14,13,15,16,17,18],false)),(17,([0,1,2,4,5,6,3,7,8,9,10,11,12],false)),(19,([0,1,2,4,5,6,3,7,8,9,10,11,12],false)),(21,(List.range 8,true)),(23,(List.range 6,true)),(25,(List.range 9,true)),(27,(List.range 9,true))]),(43,[(11,(List.range 142,false))]),(50,[(14,(List.range 10,true))]),(51,[(7,(List.range 14,true))]),(56,[(7,(List.range 8,false))]),(60,[(6,(List.range 5,true)),(16,(List.range 4,true)),(28,(List.range 4,true))]),(65,[(1,(List.range 11,true))]),(66,[(17,(List.range 15,true))]),(78,[(1,([0,1,3,4,2,5,6,7],false))]),(87,[(15,(List.range 6,true))]),(93,[(3,(List.range 8,true))]),(95,[(5,([0,1,2,3,4,5,6,7,8,9,10,11,12,13,15,16,17,18,19,14,20,21,22],false))]),(98,[(4,([0,1,2,3,4,5,6,7,8,9,10,11,12,13,15,14,16,17,18,19],false))]),(105,[(13,([0,1,2,3,4,5,6,7,8,9,10,11,12,13,14,15,18,19,20,21,22,23,24,16,17,25,26,27],false))]),(113,[(24,(List.range 6,false))]),(115,[(4,(List.range 15,true)),(6,(List.range 18,true))]),(116,[(10,(List.range 20,true))]),(117,[(10,(List.range 20,true))]),(119,[(3,(List.range 16,true))]),(120,[(5,(List.range 16,true)),(11,(List.range 18,true)),(16,(List.range 11,true)),(17,(List.range 18,true)),(22,(List.range 11,true)),(23,(List.range 18,true))]),(122,[(1,(List.range 16,true)),(3,(List.range 15,true)),(5,(List.range 14,true)),(8,(List.range 16,true))]),(123,[(1,(List.range 16,true)),(3,(List.range 14,true)),(5,(List.range 15,true)),(8,(List.range 16,true)),(10,(List.range 16,true)),(13,(List.range 14,true)),(15,(List.range 15,true)),(18,(List.range 16,true)),(21,(List.range 16,true))]),(129,[(1,(List.range 10,true))]),(134,[(3,(List.range 8,true))]),(135,[(21,(List.range 7,true))]),(139,[(17,(List.range 6,false))]),(148,[(4,([0,2,3,5,1,4,6,7],false))]),(156,[(4,(List.range 6,false)),(8,(List.range 6,false))]),(160,[(14,([0,1,3,4,2,5,6,7],true))]),(162,[(22,(List.range 8,false))]),(167,[(3,(List.range 20,true)),(5,(List.range 14,true)),(6,(List.range 24,true))]),(169,[(1,(List.range 10,true)),(2,(List.range 10,true)),(3,(List.range 10,true))]),(178,[(18,(List.range 7,false))]),(184,[(1,(List.range 7,false))]),(185,[(1,(List.range 7,false))]),(197,[(4,(List.range 6,true))]),(211,[(1,(List.range 9,true))]),(213,[(17,(List.range 17,true))]),(219,[(1,(List.range 12,true)),(6,(List.range 11,true)),(18,(List.range 11,true)),(20,(List.range 7,true))]),(231,[(7,(List.range 15,true)),(8,(List.range 15,true)),(9,(List.range 15,true)),(10,(List.range 15,true)),(17,(List.range 15,true)),(18,(List.range 15,true)),(23,(List.range 15,true))]),(240,[(4,(List.range 17,true)),(6,(List.range 18,true))]),(241,[(10,(List.range 20,true))]),(242,[(10,(List.range 20,true))]),(244,[(3,(List.range 16,true))]),(245,[(5,(List.range 18,true)),(11,(List.range 18,true)),(16,(List.range 13,true)),(17,(List.range 18,true)),(22,(List.range 13,true)),(23,(List.range 18,true))]),(246,[(1,(List.range 16,true)),(3,(List.range 17,true)),(5,(List.range 16,true)),(8,(List.range 16,true))]),(247,[(1,(List.range 16,true)),(3,(List.range 16,true)),(5,(List.range 17,true)),(8,(List.range 16,true)),(10,(List.range 16,true)),(13,(List.range 16,true)),(15,(List.range 17,true)),(18,(List.range 16,true)),(21,(List.range 16,true))]),(249,[(5,(List.range 9,true)),(18,(List.range 14,true)),(19,(List.range 13,true))]),(252,[(5,(List.range 3,true)),(11,(List.range 7,true))]),(259,[(1,(List.range 7,false))]),(268,[(3,(List.range 22,true)),(5,(List.range 16,true)),(6,(List.range 24,true))]),(277,[(11,(List.range 8,false))]),(279,[(2,([0,1,2,3,4,5,8,9,12,13,6,7,10,11,14,15,16],false))]),(283,[(1,([0,1,3,4,6,7,2,9,5,8,10,11,12,13,14],false)),(6,([0,1,2,3,4,5,6,7,8,9,10,11,13,14,15,16,17,18,12,19,20,21,22,23,24,25],false))]),(294,[(1,(List.range 11,true))]),(296,[(1,([0,1,2,3,5,6,7,8,9,4,10,11],false))]),(298,[(3,(List.range 13,true))]),(305,[(7,(List.range 8,false))]),(316,[(6,(List.range 9,true))]),(325,[(1,([0,1,3,2,4,5,6],false))]),(326,[(1,([0,1,3,2,4,5,6],false))]),(330,[(0,([0,1,2,3,4,5,6,7,9,10,11,12,13,8,14,15],false))]),(339,[(4,(List.range 17,true)),(6,(List.range 18,true))]),(340,[(5,(List.range 11,true)),(11,(List.range 18,true)),(17,(List.range 12,true)),(23,(List.range 18,true)),(35,(List.range 14,true))]),(348,[(3,(List.range 12,true))]),(353,[(3,(List.range 24,true))])]
def F9{α:Type}:List (Nat × α)→Nat→Option α
 | [],_=>none
 |(k,v)::l,n=>if Nat.beq k n then some v else F9 l n
def Ah5(f id:Nat):Option (List Nat × Bool):=match F9 Baj f with
 |some l=>F9 l id
 |none=>none
def C1:Eo:= {P:=prog,keepNil:= [61],keepArr:= [40,77,151,63,150,157,127,71],hnd:= [12,38,61,87,88,113,139,141,142,143,156,223,51,258,285,306,63,150,157],byRef:= [39,40,77,66,151,156,115,174,213,240,284,320,339,340,350,353],ords:=Ah5}
def Q9:List (Nat × Bz):= [(153,Ho),(130,Iy),(273,Qz),(271,Nh),(62,Kg),(159,Ew),(177,K8),(287,Ld),(275,E8),(69,Kj),(114,Qv),(194,Qm)]
def Aw5:FuncId→Option Bz:=F9 Q9
def Ez(i:Nat):Bool:=match prog.funcs[i]? with
 |some fn=>match fn.body with
  |some c=>Il (Ah5 i) c
  |none=>true
 |none=>true
theorem B20:Ez 3=true:=by kernel_rfl
theorem B22:Ez 8=true:=by kernel_rfl
theorem B2g:Ez 10=true:=by kernel_rfl
theorem Bco:Ez 14=true:=by kernel_rfl
theorem B1t:Ez 15=true:=by kernel_rfl
theorem B1z:Ez 17=true:=by kernel_rfl
theorem B2h:Ez 24=true:=by kernel_rfl
theorem Ban:Ez 27=true:=by kernel_rfl
theorem B1v:Ez 29=true:=by kernel_rfl
theorem Bar:Ez 30=true:=by kernel_rfl
theorem B1r:Ez 32=true:=by kernel_rfl
theorem B1s:Ez 34=true:=by kernel_rfl
theorem B2e:Ez 37=true:=by kernel_rfl
theorem B13:Ez 40=true:=by kernel_rfl
theorem B2i:Ez 41=true:=by kernel_rfl
theorem B1w:Ez 43=true:=by kernel_rfl
theorem B2b:Ez 50=true:=by kernel_rfl
theorem A7v:Ez 51=true:=by kernel_rfl
theorem B12:Ez 56=true:=by kernel_rfl
theorem Bce:Ez 60=true:=by kernel_rfl
theorem B2c:Ez 65=true:=by kernel_rfl
theorem B1u:Ez 66=true:=by kernel_rfl
theorem B2d:Ez 78=true:=by kernel_rfl
theorem B15:Ez 87=true:=by kernel_rfl
theorem B2a:Ez 93=true:=by kernel_rfl
theorem B2f:Ez 95=true:=by kernel_rfl
theorem Bag:Ez 98=true:=by kernel_rfl
theorem A4h:Ez 105=true:=by kernel_rfl
theorem A3h:Ez 113=true:=by kernel_rfl
theorem Bx9:Ez 115=true:=by kernel_rfl
theorem A4s:Ez 116=true:=by kernel_rfl
theorem Byi:Ez 117=true:=by kernel_rfl
theorem Bx3:Ez 119=true:=by kernel_rfl
theorem B1g:Ez 120=true:=by kernel_rfl
theorem B1e:Ez 122=true:=by kernel_rfl
theorem B0s:Ez 123=true:=by kernel_rfl
theorem By7:Ez 129=true:=by kernel_rfl
theorem B0f:Ez 134=true:=by kernel_rfl
theorem B0x:Ez 135=true:=by kernel_rfl
theorem B00:Ez 139=true:=by kernel_rfl
theorem A08:Ez 148=true:=by kernel_rfl
theorem Bx7:Ez 156=true:=by kernel_rfl
theorem B1c:Ez 160=true:=by kernel_rfl
theorem B04:Ez 162=true:=by kernel_rfl
theorem A5t:Ez 167=true:=by kernel_rfl
theorem Ayr:Ez 169=true:=by kernel_rfl
theorem B0m:Ez 178=true:=by kernel_rfl
theorem A3p:Ez 184=true:=by kernel_rfl
theorem B1a:Ez 185=true:=by kernel_rfl
theorem B0r:Ez 197=true:=by kernel_rfl
theorem Bz4:Ez 211=true:=by kernel_rfl
theorem Bz3:Ez 213=true:=by kernel_rfl
theorem B1i:Ez 219=true:=by kernel_rfl
theorem B01:Ez 231=true:=by kernel_rfl
theorem Byx:Ez 240=true:=by kernel_rfl
theorem B1m:Ez 241=true:=by kernel_rfl
theorem A5k:Ez 242=true:=by kernel_rfl
theorem Bz1:Ez 244=true:=by kernel_rfl
theorem Bx8:Ez 245=true:=by kernel_rfl
theorem Bx2:Ez 246=true:=by kernel_rfl
theorem By5:Ez 247=true:=by kernel_rfl
theorem Bxq:Ez 249=true:=by kernel_rfl
theorem B0y:Ez 252=true:=by kernel_rfl
theorem A14:Ez 259=true:=by kernel_rfl
theorem B0o:Ez 268=true:=by kernel_rfl
theorem A2p:Ez 277=true:=by kernel_rfl
theorem A10:Ez 279=true:=by kernel_rfl
theorem B1k:Ez 283=true:=by kernel_rfl
theorem Bz7:Ez 294=true:=by kernel_rfl
theorem Bz5:Ez 296=true:=by kernel_rfl
theorem B1j:Ez 298=true:=by kernel_rfl
theorem Bxt:Ez 305=true:=by kernel_rfl
theorem B09:Ez 316=true:=by kernel_rfl
theorem A30:Ez 325=true:=by kernel_rfl
theorem Bzb:Ez 326=true:=by kernel_rfl
theorem B1n:Ez 330=true:=by kernel_rfl
theorem B0a:Ez 339=true:=by kernel_rfl
theorem B0b:Ez 340=true:=by kernel_rfl
theorem Bz8:Ez 348=true:=by kernel_rfl
theorem Bz9:Ez 353=true:=by kernel_rfl
theorem Fj{i:Nat}{l:List Nat}(h:Ez i=true)(hl:∀j∈l,Ez j=true):∀j∈i::l,Ez j=true:=fun j hj=>by
 rcases List.mem_cons.1 hj with rfl|hj
 ·exact h
 ·exact hl j hj
theorem okn:∀j∈([]:List Nat),Ez j=true:=fun j hj=>by cases hj
def Au1:List Nat:= [3,8,10,14,15,17,24,27,29,30,32,34,37,40,41,43,50,51,56,60,65,66,78,87,93,95,98,105,113,115,116,117,119,120,122,123,129,134,135,139,148,156,160,162,167,169,178,184,185,197,211,213,219,231,240,241,242,244,245,246,247,249,252,259,268,277,279,283,294,296,298,305,316,325,326,330,339,340,348,353]
theorem Ats:Baj.map (·.1)=Au1:=by kernel_rfl
theorem Ber:∀j∈Au1,Ez j=true:=Fj B20 (Fj B22 (Fj B2g (Fj Bco (Fj B1t (Fj B1z (Fj B2h (Fj Ban (Fj B1v (Fj Bar (Fj B1r (Fj B1s (Fj B2e (Fj B13 (Fj B2i (Fj B1w (Fj B2b (Fj A7v (Fj B12 (Fj Bce (Fj B2c (Fj B1u (Fj B2d (Fj B15 (Fj B2a (Fj B2f (Fj Bag (Fj A4h (Fj A3h (Fj Bx9 (Fj A4s (Fj Byi (Fj Bx3 (Fj B1g (Fj B1e (Fj B0s (Fj By7 (Fj B0f (Fj B0x (Fj B00 (Fj A08 (Fj Bx7 (Fj B1c (Fj B04 (Fj A5t (Fj Ayr (Fj B0m (Fj A3p (Fj B1a (Fj B0r (Fj Bz4 (Fj Bz3 (Fj B1i (Fj B01 (Fj Byx (Fj B1m (Fj A5k (Fj Bz1 (Fj Bx8 (Fj Bx2 (Fj By5 (Fj Bxq (Fj B0y (Fj A14 (Fj B0o (Fj A2p (Fj A10 (Fj B1k (Fj Bz7 (Fj Bz5 (Fj B1j (Fj Bxt (Fj B09 (Fj A30 (Fj Bzb (Fj B1n (Fj B0a (Fj B0b (Fj Bz8 (Fj Bz9 (okn))))))))))))))))))))))))))))))))))))))))))))))))))))))))))))))))))))))))))))))))
theorem J4{α:Type}{n:Nat}{v:α}:∀{l:List (Nat × α)},F9 l n=some v→(n,v)∈l
 | [],h=>by cases h
 |(k,x)::l,h=>by
  unfold F9 at h;split at h
  ·rename_i he;cases h;have:=Nat.eq_of_beq_eq_true he;subst this;exact List.mem_cons_self
  ·exact List.mem_cons_of_mem _ (J4 h)
theorem Bep(f:FuncId)(fn:Func)(c:Code)(hf:C1.P.funcs[f]?=some fn)(hc:fn.body=some c):H6 (C1.ords f) c:=by
 cases h:F9 Baj f with
 |none=>
  have:C1.ords f=fun _=>none:=by funext id;show Ah5 f id=none;unfold Ah5;rw[h]
  rw[this];exact G9 c
 |some l=>
  have hk:f∈Au1:=by rw[← Ats];exact List.mem_map.2 ⟨_,J4 h,rfl⟩
  have:=Ber f hk;unfold Ez at this;have hf':prog.funcs[f]?=some fn:=hf;rw[hf']at this;dsimp only at this;rw[hc]at this;exact Ama c this
theorem Bbq:prog.follows .mixedOrders=true:=by kernel_rfl
theorem Bcf:(prog.funcs.toList.all fun fn=>fn.name != "runtime.NumGoroutine")=true:=by kernel_rfl
theorem A8y:Aa6 prog:=fun f fn hf he=>by
 have:=List.all_eq_true.1 Bcf fn (by rw[← Array.getElem?_toList]at hf;exact List.mem_of_getElem? hf)
 rw[he]at this;simp at this
theorem Bhz:Aky C1:=fun f x h=>by cases h
theorem Ame{β:Nat→Nat→Option Value}(hM:I6 β):Ww C1 β Aw5:=by
 have hP:C1.P=prog:=rfl;refine⟨fun f nt h cf hX=>?_,fun f nt h cf hk=>?_⟩
 ·have hm:=J4 h;simp only[Q9,List.mem_cons,Prod.mk.injEq,List.not_mem_nil,or_false]at hm;rw[hP];rcases hm with⟨rfl,rfl⟩|⟨rfl,rfl⟩|⟨rfl,rfl⟩|⟨rfl,rfl⟩|⟨rfl,rfl⟩|⟨rfl,rfl⟩|⟨rfl,rfl⟩|⟨rfl,rfl⟩|⟨rfl,rfl⟩|⟨rfl,rfl⟩|⟨rfl,rfl⟩|⟨rfl,rfl⟩
  ·exact Aec cf
  ·exact Aav cf
  ·exact Ahr cf
  ·exact Ae2 cf
  ·exact Ab4 hP cf hX
  ·exact N8 cf
  ·exact Ae6 hM cf
  ·exact Aet hM cf
  ·exact Vn hM cf
  ·exact Ab7 cf
  ·exact Ahw hP cf hX
  ·exact Ai0 hP cf hX
 ·have hm:=J4 h;simp only[Q9,List.mem_cons,Prod.mk.injEq,List.not_mem_nil,or_false]at hm;rcases hm with⟨rfl,rfl⟩|⟨rfl,rfl⟩|⟨rfl,rfl⟩|⟨rfl,rfl⟩|⟨rfl,rfl⟩|⟨rfl,rfl⟩|⟨rfl,rfl⟩|⟨rfl,rfl⟩|⟨rfl,rfl⟩|⟨rfl,rfl⟩|⟨rfl,rfl⟩|⟨rfl,rfl⟩
  ·exact Aat cf
  ·exact Zi cf
  ·exact Aeu cf
  ·exact Ac8 cf
  ·exact Aal cf
  ·exact Nl cf
  ·exact Ac5 cf
  ·exact Acp cf
  ·exact Uu cf
  ·exact Aaj cf
  ·exact Ae0 cf
  ·exact Aer cf
theorem Ba1:Bd6 Aw5:=fun f g h cf args st v st' W hr=>by have hm:=J4 h;simp only[Q9,List.mem_cons,Prod.mk.injEq,List.not_mem_nil,or_false]at hm;rcases hm with⟨rfl,rfl⟩|⟨rfl,rfl⟩|⟨rfl,rfl⟩|⟨rfl,rfl⟩|⟨rfl,rfl⟩|⟨rfl,rfl⟩|⟨rfl,rfl⟩|⟨rfl,rfl⟩|⟨rfl,rfl⟩|⟨rfl,rfl⟩|⟨rfl,rfl⟩|⟨rfl,rfl⟩<;>exact hr
theorem Aq5{β:Nat→Nat→Option Value}{nat:FuncId→Option Bz}(hn:Ww C1 β nat)(N n:Nat):Ctx C1 (Ii C1 nat N n) β:=
 Bka (C:=C1) A8y Bhz Bep Bbq hn N n
def Apm(get:Nat→Option Obj):D→Option (List (List D))
 | .nilsl=>some []
 | .sl rows _=>some rows
 | .arr sz id off len _=>
  match get id with
  |some (.cells cs)=>Kr sz off len cs
  |some (.fcells cs)=>Kr sz off len cs
  |_=>none
 |_=>none
theorem Aeg{st:St}{d:D}{rows:List (List D)}(h:Apm (fun i=>st[i]?) d=some rows):rowsOf st d=some rows:=by
 cases d with
 |arr sz id off len cap=>
  unfold Apm at h;unfold rowsOf;dsimp only at h ⊢;cases hx:st[id]? with
  |none=>rw[hx]at h;cases h
  |some o=>rw[hx]at h;cases o<;>first|exact h|cases h
 |_=>first|exact h|cases h
def Y3(get:Nat→Option Obj)(d:D):Option (List (List UInt8)):=match Apm get d with
 |some rows=>Pt rows
 |none=>none
theorem Nz{st:St}{d:D}{ss:List (List UInt8)}(h:Y3 (fun i=>st[i]?) d=some ss):Ob st d=some ss:=by
 unfold Y3 at h;split at h
 ·rename_i rows hr;have h1:=Aeg hr;unfold Ob;cases d<;>first|(cases hr;done)|(dsimp only;rw[h1];exact h)
 ·cases h
def Awp(get:Nat→Option Obj)(d:D):Option (List (Bool × List UInt8)):=match Apm get d with
 |some rows=>Uq rows
 |none=>none
theorem Al1{st:St}{d:D}{ss:List (Bool × List UInt8)}(h:Awp (fun i=>st[i]?) d=some ss):Adi st d=some ss:=by
 unfold Awp at h;split at h
 ·rename_i rows hr;have h1:=Aeg hr;unfold Adi;cases d<;>first|(cases hr;done)|(dsimp only;rw[h1];exact h)
 ·cases h
def Xq(get:Nat→Option Obj):List (List D)→Option (List (List (Bool × List UInt8)))
 | []=>some []
 | [x]::rows=>match Awp get x,Xq get rows with
  |some l,some ls=>some (l::ls)
  |_,_=>none
 |_=>none
theorem U5{st:St}:∀{rows:List (List D)} {ls:List (List (Bool × List UInt8))},Xq (fun i=>st[i]?) rows=some ls→Un st rows=some ls
 | [],ls,h=>h
 |r::rows,ls,h=>by
  unfold Xq at h;unfold Un;split at h
  ·rename_i heq;cases heq
  ·rename_i x rows' heq;cases heq;split at h
   ·rename_i l ls' h1 h2;cases h;dsimp only;rw[Al1 h1,U5 h2]
   ·cases h
  ·cases h
def Ah9:RN:=fun get n args=>match args with
 | [.func f [] [.ptr b 0]]=>match get b with
  |some (.cells (x::_))=>match x with
   | .map m=>if Ab9.contains f then(match get m with
    |some (.map es)=>match Ajx es with
     |some ks=>if ks.length<2 ^ 19 then some (Acy 1 n ((Cq J5 ks).map fun s=> [.str s]),Jq ((Cq J5 ks).map fun s=> [.str s]))else none
     |none=>none
    |_=>none)else none
   | .sl rows _=>if f=297 then(match Q0 rows with
    |some ks=>if ks.length<2 ^ 19 then some (Acy 1 n ((Cq J5 ks).map fun s=> [.str s]),Jq ((Cq J5 ks).map fun s=> [.str s]))else none
    |none=>none)else none
   | .nilsl=>if f=297 then some (Acy 1 n ((Cq J5 []).map fun s=> [.str s]),Jq ((Cq J5 []).map fun s=> [.str s]))else none
   |_=>none
  |_=>none
 |_=>none
theorem Am4(cf:Ah)(args:List D)(st:St)(v:D)(new:St)(h:Ah9 (fun i=>st[i]?) st.length args=some (v,new)):Ho cf args st=some (v,st++new,[]):=by
 unfold Ah9 at h;split at h
 case h_2=>cases h
 rename_i f b;split at h
 case h_2=>cases h
 rename_i x cs hb;split at h
 ·rename_i m;split at h
  case isFalse=>cases h
  rename_i hf;split at h
  case h_2=>cases h
  rename_i es hes;split at h
  case h_2=>cases h
  rename_i ks hks;split at h
  case isFalse=>cases h
  rename_i hlt;cases h;have:Fb cf [.func f [] [.ptr b 0]] st=some (Acy 1 st.length ((Cq J5 ks).map fun s=> [.str s]),st++Jq ((Cq J5 ks).map fun s=> [.str s]),[]):=by
   have hf':f∈Ab9:=by simpa using hf
   unfold Fb;simp[hf',hb,hes,hks,hlt]
  unfold Ho;rw[this]
 ·rename_i rows gr;split at h
  case isFalse=>cases h
  rename_i hf;subst hf;split at h
  case h_2=>cases h
  rename_i ks hks;split at h
  case isFalse=>cases h
  rename_i hlt;cases h;have h1:Fb cf [.func 297 [] [.ptr b 0]] st=none:=by unfold Fb;simp[Ab9]
  unfold Ho;rw[h1];unfold I5;simp[hb,hks,hlt,Pe]
 ·split at h
  case isFalse=>cases h
  rename_i hf;subst hf;cases h;have h1:Fb cf [.func 297 [] [.ptr b 0]] st=none:=by unfold Fb;simp[Ab9]
  unfold Ho;rw[h1];unfold I5;simp[hb,Pe]
 ·cases h
def Adx:RN:=fun get n args=>match args with
 | [.func f [] [.ptr b 0],.func o [] []]=>if f == 175 && o == 132 then(match get b with
   |some (.cells (.map m::_))=>match get m with
    |some (.map es)=>match Ajq es with
     |some ks=>if ks.length<2 ^ 19 then some (Acy 2 n ((Cq Rk ks).map DL),Jq ((Cq Rk ks).map DL))else none
     |none=>none
    |_=>none
   |_=>none)
  else none
 |_=>none
theorem Alv(cf:Ah)(args:List D)(st:St)(v:D)(new:St)(h:Adx (fun i=>st[i]?) st.length args=some (v,new)):Iy cf args st=some (v,st++new,[]):=by
 unfold Adx at h;split at h
 case h_2=>cases h
 split at h
 case isFalse=>cases h
 rename_i hf;split at h
 case h_2=>cases h
 rename_i m cs hb;split at h
 case h_2=>cases h
 rename_i es hes;split at h
 case h_2=>cases h
 rename_i ks hks;split at h
 case isFalse=>cases h
 rename_i hlt;cases h;unfold Iy;simp only[hf,if_true,hb,hes,hks,hlt]
def Aue:RN:=fun get n args=>match args with
 | [d,.str sep]=>match Y3 get d with
  |some ss=>if ss.length≤2 ^ 40∧(Rc sep ss).length≤2 ^ 40 then some (.str (Rc sep ss),[])else none
  |none=>none
 |_=>none
theorem Au8(cf:Ah)(args:List D)(st:St)(v:D)(new:St)(h:Aue (fun i=>st[i]?) st.length args=some (v,new)):Qz cf args st=some (v,st++new,[]):=by
 unfold Aue at h;split at h
 case h_2=>cases h
 split at h
 case h_2=>cases h
 rename_i ss hss;split at h
 case isFalse=>cases h
 rename_i hlt;cases h;unfold Qz;simp only[Nz hss,hlt,and_self,if_true,List.append_nil]
def Amy:RN:=fun get n args=>match args with
 | [d]=>match Y3 get d with
  |some ss=>if ss.length<2 ^ 40∧(Jp Js ss).length<2 ^ 40 then some (.str (Jp Js ss),[])else none
  |none=>none
 |_=>none
theorem Arw(cf:Ah)(args:List D)(st:St)(v:D)(new:St)(h:Amy (fun i=>st[i]?) st.length args=some (v,new)):Nh cf args st=some (v,st++new,[]):=by
 unfold Amy at h;split at h
 case h_2=>cases h
 split at h
 case h_2=>cases h
 rename_i ss hss;split at h
 case isFalse=>cases h
 rename_i hlt;cases h;unfold Nh;simp only[Nz hss,hlt,and_self,if_true,List.append_nil]
def Anx:RN:=fun get n args=>match args with
 | [.nilsl]=>some (.nilsl,[])
 | [.sl [] _]=>some (.sl [] .exact,[])
 | [d]=>match Y3 get d with
  |some ss=>if ss.length<2 ^ 40∧ss≠ []then some (.arr 1 n 0 ss.length ss.length,[.cells (ss.map D.str)])else none
  |none=>none
 |_=>none
theorem Asd(cf:Ah)(args:List D)(st:St)(v:D)(new:St)(h:Anx (fun i=>st[i]?) st.length args=some (v,new)):Kg cf args st=some (v,st++new,[]):=by
 unfold Anx at h;split at h
 ·cases h;rw[List.append_nil];rfl
 ·cases h;rw[List.append_nil];rfl
 ·rename_i d hd1 hd2;split at h
  case h_2=>cases h
  rename_i ss hss;split at h
  case isFalse=>cases h
  rename_i hlt;cases h;have h1:Mx cf [d] st=none:=by
   unfold Mx;split
   ·rename_i gr heq;cases heq;exact absurd rfl (hd2 gr)
   ·rfl
  unfold Kg;rw[h1];dsimp only;unfold Pv;split
  ·rename_i heq;cases heq;exact absurd rfl hd1
  ·rename_i gr heq;cases heq;exact absurd rfl (hd2 gr)
  ·rename_i d' _ _ heq;cases heq;simp only[Nz hss];rw[if_pos hlt]
  ·rename_i _ _ hne;exact absurd rfl (hne d)
 ·cases h
def Aia:RN:=fun get n args=>match args with
 | [.sl rows gr]=>match Xq get rows with
  |some xss=>if xss.length<2 ^ 36∧xss.flatten.length<2 ^ 36 then
    (match xss.flatten with
     | []=>none
     |xs=>some (.arr 2 n 0 xs.length xs.length,[.cells (xs.map DL).flatten]))else none
  |none=>none
 |_=>none
theorem Am7(cf:Ah)(args:List D)(st:St)(v:D)(new:St)(h:Aia (fun i=>st[i]?) st.length args=some (v,new)):Kj cf args st=some (v,st++new,[]):=by
 unfold Aia at h;split at h
 case h_2=>cases h
 split at h
 case h_2=>cases h
 rename_i xss hx;split at h
 case isFalse=>cases h
 rename_i hlt;unfold Kj;simp only[U5 hx,hlt,and_self,if_true];split at h
 ·cases h
 ·rename_i xs hne;cases h;split
  ·rename_i he;exact absurd he hne
  ·rfl
def Z7(g:Bz):RN:=fun _ _ args=>match g cf0 args []with
 |some (v,[],[])=>some (v,[])
 |_=>none
def Af0(g:Bz):Prop:=∀cf args st v,g cf0 args []=some (v,[],[])→g cf args st=some (v,st,[])
theorem Pp{g:Bz}(hg:Af0 g)(cf:Ah)(args:List D)(st:St)(v:D)(new:St)(h:Z7 g (fun i=>st[i]?) st.length args=some (v,new)):g cf args st=some (v,st++new,[]):=by
 unfold Z7 at h;split at h
 ·rename_i v' hv;cases h;rw[List.append_nil];exact hg cf args st v hv
 ·cases h
theorem Ad7:Af0 Ew:=fun cf args st v h=>by
 unfold Ew at h ⊢
 repeat' split at h
 all_goals first|(cases h;done)|(cases h;simp_all)
theorem Al9:Af0 K8:=fun cf args st v h=>by
 unfold K8 at h ⊢
 repeat' split at h
 all_goals first|(cases h;done)|(cases h;simp_all)
theorem Amr:Af0 Ld:=fun cf args st v h=>by
 unfold Ld at h ⊢
 repeat' split at h
 all_goals first|(cases h;done)|(cases h;simp_all)
theorem Aih:Af0 E8:=fun cf args st v h=>by
 unfold E8 at h ⊢
 repeat' split at h
 all_goals first|(cases h;done)|(cases h;simp_all)
theorem Afj(rows:List (List D × D)):Af0 (Im rows):=fun cf args st v h=>by
 unfold Im at h ⊢;split at h
 ·cases h;rfl
 ·cases h
def Axt:RN:=fun get n args=>match args with
 | [.map m,.str src]=>match get m with
  |some (.map es)=>match Ac0 es with
   |some all=>match Aw3 all src with
    |some v=>some (v,[])
    |none=>none
   |none=>none
  |_=>none
 |_=>none
theorem Aw2(cf:Ah)(args:List D)(st:St)(v:D)(new:St)(h:Axt (fun i=>st[i]?) st.length args=some (v,new)):Qv cf args st=some (v,st++new,[]):=by
 unfold Axt at h;split at h
 case h_2=>cases h
 split at h
 case h_2=>cases h
 rename_i es hes;split at h
 case h_2=>cases h
 rename_i all hall;split at h
 case h_2=>cases h
 rename_i v0 hv;cases h;unfold Qv;simp only[hes,hall,hv,List.append_nil]
def Sr:List (Nat × Aaq):= [(153,rnF Ah9),(130,rnF Adx),(273,rnF Aue),(271,rnF Amy),(62,rnF Anx),(159,rnF (Z7 Ew)),(177,rnF (Z7 K8)),(287,rnF (Z7 Ld)),(275,rnF (Z7 E8)),(69,rnF Aia),(114,rnF Axt),(194,A4g Qm)]
def Avw:FuncId→Option Aaq:=F9 Sr
theorem Ags{α β:Type}{R:Nat→α→β→Prop}:∀{l:List (Nat × α)} {l':List (Nat × β)},l.map (·.1)=l'.map (·.1)→(∀(j:Nat) (p:Nat × α) (q:Nat × β),l[j]?=some p→l'[j]?=some q→R p.1 p.2 q.2)→∀n,match F9 l n,F9 l' n with|some a,some b=>R n a b|none,none=>True|_,_=>False
 | [],[],_,_,n=>trivial
 | [],_::_,h,_,n=>by cases h
 |_::_,[],h,_,n=>by cases h
 |(k,a)::l,(k',b)::l',h,hR,n=>by
  simp only[List.map_cons,List.cons.injEq]at h;obtain⟨rfl,h⟩:=h;have ih:=Ags (R:=R) h (fun j p q hp hq=>hR (j+1) p q (by simpa using hp) (by simpa using hq)) n
  unfold F9;by_cases he:Nat.beq k n=true
  ·have:=Nat.eq_of_beq_eq_true he;subst this;simp only[he,if_true];exact hR 0 _ _ rfl rfl
  ·simp only[he];exact ih
theorem Aoz:Av0 Aw5 Avw:=by
 intro f;have:=Ags (l:=Q9) (l':=Sr) (R:=fun f g fg=>∀cf cfF args st s,O1 st s→Ra (g cf args st) (fg cfF args s)) rfl (fun j p q hp hq=>?_) f
 ·unfold Aw5 Avw;cases h1:F9 Q9 f with
  |none=>
   cases h2:F9 Sr f with
   |none=>rfl
   |some b=>rw[h1,h2]at this;exact this.elim
  |some a=>
   cases h2:F9 Sr f with
   |none=>rw[h1,h2]at this;exact this.elim
   |some b=>rw[h1,h2]at this;exact⟨a,rfl,this⟩
 ·match j with
  |0=>cases hp;cases hq;exact Fu Am4
  |1=>cases hp;cases hq;exact Fu Alv
  |2=>cases hp;cases hq;exact Fu Au8
  |3=>cases hp;cases hq;exact Fu Arw
  |4=>cases hp;cases hq;exact Fu Asd
  |5=>cases hp;cases hq;exact Fu (Pp Ad7)
  |6=>cases hp;cases hq;exact Fu (Pp Al9)
  |7=>cases hp;cases hq;exact Fu (Pp Amr)
  |8=>cases hp;cases hq;exact Fu (Pp Aih)
  |9=>cases hp;cases hq;exact Fu Am7
  |10=>cases hp;cases hq;exact Fu Aw2
  |11=>cases hp;cases hq;exact Afu (Ba1 194 Qm rfl)
  |j+12=>cases hp
def Ax1:D→D→Bool
 | .tup a,.tup b=>Aci a b
 | .undef,.undef=>true
 |a,b=>Apk a b
theorem Alo{a b:D}(h:Ax1 a b=true):a=b:=by
 unfold Ax1 at h;split at h
 ·rw[Rs h]
 ·rfl
 ·exact Akp h
def okV(r:Fh)(v:D):Bool:=match r with
 | .ok v' _ _=>Ax1 v' v
 |_=>false
def Ad3:List (List D × D):=(List.range 32).map fun(n:Nat)=>([.int .i64 (n:Int)],.str (P7 n))
def Bdc(r:List D × D):Bool:=okV (Zv C1 Avw 2000 30 49 r.1 (Yn [])) r.2 && !F6 0 r.1 && Sn r.2
theorem k37:Ad3.all Bdc=true:=by kernel_rfl
theorem Agy{β:Nat→Nat→Option Value}(hM:I6 β):∀r∈Ad3,Akr prog β 49 r.1 r.2:=by
 intro r hr';have h1:=List.all_eq_true.1 k37 r hr';unfold Bdc at h1;simp only[Bool.and_eq_true,Bool.not_eq_true']at h1;obtain⟨⟨h1,h2⟩,h3⟩:=h1;unfold okV at h1;split at h1
 ·rename_i v' s W hc;rw[Alo h1]at hc;have h4:=S9 Aoz (st:= []) hc;exact row_of ((Aq5 (Ame hM) 2000 30).just 49) h4 h2 h3
 ·cases h1
def Oj:Bz:=fun _ args st=>match args with
 | [d]=>match Ob st d with
  |some ss=>if(ss.length<2 ^ 40∧(Jp (Qf P7) ss).length<2 ^ 40)∧ss.all (fun s=>decide (s.length<32))=true then some (.str (Jp (Qf P7) ss),st,[])else none
  |none=>none
 |_=>none
theorem Ae8(cf:Ah):Ba (Oj cf):=Gl (fun cf args st v st' W h=>by
 unfold Oj at h;split at h
 case h_2=>cases h
 split at h
 case h_2=>cases h
 split at h
 case isFalse=>cases h
 cases h;rfl) cf
theorem Aht{β:Nat→Nat→Option Value}(hM:I6 β)(cf:Ah):Ji prog β 309 (Oj cf):=by
 intro args st v st' W h g w A hb hs hA;unfold Oj at h;split at h
 case h_2=>cases h
 rename_i d;split at h
 case h_2=>cases h
 rename_i ss hss;split at h
 case isFalse=>cases h
 rename_i hlen;cases h;obtain⟨v0,rfl⟩:=K9 (A:=A) (by simpa using hA.size)
 have hv0:VR g d v0:=hA.at_ 0 _ _ rfl rfl;obtain⟨p,cap,rfl,h2,h3⟩:=Wo hs hv0 hss;refine(Tryz.put338 P7 p ss cap w hlen.1.1 hlen.1.2 h3 ?_).mono ?_
 ·intro s wr hsm hfr;obtain⟨hsr,_⟩:=Xi hs hfr;have hsl:s.length<32:=by simpa using List.all_eq_true.1 hlen.2 s hsm
  have hrow:=Agy hM ([.int .i64 (s.length:Int)],.str (P7 s.length)) (List.mem_map.2 ⟨s.length,List.mem_range.2 hsl,rfl⟩);refine(hrow st g wr #[.int .i64 (s.length:Int)] hb hsr ⟨rfl,fun j d x hj hx=>?_⟩).mono ?_
  ·match j with
   |0=>cases hj;cases hx;exact .int _ _
   |j+1=>simp at hj
  ·rintro e w' ⟨r,g',rfl,hv,hs',hst,hf⟩;refine⟨by rw[C9 hv],hst.os,hst.out,hst.size,fun k hk=>hst.fr k hk fun id hid=>by cases hid⟩
 ·rintro e w' ⟨rfl,hb'⟩;obtain⟨h4,h5⟩:=Xi hs hb';exact⟨_,g,rfl,VR.str ⟨(Jp (Qf P7) ss).toArray⟩,h4,h5,Dx.refl _ _⟩
def Aso:FuncId→Option Bz:=F9 ((49,Im Ad3)::(309,Oj)::Q9)
theorem Ad8{f:FuncId}{nt:Bz}(h:Aso f=some nt):(f=49∧nt=Im Ad3)∨(f=309∧nt=Oj)∨Aw5 f=some nt:=by
 unfold Aso at h;unfold F9 at h;split at h
 ·rename_i he;cases h;exact .inl ⟨(Nat.eq_of_beq_eq_true he).symm,rfl⟩
 ·unfold F9 at h;split at h
  ·rename_i he;cases h;exact .inr (.inl ⟨(Nat.eq_of_beq_eq_true he).symm,rfl⟩)
  ·exact .inr (.inr h)
theorem Aty{β:Nat→Nat→Option Value}(hM:I6 β):Ww C1 β Aso:=by
 refine⟨fun f nt h cf hX=>?_,fun f nt h cf hk=>?_⟩
 ·rcases Ad8 h with⟨rfl,rfl⟩|⟨rfl,rfl⟩|h
  ·exact Qg (Agy hM) cf
  ·exact Aht hM cf
  ·exact(Ame hM).just f nt h cf hX
 ·rcases Ad8 h with⟨rfl,rfl⟩|⟨rfl,rfl⟩|h
  ·exact Ou cf
  ·exact Ae8 cf
  ·exact(Ame hM).keeps f nt h cf hk
def Ava:RN:=fun get n args=>match args with
 | [d]=>match Y3 get d with
  |some ss=>if(ss.length<2 ^ 40∧(Jp (Qf P7) ss).length<2 ^ 40)∧ss.all (fun s=>decide (s.length<32))=true then some (.str (Jp (Qf P7) ss),[])else none
  |none=>none
 |_=>none
theorem Awx(cf:Ah)(args:List D)(st:St)(v:D)(new:St)(h:Ava (fun i=>st[i]?) st.length args=some (v,new)):Oj cf args st=some (v,st++new,[]):=by
 unfold Ava at h;split at h
 case h_2=>cases h
 split at h
 case h_2=>cases h
 rename_i ss hss;split at h
 case isFalse=>cases h
 rename_i hlt;cases h;unfold Oj;simp only[Nz hss,hlt,and_self,if_true,List.append_nil]
def Avk:FuncId→Option Aaq:=F9 ((49,rnF (Z7 (Im Ad3)))::(309,rnF Ava)::Sr)
theorem A4x:Av0 Aso Avk:=by
 intro f;unfold Aso Avk;unfold F9;by_cases h1:Nat.beq 49 f=true
 ·simp only[h1,if_true];exact⟨_,rfl,Fu (Pp (Afj _))⟩
 ·simp only[h1];unfold F9;by_cases h2:Nat.beq 309 f=true
  ·simp only[h2,if_true];exact⟨_,rfl,Fu Awx⟩
  ·simp only[h2];exact Aoz f
def As8(rows:List (Nat × List (List D × D))):FuncId→Option Bz:=fun f=>match F9 rows f with
 |some rs=>some (Im rs)
 |none=>Aso f
def Ia(β:Nat→Nat→Option Value)(rows:List (Nat × List (List D × D))):Prop:=∀p∈rows,∀r∈p.2,Akr prog β p.1 r.1 r.2
theorem Aqa{β:Nat→Nat→Option Value}{rows:List (Nat × List (List D × D))}(hM:I6 β)(hr:Ia β rows):Ww C1 β (As8 rows):=by
 refine⟨fun f nt h cf hX=>?_,fun f nt h cf hk=>?_⟩
 ·unfold As8 at h;split at h
  ·rename_i rs hrs;cases h;exact Qg (hr _ (J4 hrs)) cf
  ·exact(Aty hM).just f nt h cf hX
 ·unfold As8 at h;split at h
  ·cases h;exact Ou cf
  ·exact(Aty hM).keeps f nt h cf hk
theorem An0{β:Nat→Nat→Option Value}:Ia β []:=fun p hp=>by cases hp
def An7:List (List D × D):= [
 ([.agg [.str [114],.sl [[.str [115]]] .none,.sl [[.str [120]]] .none,.sl [] .none,.sl [[.str [120],.int .i64 (1),.sl [[.str [115]]] .none,.sl [] .none,.int .i64 (0)]] .none]],.int .i64 (0)),([.agg [.str [99],.sl [[.str [121]]] .none,.sl [[.str [122]]] .none,.sl [[.str [97]]] .none,.sl [[.str [122],.int .i64 (5),.sl [[.str [121]]] .none,.sl [] .none,.int .i64 (0)]] .none]],.int .i64 (0)),([.agg [.str [97],.sl [[.str [115]]] .none,.sl [[.str [120]]] .none,.sl [] .none,.sl [[.str [120],.int .i64 (5),.sl [[.str [115]]] .none,.sl [] .none,.int .i64 (0)]] .none]],.int .i64 (0)),([.agg [.str [98],.sl [[.str [120]]] .none,.sl [[.str [121]]] .none,.sl [] .none,.sl [[.str [121],.int .i64 (5),.sl [[.str [120]]] .none,.sl [] .none,.int .i64 (0)]] .none]],.int .i64 (0)),([.agg [.str [114],.sl [[.str [97]],[.str [98]]] .none,.sl [[.str [120]],[.str [121]]] .none,.sl [] .none,.sl [[.str [116],.int .i64 (3),.sl [[.str [97]]] .none,.sl [] .none,.int .i64 (0)],[.str [120],.int .i64 (4),.sl [[.str [116]]] .none,.sl [] .none,.int .i64 (0)],[.str [121],.int .i64 (2),.sl [[.str [98]]] .none,.sl [] .none,.int .i64 (0)]] .none]],.int .i64 (0)),([.agg [.str [115],.sl [[.str [120]]] .none,.sl [[.str [97]]] .none,.sl [] .none,.sl [[.str [97],.int .i64 (1),.sl [[.str [120]]] .none,.sl [] .none,.int .i64 (0)]] .none]],.int .i64 (0))]
def Ati:List (List D × D):= [
 ([.sl [] .none],.tup [.int .i64 (0),.str []]),([.sl [[.str [114],.sl [[.str [115]]] .none,.sl [[.str [120]]] .none,.sl [] .none,.sl [[.str [120],.int .i64 (1),.sl [[.str [115]]] .none,.sl [] .none,.int .i64 (0)]] .none]] .none],.tup [.int .i64 (0),.str []]),([.sl [[.str [99],.sl [[.str [121]]] .none,.sl [[.str [122]]] .none,.sl [[.str [97]]] .none,.sl [[.str [122],.int .i64 (5),.sl [[.str [121]]] .none,.sl [] .none,.int .i64 (0)]] .none],[.str [97],.sl [[.str [115]]] .none,.sl [[.str [120]]] .none,.sl [] .none,.sl [[.str [120],.int .i64 (5),.sl [[.str [115]]] .none,.sl [] .none,.int .i64 (0)]] .none],[.str [98],.sl [[.str [120]]] .none,.sl [[.str [121]]] .none,.sl [] .none,.sl [[.str [121],.int .i64 (5),.sl [[.str [120]]] .none,.sl [] .none,.int .i64 (0)]] .none]] .none],.tup [.int .i64 (0),.str []]),([.sl [[.str [114],.sl [[.str [97]],[.str [98]]] .none,.sl [[.str [120]],[.str [121]]] .none,.sl [] .none,.sl [[.str [116],.int .i64 (3),.sl [[.str [97]]] .none,.sl [] .none,.int .i64 (0)],[.str [120],.int .i64 (4),.sl [[.str [116]]] .none,.sl [] .none,.int .i64 (0)],[.str [121],.int .i64 (2),.sl [[.str [98]]] .none,.sl [] .none,.int .i64 (0)]] .none]] .none],.tup [.int .i64 (0),.str []]),([.sl [[.str [115],.sl [[.str [120]]] .none,.sl [[.str [97]]] .none,.sl [] .none,.sl [[.str [97],.int .i64 (1),.sl [[.str [120]]] .none,.sl [] .none,.int .i64 (0)]] .none],[.str [114],.sl [[.str [97]],[.str [98]]] .none,.sl [[.str [120]],[.str [121]]] .none,.sl [] .none,.sl [[.str [116],.int .i64 (3),.sl [[.str [97]]] .none,.sl [] .none,.int .i64 (0)],[.str [120],.int .i64 (4),.sl [[.str [116]]] .none,.sl [] .none,.int .i64 (0)],[.str [121],.int .i64 (2),.sl [[.str [98]]] .none,.sl [] .none,.int .i64 (0)]] .none]] .none],.tup [.int .i64 (0),.str []])]
def Awu:List (List D × D):= [
 ([.sl [] .none],.tup [.int .i64 (0),.str []]),([.sl [[.str [114],.sl [[.str [115]]] .none,.sl [[.str [120]]] .none,.sl [] .none,.sl [[.str [120],.int .i64 (1),.sl [[.str [115]]] .none,.sl [] .none,.int .i64 (0)]] .none]] .none],.tup [.int .i64 (0),.str []]),([.sl [[.str [99],.sl [[.str [121]]] .none,.sl [[.str [122]]] .none,.sl [[.str [97]]] .none,.sl [[.str [122],.int .i64 (5),.sl [[.str [121]]] .none,.sl [] .none,.int .i64 (0)]] .none],[.str [97],.sl [[.str [115]]] .none,.sl [[.str [120]]] .none,.sl [] .none,.sl [[.str [120],.int .i64 (5),.sl [[.str [115]]] .none,.sl [] .none,.int .i64 (0)]] .none],[.str [98],.sl [[.str [120]]] .none,.sl [[.str [121]]] .none,.sl [] .none,.sl [[.str [121],.int .i64 (5),.sl [[.str [120]]] .none,.sl [] .none,.int .i64 (0)]] .none]] .none],.tup [.int .i64 (0),.str []]),([.sl [[.str [114],.sl [[.str [97]],[.str [98]]] .none,.sl [[.str [120]],[.str [121]]] .none,.sl [] .none,.sl [[.str [116],.int .i64 (3),.sl [[.str [97]]] .none,.sl [] .none,.int .i64 (0)],[.str [120],.int .i64 (4),.sl [[.str [116]]] .none,.sl [] .none,.int .i64 (0)],[.str [121],.int .i64 (2),.sl [[.str [98]]] .none,.sl [] .none,.int .i64 (0)]] .none]] .none],.tup [.int .i64 (0),.str []]),([.sl [[.str [115],.sl [[.str [120]]] .none,.sl [[.str [97]]] .none,.sl [] .none,.sl [[.str [97],.int .i64 (1),.sl [[.str [120]]] .none,.sl [] .none,.int .i64 (0)]] .none],[.str [114],.sl [[.str [97]],[.str [98]]] .none,.sl [[.str [120]],[.str [121]]] .none,.sl [] .none,.sl [[.str [116],.int .i64 (3),.sl [[.str [97]]] .none,.sl [] .none,.int .i64 (0)],[.str [120],.int .i64 (4),.sl [[.str [116]]] .none,.sl [] .none,.int .i64 (0)],[.str [121],.int .i64 (2),.sl [[.str [98]]] .none,.sl [] .none,.int .i64 (0)]] .none]] .none],.tup [.int .i64 (3),.str [114]])]
def Ap7:List (List D × D):= [
 ([.sl [[.str [99],.sl [[.str [121]]] .none,.sl [[.str [122]]] .none,.sl [[.str [97]]] .none,.sl [[.str [122],.int .i64 (5),.sl [[.str [121]]] .none,.sl [] .none,.int .i64 (0)]] .none],[.str [97],.sl [[.str [115]]] .none,.sl [[.str [120]]] .none,.sl [] .none,.sl [[.str [120],.int .i64 (5),.sl [[.str [115]]] .none,.sl [] .none,.int .i64 (0)]] .none],[.str [98],.sl [[.str [120]]] .none,.sl [[.str [121]]] .none,.sl [] .none,.sl [[.str [121],.int .i64 (5),.sl [[.str [120]]] .none,.sl [] .none,.int .i64 (0)]] .none]] .none,.str [99],.str [97]],.bool true)]
def A9m:List (Nat × List (List D × D)):= [(109,An7)]
def A9x:List (Nat × List (List D × D)):=(60,Ati)::A9m
def Bbr:List (Nat × List (List D × D)):=(27,Awu)::A9x
def Np:List (List D × D):= [([],.bool true)]
def A9g:List (Nat × List (List D × D)):=(278,Np)::Bbr
def A6z:List (Nat × List (List D × D)):=(220,Np)::A9g
def Aai:List (Nat × List (List D × D)):=(144,Np)::A6z
def Rf:List (Nat × List (List D × D)):=(95,Ap7)::Aai
def Ba7:List (Nat × List (List D × D)):=(43,Np)::Rf
def A4f:List (Nat × List (List D × D)):=(5,Np)::Ba7
def Bbs:Gr→Gr→Bool
 | .none,.none=>true
 | .exact,.exact=>true
 | .tok a b,.tok c d=>a == c && b == d
 |_,_=>false
theorem A1f{a b:Gr}(h:Bbs a b=true):a=b:=by
 unfold Bbs at h;split at h
 ·rfl
 ·rfl
 ·simp only[Bool.and_eq_true,beq_iff_eq]at h;rw[h.1,h.2]
 ·cases h
mutual
def Ank:D→D→Bool
 | .undef,.undef=>true
 | .int k a,.int k' b=>k == k' && a == b
 | .bool a,.bool b=>a == b
 | .str a,.str b=>a == b
 | .nilp,.nilp=>true
 | .ptr a b,.ptr c d=>a == c && b == d
 | .eptr a,.eptr b=>Aam a b
 | .nilsl,.nilsl=>true
 | .sl r g,.sl r' g'=>Aoq r r' && Bbs g g'
 | .arr a b c d e,.arr a' b' c' d' e'=>a == a' && b == b' && c == c' && d == d' && e == e'
 | .nilmap,.nilmap=>true
 | .map a,.map b=>a == b
 | .nilfunc,.nilfunc=>true
 | .func f a b,.func f' a' b'=>f == f' && Aam a a' && Aam b b'
 | .nilif,.nilif=>true
 | .iface t d,.iface t' d'=>t == t' && Ank d d'
 | .agg a,.agg b=>Aam a b
 | .tup a,.tup b=>Aam a b
 |_,_=>false
def Aam:List D→List D→Bool
 | [],[]=>true
 |a::x,b::y=>Ank a b && Aam x y
 |_,_=>false
def Aoq:List (List D)→List (List D)→Bool
 | [],[]=>true
 |a::x,b::y=>Aam a b && Aoq x y
 |_,_=>false
end
mutual
theorem Xa:∀{a b:D},Ank a b=true→a=b:=fun {a b} h=>by
 unfold Ank at h;split at h
 case h_19=>cases h
 all_goals first
  |rfl
  |rw[Mh h]
  |(simp only[Bool.and_eq_true,beq_iff_eq]at h
    first
     |rw[h]
     |rw[h.1,h.2]
     |rw[h.1,Xa h.2]
     |rw[h.1.1,Mh h.1.2,Mh h.2]
     |rw[Ajb h.1,A1f h.2]
     |rw[h.1.1.1.1,h.1.1.1.2,h.1.1.2,h.1.2,h.2]
     |rw[Mh h])
theorem Mh:∀{x y:List D},Aam x y=true→x=y
 | [],[],_=>rfl
 |a::x,b::y,h=>by unfold Aam at h;rw[Bool.and_eq_true]at h;rw[Xa h.1,Mh h.2]
 | [],_::_,h=>by cases h
 |_::_,[],h=>by cases h
theorem Ajb:∀{x y:List (List D)},Aoq x y=true→x=y
 | [],[],_=>rfl
 |a::x,b::y,h=>by unfold Aoq at h;rw[Bool.and_eq_true]at h;rw[Mh h.1,Ajb h.2]
 | [],_::_,h=>by cases h
 |_::_,[],h=>by cases h
end
def A4a:List (D × D)→List (D × D)→Bool
 | [],[]=>true
 |a::x,b::y=>Ank a.1 b.1 && Ank a.2 b.2 && A4a x y
 |_,_=>false
theorem Aoh:∀{x y:List (D × D)},A4a x y=true→x=y
 | [],[],_=>rfl
 |(a,a')::x,(b,b')::y,h=>by unfold A4a at h;simp only[Bool.and_eq_true]at h;rw[Xa h.1.1,Xa h.1.2,Aoh h.2]
 | [],_::_,h=>by cases h
 |_::_,[],h=>by cases h
def A7w:Obj→Obj→Bool
 | .cells a,.cells b=>Aam a b
 | .fcells a,.fcells b=>Aam a b
 | .map a,.map b=>A4a a b
 | .tok a,.tok b=>a == b
 | .iter s p,.iter s' p'=>s == s' && p == p'
 | .dead,.dead=>true
 |_,_=>false
theorem Ayq{a b:Obj}(h:A7w a b=true):a=b:=by
 unfold A7w at h;split at h
 ·rw[Mh h]
 ·rw[Mh h]
 ·rw[Aoh h]
 ·rw[beq_iff_eq.1 h]
 ·simp only[Bool.and_eq_true,beq_iff_eq]at h;rw[h.1,h.2]
 ·rfl
 ·cases h
def Ax4:St→St→Bool
 | [],[]=>true
 |a::x,b::y=>A7w a b && Ax4 x y
 |_,_=>false
theorem Ahd:∀{x y:St},Ax4 x y=true→x=y
 | [],[],_=>rfl
 |a::x,b::y,h=>by unfold Ax4 at h;simp only[Bool.and_eq_true]at h;rw[Ayq h.1,Ahd h.2]
 | [],_::_,h=>by cases h
 |_::_,[],h=>by cases h
structure F3 where
 args:List D
 st:St
 v:D
 st':St
 W:Cb
def Aqn(args:List D)(st:St):List F3→Option F3
 | []=>none
 |r::l=>if Nat.beq (List.length r.st) (List.length st) && (Aam r.args args && Ax4 r.st st)then some r else Aqn args st l
theorem Acu{args:List D}{st:St}{r:F3}:∀{l:List F3},Aqn args st l=some r→r∈l∧r.args=args∧r.st=st
 | [],h=>by cases h
 |x::l,h=>by
  unfold Aqn at h;split at h
  ·rename_i he;cases h;simp only[Bool.and_eq_true]at he;exact⟨by simp,Mh he.2.1,Ahd he.2.2⟩
  ·obtain⟨h1,h2⟩:=Acu h;exact⟨List.mem_cons_of_mem _ h1,h2⟩
def A5a(rows:List F3):Bz:=fun _ args st=>match Aqn args st rows with
 |some r=>some (r.v,r.st',r.W)
 |none=>none
def Rx(β:Nat→Nat→Option Value)(f:FuncId)(r:F3):Prop:=∃nat N n,Ww C1 β nat∧Ii C1 nat N n f r.args r.st=some (r.v,r.st',r.W)
def Ath(srows:List (Nat × List F3))(rows:List (Nat × List (List D × D))):FuncId→Option Bz:=fun f=>match F9 srows f with
 |some rs=>some (A5a rs)
 |none=>As8 rows f
def Oh(β:Nat→Nat→Option Value)(srows:List (Nat × List F3)):Prop:=∀p∈srows,∀r∈p.2,Rx β p.1 r
theorem Ao9{β:Nat→Nat→Option Value}{srows:List (Nat × List F3)}{rows:List (Nat × List (List D × D))}(hM:I6 β)(hs:Oh β srows)(hr:Ia β rows):Ww C1 β (Ath srows rows):=by
 have hrow:∀{f:FuncId} {rs:List F3},F9 srows f=some rs→∀{args:List D} {st:St} {v:D} {st':St} {W:Cb},A5a rs (fun _ _ _=>none) args st=some (v,st',W)→∃nat N n,Ww C1 β nat∧Ii C1 nat N n f args st=some (v,st',W):=fun {f rs} h {args st v st' W} h1=>by
  unfold A5a at h1;split at h1
  ·rename_i r hr;cases h1;obtain⟨h2,rfl,rfl⟩:=Acu hr;exact hs _ (J4 h) r h2
  ·cases h1
 refine⟨fun f nt h cf hX=>?_,fun f nt h cf hk=>?_⟩
 ·unfold Ath at h;split at h
  ·rename_i rs hrs;cases h;intro args st v st' W h1;obtain⟨nat,N,n,h2,h3⟩:=hrow hrs h1;exact(Aq5 h2 N n).just f args st v st' W h3
  ·exact(Aqa hM hr).just f nt h cf hX
 ·unfold Ath at h;split at h
  ·rename_i rs hrs;cases h;intro args st v st' W h1;obtain⟨nat,N,n,h2,h3⟩:=hrow hrs h1;exact(Aq5 h2 N n).keeps f args st v st' W h3
  ·exact(Aqa hM hr).keeps f nt h cf hk
def Ayg:Cb→Cb→Bool
 | [],[]=>true
 |a::x,b::y=>Nat.beq a b && Ayg x y
 |_,_=>false
theorem Aqe:∀{x y:Cb},Ayg x y=true→x=y
 | [],[],_=>rfl
 |a::x,b::y,h=>by unfold Ayg at h;rw[Bool.and_eq_true]at h;rw[Nat.eq_of_beq_eq_true h.1,Aqe h.2]
 | [],_::_,h=>by cases h
 |_::_,[],h=>by cases h
theorem Cc{β:Nat→Nat→Option Value}:Oh β []:=fun p hp=>by cases hp
theorem Ev{β:Nat→Nat→Option Value}{srows:List (Nat × List F3)}{f:Nat}{rs:List F3}(hs:Oh β srows)(h:∀r∈rs,Rx β f r):Oh β ((f,rs)::srows):=by
 intro p hp;rcases List.mem_cons.1 hp with rfl|hp
 ·exact h
 ·exact hs p hp
def Aof(srows:List (Nat × List F3))(rows:List (Nat × List (List D × D))):FuncId→Option Aaq:=fun f=>match F9 srows f with
 |some rs=>some (A4g (A5a rs))
 |none=>match F9 rows f with
  |some rs=>some (rnF (Z7 (Im rs)))
  |none=>Avk f
theorem Alk(srows:List (Nat × List F3))(rows:List (Nat × List (List D × D))):Av0 (Ath srows rows) (Aof srows rows):=by
 intro f;unfold Ath As8 Aof;cases h1:F9 srows f with
 |some rs=>exact⟨_,rfl,Afu fun cf args st v st' W h=>h⟩
 |none=>
  cases h2:F9 rows f with
  |some rs=>exact⟨_,rfl,Fu (Pp (Afj rs))⟩
  |none=>exact A4x f
def Ll(srows:List (Nat × List F3))(rows:List (Nat × List (List D × D)))(n f:Nat)(r:List D × D):Bool:=
 okV (Zv C1 (Aof srows rows) 2000 n f r.1 (Yn [])) r.2 && !F6 0 r.1 && Sn r.2
theorem Ej{β:Nat→Nat→Option Value}{srows:List (Nat × List F3)}{rows:List (Nat × List (List D × D))}{n f:Nat}{rs:List (List D × D)}(hM:I6 β)(hs:Oh β srows)(hr:Ia β rows)(h:rs.all (Ll srows rows n f)=true):
  Ia β ((f,rs)::rows):=by
 intro p hp;rcases List.mem_cons.1 hp with rfl|hp
 ·intro r hr';have h1:=List.all_eq_true.1 h r hr';unfold Ll at h1;simp only[Bool.and_eq_true,Bool.not_eq_true']at h1;obtain⟨⟨h1,h2⟩,h3⟩:=h1;unfold okV at h1;split at h1
  ·rename_i v' s W hc;rw[Alo h1]at hc;have h4:=S9 (Alk srows rows) (st:= []) hc;exact row_of ((Aq5 (Ao9 hM hs hr) 2000 n).just f) h4 h2 h3
  ·cases h1
 ·exact hr p hp
def Pd(srows:List (Nat × List F3))(rows:List (Nat × List (List D × D)))(n f:Nat)(r:F3):Bool:=match Zv C1 (Aof srows rows) 2000 n f r.args (Yn r.st)with
 | .ok v s W=>Ank v r.v && Ax4 (stF s) r.st' && Ayg W r.W
 |_=>false
theorem Ea{β:Nat→Nat→Option Value}{srows:List (Nat × List F3)}{rows:List (Nat × List (List D × D))}{n f:Nat}{r:F3}(hM:I6 β)(hs:Oh β srows)(hr:Ia β rows)(h:Pd srows rows n f r=true):Rx β f r:=by
 unfold Pd at h;split at h
 ·rename_i v s W hc;simp only[Bool.and_eq_true]at h;have h4:=S9 (Alk srows rows) hc;rw[Xa h.1.1,Ahd h.1.2,Aqe h.2]at h4;exact⟨_,_,_,Ao9 hM hs hr,h4⟩
 ·cases h
end Go.Vam
