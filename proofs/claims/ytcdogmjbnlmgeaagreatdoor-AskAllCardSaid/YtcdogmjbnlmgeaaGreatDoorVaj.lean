/-
  The rest of the native calls; this program's machine.
-/
import Derived.Test.YtcdogmjbnlmgeaaGreatDoorVag
import Derived.OwnWalkIn
import Derived.TacticsInMore
import Derived.LoopNIn
import Derived.LoopIn
set_option linter.unusedSimpArgs false
set_option linter.unusedVariables false
set_option maxRecDepth 100000
namespace Go.Vam
open Go.Proofs Go.Proofs.Tryz Go.RowKit
attribute [local go_sem] Oper.semAt_some
theorem Arp{α:Type}{l:List α}{k:Nat}(h:k<l.length):l.take (k+1)=l.take k++ [l[k]]:=by rw[List.take_add_one,List.getElem?_eq_getElem h];rfl
set_option maxHeartbeats 2000000 in
theorem Aq4(n:Nat)(hn:1≤n){w:World}{Bs b off cap:Nat}{zs:List (List UInt8)}(hreach:zs.length<2 ^ 30)(hBs:Bs<w.heap.size)(hb:0<zs.length→b<w.heap.size)(hc0:w.cell? ⟨Bs,0,none⟩=some (.slice (some ⟨b,off,none⟩) zs.length cap))
  (hcs:∀j (h:j<zs.length),w.cell? ⟨b,off+j,none⟩=some (encStr zs[j])):Hu Fence.wide n prog 326 #[.pointer (some ⟨Bs,0,none⟩)] encStr (fun xs=>xs=zs) zs.length w:=by
 intro l J W hW hJa hJ hY h0;have hcW:W.cell? ⟨Bs,0,none⟩=some (.slice (some ⟨b,off,none⟩) zs.length cap):=by rw[← hc0];exact World.cell?_of_block (hW.block Bs hBs)
 refine callsIn_of_wp func326 rfl trivial ?_ rfl;simp only[ntmps326,List.size_toArray,List.length_cons,List.length_nil,Nat.reduceAdd,Nat.reduceSub,Array.replicate_succ,Array.replicate_zero,List.push_toArray,List.append_toArray,List.nil_append,List.cons_append]
 gi_wp2
 gi_loopw [7] (fun i wr=>∃k:Nat,k≤zs.length∧i= .int .i64 k∧J (zs.take k) wr)
  (fun i _=>zs.length - (RowKit.intOf i).toNat)
 case atStart=>exact⟨0,Nat.zero_le _,rfl,h0⟩
 case round=>
  obtain⟨k,hk,rfl,hJs⟩:=hrel;by_cases hlt:k<zs.length
  ·have hcx:wr.cell? ⟨b,off+k,none⟩=some (encStr zs[k]):=by
    rw[← hcs k hlt];exact World.cell?_of_block (hJ _ _ hJs b (hb (by omega)))
   obtain⟨fn,tmps,assign,body,hy,hR⟩:=hY _ zs[k] wr hJs (by rw[List.length_take];omega)
   unfold encStr at hcx hy
   gi_wp2
   refine hR.mono ?_;rintro e W3 ⟨rfl,hJ3,hk3⟩
   gi_wp2
   go_roundw
   case rel=>exact⟨k+1,by omega,by simp,by rw[Arp hlt];exact hJ3⟩
   case measure=>simp[RowKit.intOf];omega
  ·obtain rfl:k=zs.length:=by omega
   gi_wp2
   go_end0
   exact⟨⟨_,rfl⟩,zs,rfl,by rw[List.take_length]at hJs;exact hJs⟩
set_option maxHeartbeats 2000000 in
theorem U2(n:Nat)(hn:1≤n){w:World}{Bs:Nat}(hBs:Bs<w.heap.size)(hc0:w.cell? ⟨Bs,0,none⟩=some (.slice none 0 0)):Hu Fence.wide n prog 326 #[.pointer (some ⟨Bs,0,none⟩)] encStr (fun xs=>xs= []) 0 w:=by
 intro l J W hW hJa hJ hY h0;have hcW:W.cell? ⟨Bs,0,none⟩=some (.slice none 0 0):=by rw[← hc0];exact World.cell?_of_block (hW.block Bs hBs)
 refine callsIn_of_wp func326 rfl trivial ?_ rfl;simp only[ntmps326,List.size_toArray,List.length_cons,List.length_nil,Nat.reduceAdd,Nat.reduceSub,Array.replicate_succ,Array.replicate_zero,List.push_toArray,List.append_toArray,List.nil_append,List.cons_append]
 gi_wp2
 gi_loopw [7] (fun i wr=>i= .int .i64 0∧J [] wr) (fun _ _=>0)
 case atStart=>exact⟨rfl,h0⟩
 case round=>
  obtain⟨rfl,hJs⟩:=hrel
  gi_wp2
  go_end0
  exact⟨⟨_,rfl⟩,[],rfl,hJs⟩
def Pe(ks:List (List UInt8))(st:St):D × St × Cb:=(Acy 1 st.length ((Cq J5 ks).map fun s=> [.str s]),st++Jq ((Cq J5 ks).map fun s=> [.str s]),[])
def I5:Bz:=fun _ args st=>match args with
 | [.func 326 [] [.ptr b 0]]=>match st[b]? with
  |some (.cells (.sl rows _::_))=>match Q0 rows with
   |some ks=>if ks.length<2 ^ 19 then some (Pe ks st)else none
   |none=>none
  |some (.cells (.nilsl::_))=>some (Pe [] st)
  |_=>none
 |_=>none
def Ho:Bz:=fun cf args st=>match Fb cf args st with
 |some r=>some r
 |none=>I5 cf args st
theorem Aap{β:Nat→Nat→Option Value}(cf:Ah):Ji prog β 162 (I5 cf):=by
 intro args st v st' W h g w A hb hs hA;unfold I5 at h;split at h
 case h_2=>cases h
 rename_i b;have hcase:∃d cs ks,st[b]?=some (.cells (d::cs))∧((∃rows gr,d= .sl rows gr∧Q0 rows=some ks)∨d= .nilsl∧ks= [])∧ks.length<2 ^ 19∧some (Pe ks st)=some (v,st',W):=by
  split at h
  ·rename_i rows gr cs hst;split at h
   ·rename_i ks hks;split at h
    ·rename_i hlt;exact⟨_,_,ks,hst,.inl ⟨rows,gr,rfl,hks⟩,hlt,h⟩
    ·cases h
   ·cases h
  ·rename_i cs hst;exact⟨_,_,[],hst,.inr ⟨rfl,rfl⟩,by decide,h⟩
  ·cases h
 clear h;obtain⟨d,cs,ks,hst,hd,hlen,hres⟩:=hcase;cases hres;obtain⟨v0,hA0⟩:∃v0,A= #[v0]:=by have:=hA.size;simp at this;exact Array.size_eq_one_iff.1 this
 subst hA0;have hv0:=hA.at_ 0 _ _ rfl rfl;cases hv0 with
 |func ha hb' hva hvb=>
 rename_i A B;have hA2:A= #[]:=by simpa using ha
 obtain⟨vb,hB⟩:∃vb,B= #[vb]:=by simp at hb';exact Array.size_eq_one_iff.1 hb'
 subst hA2 hB;have hvb0:=hvb 0 _ _ rfl rfl;cases hvb0 with
 |ptr hlb=>
 rename_i cb;obtain⟨o,ho,hr⟩:=hs.obj _ _ hlb;rw[hst]at ho;cases ho;obtain⟨A,T,fr,hr⟩:=hr;have hA0:0<A.size:=by have:=hr.len;simp at this;omega
 have hvm:=hr.at_ 0 _ _ rfl (Array.getElem?_eq_getElem hA0);have hcell:w.cell? ⟨cb,0,none⟩=some A[0]:=by simp only[World.cell?,hr.heap];rw[Array.getElem?_eq_getElem hA0];rfl
 have hcb:cb<w.heap.size:=hs.blk _ _ hlb;generalize A[0]=x at hvm hcell;have hseq:∀n,Hu Fence.wide (n+1) prog 326 #[.pointer (some ⟨cb,0,none⟩)] encStr (fun xs=>xs.Perm ks) ks.length w:=by
  intro n;rcases hd with⟨rows,gr,rfl,hks⟩|⟨rfl,rfl⟩
  ·have hrk:=Vu hks;cases hvm with
   |slNil hgr=>
    have:ks= []:=by
     cases ks with
     |nil=>rfl
     |cons y ys=>cases hrk
    subst this;intro l J W hW hJa hJ hY h0;refine(U2 (n+1) (by omega) hcb hcell l J W hW hJa hJ hY h0).mono ?_
    rintro e W' ⟨h1,xs,rfl,h2⟩;exact⟨h1,[],.refl _,h2⟩
   |sl hsz hI hv hcap hgr=>
    rename_i c o sz cap;have hl:rows.length=ks.length:=by rw[hrk];simp[Cr]
    have hget:∀j (h:j<ks.length),w.cell? ⟨c,o+j,none⟩=some (encStr ks[j]):=by
     intro j hj;have hr1:rows[j]?=some [.str ks[j]]:=by rw[hrk,Cr,List.getElem?_map,List.getElem?_eq_getElem hj];rfl
     have hsz1:sz=1:=by have:=hsz _ (List.mem_of_getElem? hr1);simpa using this.symm
     subst hsz1;obtain⟨u,hu⟩:=hI j _ 0 _ hr1 rfl;have hv1:=hv j _ 0 _ u hr1 rfl hu;rw[C9 hv1]at hu;have:=hs.imm _ _ _ hu;simpa using this
    rw[hl]at hcell;have hc:0<ks.length→c<w.heap.size:=fun hpos=>by
     have:=hget 0 hpos;unfold World.cell? at this;cases hh:w.heap[c]? with
     |none=>simp[hh]at this
     |some _=>exact(Array.getElem?_eq_some_iff.1 hh).1
    intro l J W hW hJa hJ hY h0;refine(Aq4 (n+1) (by omega) (by omega) hcb hc hcell hget l J W hW hJa hJ hY h0).mono ?_
    rintro e W' ⟨h1,xs,rfl,h2⟩;exact⟨h1,_,.refl _,h2⟩
  ·cases hvm;intro l J W hW hJa hJ hY h0;refine(U2 (n+1) (by omega) hcb hcell l J W hW hJa hJ hY h0).mono ?_
   rintro e W' ⟨h1,xs,rfl,h2⟩;exact⟨h1,[],.refl _,h2⟩
 have hfin:=Abv (f:=326) (lb:= #[.pointer (some ⟨cb,0,none⟩)]) (w:=w) (ks:=ks) hlen (hseq 6) (enters_of func326 (by kernel_rfl) rfl)
 refine hfin.mono ?_;rintro e w' ⟨v,rfl,hrow⟩;obtain⟨g',h1,h2,h3,h4⟩:=hrow.graft hs (by intro r hr d hd;obtain⟨x,_,rfl⟩:=List.mem_map.1 hr;simp at hd;subst hd;rfl)
 exact⟨v,g',rfl,h4,h1,h2,h3⟩
theorem Zh(cf:Ah):Ba (I5 cf):=by
 intro args st v st' W h;unfold I5 at h
 repeat' split at h
 all_goals (first|cases h)
 all_goals exact Jh
theorem Aec{β:Nat→Nat→Option Value}(cf:Ah):Ji prog β 162 (Ho cf):=by
 intro args st v st' W h;unfold Ho at h;split at h
 ·rename_i r hr;cases h;exact Aao cf args st v st' W hr
 ·exact Aap cf args st v st' W h
theorem Aat(cf:Ah):Ba (Ho cf):=by
 intro args st v st' W h;unfold Ho at h;split at h
 ·rename_i r hr;cases h;exact Yz cf args st v st' W hr
 ·exact Zh cf args st v st' W h
noncomputable def A13:Array Oper:=match f77.body with
 |some (.seq (.region _ o _) _)=>o
 |_=> #[]
noncomputable def Aa7:Array Oper:=match f77.body with
 |some (.seq _ (.seq (.seq (.region _ o _) _) _))=>o
 |_=> #[]
noncomputable def Bdi:Code:=match f77.body with
 |some (.seq _ (.seq (.seq _ (.cond _ a _)) _))=>a
 |_=> .skip
noncomputable def Ap6:Code:=match f77.body with
 |some (.seq _ (.seq _ a))=>a
 |_=> .skip
theorem A85:f77.body=some (.seq (.region 0 #[opB A13 0] false) (.seq (.seq (.region 1 #[opB Aa7 0,opB Aa7 1] false) (.cond (.tmp 4) Bdi .skip)) Ap6)):=by kernel_rfl
section
variable{C:Eo}{cf:Ah}{N:Nat}{st:St}{e:Env}{hh:Bool}{Pw:Nat→Prop}
theorem Au2(hP:C.P=prog)(hl:e.length=8){gr:Gr}(e0:e.getD 0 .undef= .sl [] gr):Mk C false cf N Pw Ap6 e st (fun y e' st'=>y= .ret∧st'=st∧e'.length=8∧e'.getD 2 .undef= .sl [] .exact):=by
 have hsl:Fs st []=some []:=rfl;have hup:Gn prog false .append #[41,41] [.sl [] .exact,.sl [] gr] st=some (.sl [] .exact,st,[]):=by unfold Gn;dsimp only;rw[Apw];unfold C8;rw[Uk];dsimp only;rw[Zt,Amm];simp[rowsOf,Ab8]
 refine Cs ?_;obtain⟨code,hcode⟩:∃code,code=strip Ap6:=⟨_,rfl⟩;rw[← hcode];simp only[Ap6,f77,strip,Dl,List.map_toArray,MC]at hcode;subst hcode
 repeat (first
  |refine Bp ?_|refine Bh ?_|refine Bi ?_|refine Ch ?_|refine Ce ?_|refine D9 ?_|refine Bq (by decide) ?_|refine Eg rfl rfl ?_|refine Zc (by first|exact hupV|exact hV2|exact hV|(simp;done)) ?_
  |((first|refine Ei rfl rfl rfl rfl ?_|refine Ee rfl rfl ?_|refine Ed rfl rfl ?_|refine Ec ?_);refine⟨_,by simp only[Bj,BB,Af,ev,Am,Ak,Ag,hP,↓reduceIte,Nat.reduceEqDiff,Nat.reduceLT,hl,e0,hsl,Uk,Zt,Aiv];first|done|rfl|exact hup|exact hup2|exact hup3,?_⟩)
  |dsimp only)
 refine⟨rfl,rfl,?_,?_⟩
 ·simp only[Am,List.length_set];exact hl
 ·simp only[BB,Am,↓reduceIte,Nat.reduceLT,hl];rfl
end
def Mx:Bz:=fun _ args st=>match args with
 | [.sl [] _]=>some (.sl [] .exact,st,[])
 |_=>none
def Kg:Bz:=fun cf args st=>match Mx cf args st with
 |some r=>some r
 |none=>Pv cf args st
theorem Acc{C:Eo}(hP:C.P=prog){β:Nat→Nat→Option Value}(cf:Ah)(hX:Ctx C cf β):Ji prog β 77 (Mx cf):=by
 intro args st v st' W h g w A hb hs hA;unfold Mx at h;split at h
 case h_2=>cases h
 rename_i gr;cases h;obtain⟨v0,rfl⟩:=K9 (A:=A) (by simpa using hA.size)
 have hv0:VR g (.sl [] gr) v0:=hA.at_ 0 _ _ rfl rfl;have hsl:∃p cap,v0= .slice p 0 cap:=by
  cases hv0 with
  |slNil=>exact⟨_,_,rfl⟩
  |sl=>exact⟨_,_,rfl⟩
 obtain⟨p,cap,rfl⟩:=hsl;cases p with
 |none=>refine(Tryz.slices_Clone_string_nil 0 cap w).mono ?_;rintro e w' ⟨rfl,rfl⟩;exact⟨_,g,rfl,.slNil (fun t n h=>by cases h),hs,Step.refl _ _ _,Dx.refl _ _⟩
 |some a=>
  refine calls_of_wp func77 A85 ?_;have hntm:f77.ntmps=8:=by kernel_rfl
  rw[hntm];generalize ha0:({tmps:= #[.slice (some a) 0 cap]++Array.replicate (8 - (#[Value.slice (some a) 0 cap]:Array Value).size) undef,defers:= []}:Act)=a0;have hE:F8 g ([D.sl [] gr]++List.replicate 7 .undef) a0.tmps:=by
   rw[← ha0];refine hA.append ⟨by simp,fun j d x hj hx=>?_⟩
   rw[List.getElem?_replicate]at hj;split at hj
   ·cases hj;exact .undef x
   ·cases hj
  have hd0:a0.defers= []:=by rw[← ha0]
  have hev0:a0.eval (.tmp 0)= .slice (some a) 0 cap:=by rw[← ha0];rfl
  clear ha0;have hS:=At.start hs hE;rw[hd0]at hS;have hX0:=Bdu hP hX 0;have hP0:C0.P=prog:=rfl;rw[← hP0];have hsz0:a0.tmps.size=8:=by rw[hE.size];rfl
  refine wp_seq (wp_region ?_);show wpOps _ _ _ [0] _ _;refine Gp (some 2) rfl (by kernel_rfl) (by kernel_rfl) (J7 (x:= .const (.slice none 0 0)) (.inr (by kernel_rfl))) ?_
  have hA1:At g st w [] (Am ([D.sl [] gr]++List.replicate 7 .undef) (some 2) .nilsl) st [] (a0.put (some 2) (.slice none 0 0)) w g:=
   ⟨hS.sim,hS.step,hS.free,G5 hS.env .nilsl,by rw[Act.put_defers'];exact hS.defers,hS.k⟩
  have hev1:(a0.put (some 2) (.slice none 0 0)).eval (.tmp 0)= .slice (some a) 0 cap:=by
   rw[eval_put,if_neg (by simp)]
   exact hev0
  have hev1':a0.eval (.const (.slice none 0 0))= .slice none 0 0:=rfl;rw[hev1'];generalize ha1:a0.put (some 2) (.slice none 0 0)=a1 at hA1 hev1 ⊢;have hsz1:a1.tmps.size=8:=by rw[hA1.env.size];rfl
  clear ha1;show Code.wp _ _ _ _ _;refine wp_seq (wp_seq (wp_region ?_));show wpOps _ _ _ [0,1] _ _;refine Gp (some 3) rfl (by kernel_rfl) (by kernel_rfl) (J7 (x:= .tmp 0) (.inl (by kernel_rfl))) ?_
  rw[hev1];have hA2:At g st w [] (Am _ (some 3) (.sl [] gr)) st [] (a1.put (some 3) (.slice (some a) 0 cap)) w g:=
   ⟨hA1.sim,hA1.step,hA1.free,G5 hA1.env hv0,by rw[Act.put_defers'];exact hA1.defers,hA1.k⟩
  have hev2:(a1.put (some 3) (.slice (some a) 0 cap)).eval (.tmp 3)= .slice (some a) 0 cap:=by rw[eval_put,if_pos ⟨rfl,by rw[hsz1];omega⟩]
  generalize ha2:a1.put (some 3) (.slice (some a) 0 cap)=a2 at hA2 hev2 ⊢;have hsz2:a2.tmps.size=8:=by rw[hA2.env.size];rfl
  clear ha2;have hop:(opB Aa7 1).op= .binOp .eql 41 (.tmp 3) (.const (.slice none 0 0)) 41:=by kernel_rfl
  have hrun:(execOp a2.eval (opB Aa7 1)).run C0.P w= .ok (.value (.bool false)) w:=by unfold execOp;rw[hop];dsimp only;rw[hev2];have:=Lib.run_eql_slice_nil w 41 9 (some a) 0 cap 0 0 (P:=prog) underlying41;have he:a2.eval (.const (.slice none 0 0))= .slice none 0 0:=rfl;rw[he,hP0];simp[eqGuard,this,go_sem]
  refine Gp (some 4) rfl (by kernel_rfl) (by kernel_rfl) hrun ?_
  have hA3:At g st w [] (Am _ (some 4) (.bool false)) st [] (a2.put (some 4) (.bool false)) w g:=
   ⟨hA2.sim,hA2.step,hA2.free,G5 hA2.env (.bool _),by rw[Act.put_defers'];exact hA2.defers,hA2.k⟩
  show Code.wp _ _ _ _ _;refine wp_cond_false (by rw[eval_put,if_pos ⟨rfl,by rw[hsz2];omega⟩]) (wp_skip ?_)
  show Code.wp _ _ _ _ _;refine J6 hX0 hb (G9 _) hA3 (Au2 (N:=0) (Pw:=fun _=>False) hP0 rfl (gr:=gr) rfl) ?_;rintro x e5 st5 W5 a5 w5 g5 hA5 hW5 ⟨rfl,rfl,l5,e2⟩;have hW:W5= []:=Aoy fun id hid=>(hW5 id hid).elim (fun h=>by cases h) (fun h=>h)
  subst hW;have hr4:Gm prog e5 st5 f77.results.toList=some [e5.getD 2 .undef]:=by
   have:f77.results.toList= [.tmp 2]:=by kernel_rfl
   rw[this];rfl
  obtain⟨B,h1,h2⟩:=Oi (P:=prog) hA5.sim hA5.env hr4;have h3:=Ac9 h2;rw[e2]at h3;exact⟨hA5.defers,_,h1,_,g5,rfl,h3,hA5.sim,hA5.step,hA5.free⟩
theorem Ab4{C:Eo}(hP:C.P=prog){β:Nat→Nat→Option Value}(cf:Ah)(hX:Ctx C cf β):Ji prog β 77 (Kg cf):=by
 intro args st v st' W h;unfold Kg at h;split at h
 ·rename_i r hr;cases h;exact Acc hP cf hX args st v st' W hr
 ·exact Ae9 cf args st v st' W h
theorem Aal(cf:Ah):Ba (Kg cf):=by
 intro args st v st' W h;unfold Kg at h;split at h
 ·rename_i r hr;cases h;unfold Mx at hr;split at hr
  ·cases hr;exact⟨Nat.le_refl _,fun _ _ _=>rfl⟩
  ·cases hr
 ·exact Acj cf args st v st' W h
end Go.Vam
set_option maxRecDepth 1000000
namespace Go.Vam
open Go.Proofs Go.Proofs.Tryz
noncomputable def Baj:List (Nat × List (Nat × (List Nat × Bool))):= [
 (4,[(9,([0,1,2,3,4,5,7,6,8,9,10,11,12,13,14,15,16,17,19,20,18,21,22,23,24],false))]),(5,[(10,([0,1,2,3,4,5,6,7,8,9,10,11,12,13,14,15,16,17,18,19,22,23,24,20,21,25,26,27,28,29,30,31,32,33,34,35,36,37,38,39,40],true))]),(6,[(5,(List.range 16,true))]),(12,[(5,(List.range 4,false)),(11,(List.range 8,false))]),(13,[(12,([0,1,2,3,5,7,8,9,10,4,6,11,12,13],false)),(15,([0,2,3,1,4,5,6,7],false)),(20,([0,2,1,3,4,5,6],false)),(22,([0,2,1,3,4,5,6],false)),(24,(List.range 7,false)),(26,([0,1,3,2,4,5,6,7],false)),(28,([0,1,2,3,4,8,5,6,7,9,10,11],false))]),(14,[(17,([0,1,2,3,4,7,8,9,5,6,10,11],false)),(20,(List.range 11,false)),(25,(List.range 11,true)),(27,(List.range 11,true)),(29,(List.range 10,true)),(31,([0,1,5,6,7,2,3,4,8,9,10],false)),(33,(List.range 14,true))]),(18,[(6,(List.range 12,true))]),(19,[(3,(List.range 3,true))]),(20,[(8,(List.range 9,false)),(9,(List.range 9,false)),(18,([0,1,3,4,2,5,6],false)),(19,(List.range 8,true))]),(23,[(3,(List.range 3,true))]),(27,[(5,(List.range 4,false)),(11,(List.range 8,false))]),(28,[(6,(List.range 12,true))]),(30,[(9,(List.range 8,false))]),(38,[(14,(List.range 10,true))]),(42,[(15,(List.range 19,true))]),(44,[(6,(List.range 5,true))]),(46,[(1,([0,1,3,4,6,7,9,10,2,12,5,8,11,13,14,15,16,17,18,19],false)),(5,([0,1,2,3,4,5,6,7,8,9,10,11,13,14,15,16,17,18,12,19,20,21,22,23,24,25],false))]),(47,[(9,(List.range 7,true))]),(49,[(1,(List.range 8,true)),(2,(List.range 17,true)),(6,(List.range 6,false)),(7,(List.range 9,true))]),(51,[(2,([0,1,2,3,4,5,6,7,8,9,10,11,12,14,13,15,16,17,18],false)),(17,([0,1,2,4,5,6,3,7,8,9,10,11,12],false)),(19,([0,1,2,4,5,6,3,7,8,9,10,11,12],false)),(21,(List.range 8,true)),(23,(List.range 6,true)),(25,(List.range 9,true)),(27,(List.range 9,true))]),(53,[(11,(List.range 142,false))]),(54,[(6,([0,1,3,4,5,7,2,6,8],false))]),(58,[(6,(List.range 10,true)),(11,(List.range 10,true))]),(60,[(1,(List.range 14,true)),(5,(List.range 9,true))]),(62,[(8,(List.range 8,false)),(11,(List.range 8,false))]),(64,[(1,(List.range 11,true))]),(69,[(7,(List.range 8,false))]),(75,[(6,(List.range 5,true)),(16,(List.range 4,true)),(28,(List.range 4,true))]),(89,[(1,([0,1,3,4,2,5,6,7],false))]),(98,[(15,(List.range 6,true))]),(102,[(1,(List.range 11,true))]),(105,[(3,(List.range 8,true))]),(107,[(5,([0,1,2,3,4,5,6,7,8,9,10,11,12,13,15,16,17,18,19,14,20,21,22],false))]),(110,[(4,([0,1,2,3,4,5,6,7,8,9,10,11,12,13,15,14,16,17,18,19],false))]),(113,[(17,(List.range 15,true))]),(116,[(27,([0,1,2,3,4,7,8,9,10,5,6,11,12,13,14,15,16,17],true))]),(118,[(5,(List.range 13,true))]),(124,[(13,([0,1,2,3,4,5,6,7,8,9,10,11,12,13,14,15,18,19,20,21,22,23,24,16,17,25,26,27],false))]),(133,[(24,(List.range 6,false))]),(138,[(1,(List.range 10,true))]),(143,[(3,(List.range 8,true))]),(144,[(21,(List.range 7,true))]),(148,[(17,(List.range 6,false))]),(157,[(4,([0,2,3,5,1,4,6,7],false))]),(165,[(4,(List.range 6,false)),(8,(List.range 6,false))]),(167,[(4,(List.range 15,true)),(6,(List.range 18,true))]),(168,[(10,(List.range 20,true))]),(169,[(10,(List.range 20,true))]),(171,[(3,(List.range 16,true))]),(172,[(5,(List.range 16,true)),(11,(List.range 18,true)),(16,(List.range 11,true)),(17,(List.range 18,true)),(22,(List.range 11,true)),(23,(List.range 18,true))]),(174,[(1,(List.range 16,true)),(3,(List.range 15,true)),(5,(List.range 14,true)),(8,(List.range 16,true))]),(175,[(1,(List.range 16,true)),(3,(List.range 14,true)),(5,(List.range 15,true)),(8,(List.range 16,true)),(10,(List.range 16,true)),(13,(List.range 14,true)),(15,(List.range 15,true)),(18,(List.range 16,true)),(21,(List.range 16,true))]),(180,[(5,(List.range 7,false)),(8,(List.range 6,false)),(14,([0,1,2,3,4,5,6,7,8,10,11,9,12,13,14,15],false)),(18,(List.range 7,false))]),(182,[(14,([0,1,3,4,2,5,6,7],true))]),(184,[(22,(List.range 8,false))]),(195,[(18,(List.range 7,false))]),(201,[(1,(List.range 7,false))]),(202,[(1,(List.range 7,false))]),(214,[(4,(List.range 6,true))]),(215,[(3,(List.range 20,true)),(5,(List.range 14,true)),(6,(List.range 24,true))]),(217,[(1,(List.range 10,true)),(2,(List.range 10,true)),(3,(List.range 10,true))]),(233,[(7,(List.range 15,true)),(8,(List.range 15,true)),(9,(List.range 15,true)),(10,(List.range 15,true)),(17,(List.range 15,true)),(18,(List.range 15,true)),(23,(List.range 15,true))]),(242,[(17,(List.range 17,true))]),(248,[(1,(List.range 12,true)),(6,(List.range 11,true)),(18,(List.range 11,true)),(20,(List.range 7,true))]),(258,[(1,(List.range 9,true))]),(259,[(7,(List.range 14,true))]),(273,[(4,(List.range 17,true)),(6,(List.range 18,true))]),(274,[(10,(List.range 20,true))]),(275,[(10,(List.range 20,true))]),(277,[(3,(List.range 16,true))]),(278,[(5,(List.range 18,true)),(11,(List.range 18,true)),(16,(List.range 13,true)),(17,(List.range 18,true)),(22,(List.range 13,true)),(23,(List.range 18,true))]),(279,[(1,(List.range 16,true)),(3,(List.range 17,true)),(5,(List.range 16,true)),(8,(List.range 16,true))]),(280,[(1,(List.range 16,true)),(3,(List.range 16,true)),(5,(List.range 17,true)),(8,(List.range 16,true)),(10,(List.range 16,true)),(13,(List.range 16,true)),(15,(List.range 17,true)),(18,(List.range 16,true)),(21,(List.range 16,true))]),(282,[(5,(List.range 9,true)),(18,(List.range 14,true)),(19,(List.range 13,true))]),(285,[(5,(List.range 3,true)),(11,(List.range 7,true))]),(292,[(1,(List.range 7,false))]),(299,[(3,(List.range 22,true)),(5,(List.range 16,true)),(6,(List.range 24,true))]),(308,[(11,(List.range 8,false))]),(310,[(2,([0,1,2,3,4,5,8,9,12,13,6,7,10,11,14,15,16],false))]),(314,[(1,([0,1,3,4,6,7,2,9,5,8,10,11,12,13,14],false)),(6,([0,1,2,3,4,5,6,7,8,9,10,11,13,14,15,16,17,18,12,19,20,21,22,23,24,25],false))]),(323,[(1,(List.range 11,true))]),(325,[(1,([0,1,2,3,5,6,7,8,9,4,10,11],false))]),(327,[(3,(List.range 13,true))]),(334,[(7,(List.range 8,false))]),(345,[(6,(List.range 9,true))]),(354,[(1,([0,1,3,2,4,5,6],false))]),(355,[(1,([0,1,3,2,4,5,6],false))]),(359,[(0,([0,1,2,3,4,5,6,7,9,10,11,12,13,8,14,15],false))]),(368,[(4,(List.range 17,true)),(6,(List.range 18,true))]),(369,[(5,(List.range 11,true)),(11,(List.range 18,true)),(17,(List.range 12,true)),(23,(List.range 18,true)),(35,(List.range 14,true))]),(377,[(3,(List.range 12,true))]),(382,[(3,(List.range 24,true))])]
noncomputable def F9{α:Type}:List (Nat × α)→Nat→Option α
 | [],_=>none
 |(k,v)::l,n=>if Nat.beq k n then some v else F9 l n
noncomputable def Ah5(f id:Nat):Option (List Nat × Bool):=match F9 Baj f with
 |some l=>F9 l id
 |none=>none
noncomputable def C1:Eo:= {P:=prog,keepNil:= [76],keepArr:= [58,88,160,78,159,166,136,82],hnd:= [25,55,76,98,99,133,148,150,151,152,165,252,259,291,316,335,78,159,166],byRef:= [57,58,88,113,160,165,167,191,242,273,315,349,368,369,379,382],ords:=Ah5}
noncomputable def Q9:List (Nat × Bz):= [(162,Ho),(139,Iy),(304,Qz),(302,Nh),(77,Kg),(181,Ew),(194,K8),(318,Ld),(306,E8),(80,Kj),(134,Qv),(211,Qm)]
noncomputable def Aw5:FuncId→Option Bz:=F9 Q9
noncomputable def Ez(i:Nat):Bool:=match prog.funcs[i]? with
 |some fn=>match fn.body with
  |some c=>Il (Ah5 i) c
  |none=>true
 |none=>true
end Go.Vam
