/-
  The rest of the native calls; this program's machine.
-/
import Derived.Test.YtanifnfklgldpaaGreatDoorVag
import Derived.OwnWalkIn
import Derived.TacticsInMore
import Derived.LoopNIn
import Derived.LoopIn
set_option linter.unusedSimpArgs false
set_option linter.unusedVariables false
set_option maxRecDepth 100000
namespace Go.Vam
open Go.Proofs Go.Proofs.Tryz Go.RowKit
attribute [local go_sem] Oper.semAt_some
theorem Arp{α:Type}{l:List α}{k:Nat}(h:k<l.length):l.take (k+1)=l.take k++ [l[k]]:=by rw[List.take_add_one,List.getElem?_eq_getElem h];rfl
set_option maxHeartbeats 2000000 in
theorem Aq4(n:Nat)(hn:1≤n){w:World}{Bs b off cap:Nat}{zs:List (List UInt8)}(hreach:zs.length<2 ^ 30)(hBs:Bs<w.heap.size)(hb:0<zs.length→b<w.heap.size)(hc0:w.cell? ⟨Bs,0,none⟩=some (.slice (some ⟨b,off,none⟩) zs.length cap))
  (hcs:∀j (h:j<zs.length),w.cell? ⟨b,off+j,none⟩=some (encStr zs[j])):Hu Fence.wide n prog 135 #[.pointer (some ⟨Bs,0,none⟩)] encStr (fun xs=>xs=zs) zs.length w:=by
 intro l J W hW hJa hJ hY h0;have hcW:W.cell? ⟨Bs,0,none⟩=some (.slice (some ⟨b,off,none⟩) zs.length cap):=by rw[← hc0];exact World.cell?_of_block (hW.block Bs hBs)
 refine callsIn_of_wp func135 rfl trivial ?_ rfl;simp only[ntmps135,List.size_toArray,List.length_cons,List.length_nil,Nat.reduceAdd,Nat.reduceSub,Array.replicate_succ,Array.replicate_zero,List.push_toArray,List.append_toArray,List.nil_append,List.cons_append]
 gi_wp2
 gi_loopw [7] (fun i wr=>∃k:Nat,k≤zs.length∧i= .int .i64 k∧J (zs.take k) wr)
  (fun i _=>zs.length - (RowKit.intOf i).toNat)
 case atStart=>exact⟨0,Nat.zero_le _,rfl,h0⟩
 case round=>
  obtain⟨k,hk,rfl,hJs⟩:=hrel;by_cases hlt:k<zs.length
  ·have hcx:wr.cell? ⟨b,off+k,none⟩=some (encStr zs[k]):=by
    rw[← hcs k hlt];exact World.cell?_of_block (hJ _ _ hJs b (hb (by omega)))
   obtain⟨fn,tmps,assign,body,hy,hR⟩:=hY _ zs[k] wr hJs (by rw[List.length_take];omega)
   unfold encStr at hcx hy
   gi_wp2
   refine hR.mono ?_;rintro e W3 ⟨rfl,hJ3,hk3⟩
   gi_wp2
   go_roundw
   case rel=>exact⟨k+1,by omega,by simp,by rw[Arp hlt];exact hJ3⟩
   case measure=>simp[RowKit.intOf];omega
  ·obtain rfl:k=zs.length:=by omega
   gi_wp2
   go_end0
   exact⟨⟨_,rfl⟩,zs,rfl,by rw[List.take_length]at hJs;exact hJs⟩
set_option maxHeartbeats 2000000 in
theorem U2(n:Nat)(hn:1≤n){w:World}{Bs:Nat}{oa:Option Addr}{cap:Nat}(hBs:Bs<w.heap.size)(hc0:w.cell? ⟨Bs,0,none⟩=some (.slice oa 0 cap)):Hu Fence.wide n prog 135 #[.pointer (some ⟨Bs,0,none⟩)] encStr (fun xs=>xs= []) 0 w:=by
 intro l J W hW hJa hJ hY h0;have hcW:W.cell? ⟨Bs,0,none⟩=some (.slice oa 0 cap):=by rw[← hc0];exact World.cell?_of_block (hW.block Bs hBs)
 refine callsIn_of_wp func135 rfl trivial ?_ rfl;simp only[ntmps135,List.size_toArray,List.length_cons,List.length_nil,Nat.reduceAdd,Nat.reduceSub,Array.replicate_succ,Array.replicate_zero,List.push_toArray,List.append_toArray,List.nil_append,List.cons_append]
 gi_wp2
 gi_loopw [7] (fun i wr=>i= .int .i64 0∧J [] wr) (fun _ _=>0)
 case atStart=>exact⟨rfl,h0⟩
 case round=>
  obtain⟨rfl,hJs⟩:=hrel
  gi_wp2
  go_end0
  exact⟨⟨_,rfl⟩,[],rfl,hJs⟩
def Pe(ks:List (List UInt8))(st:St):D × St × Cb:=(Acy 1 st.length ((Cq J5 ks).map fun s=> [.str s]),st++Jq ((Cq J5 ks).map fun s=> [.str s]),[])
def I5:Bz:=fun _ args st=>match args with
 | [.func 135 [] [.ptr b 0]]=>match st[b]? with
  |some (.cells (.sl rows _::_))=>match Q0 rows with
   |some ks=>if ks.length<2 ^ 19 then some (Pe ks st)else none
   |none=>none
  |some (.cells (.nilsl::_))=>some (Pe [] st)
  |_=>none
 |_=>none
def Ho:Bz:=fun cf args st=>match Fb cf args st with
 |some r=>some r
 |none=>I5 cf args st
theorem Aap{β:Nat→Nat→Option Value}(cf:Ah):Ji prog β 91 (I5 cf):=by
 intro args st v st' W h g w A hb hs hA;unfold I5 at h;split at h
 case h_2=>cases h
 rename_i b;have hcase:∃d cs ks,st[b]?=some (.cells (d::cs))∧((∃rows gr,d= .sl rows gr∧Q0 rows=some ks)∨d= .nilsl∧ks= [])∧ks.length<2 ^ 19∧some (Pe ks st)=some (v,st',W):=by
  split at h
  ·rename_i rows gr cs hst;split at h
   ·rename_i ks hks;split at h
    ·rename_i hlt;exact⟨_,_,ks,hst,.inl ⟨rows,gr,rfl,hks⟩,hlt,h⟩
    ·cases h
   ·cases h
  ·rename_i cs hst;exact⟨_,_,[],hst,.inr ⟨rfl,rfl⟩,by decide,h⟩
  ·cases h
 clear h;obtain⟨d,cs,ks,hst,hd,hlen,hres⟩:=hcase;cases hres;obtain⟨v0,hA0⟩:∃v0,A= #[v0]:=by have:=hA.size;simp at this;exact Array.size_eq_one_iff.1 this
 subst hA0;have hv0:=hA.at_ 0 _ _ rfl rfl;cases hv0 with
 |func ha hb' hva hvb=>
 rename_i A B;have hA2:A= #[]:=by simpa using ha
 obtain⟨vb,hB⟩:∃vb,B= #[vb]:=by simp at hb';exact Array.size_eq_one_iff.1 hb'
 subst hA2 hB;have hvb0:=hvb 0 _ _ rfl rfl;cases hvb0 with
 |ptr hlb=>
 rename_i cb;obtain⟨o,ho,hr⟩:=hs.obj _ _ hlb;rw[hst]at ho;cases ho;obtain⟨A,T,fr,hr⟩:=hr;have hA0:0<A.size:=by have:=hr.len;simp at this;omega
 have hvm:=hr.at_ 0 _ _ rfl (Array.getElem?_eq_getElem hA0);have hcell:w.cell? ⟨cb,0,none⟩=some A[0]:=by simp only[World.cell?,hr.heap];rw[Array.getElem?_eq_getElem hA0];rfl
 have hcb:cb<w.heap.size:=hs.blk _ _ hlb;generalize A[0]=x at hvm hcell;have hseq:∀n,Hu Fence.wide (n+1) prog 135 #[.pointer (some ⟨cb,0,none⟩)] encStr (fun xs=>xs.Perm ks) ks.length w:=by
  intro n;rcases hd with⟨rows,gr,rfl,hks⟩|⟨rfl,rfl⟩
  ·have hrk:=Vu hks;cases hvm with
   |slNil hgr=>
    have:ks= []:=by
     cases ks with
     |nil=>rfl
     |cons y ys=>cases hrk
    subst this;intro l J W hW hJa hJ hY h0;refine(U2 (n+1) (by omega) hcb hcell l J W hW hJa hJ hY h0).mono ?_
    rintro e W' ⟨h1,xs,rfl,h2⟩;exact⟨h1,[],.refl _,h2⟩
   |slEmp hgr hcz=>
    have:ks= []:=by
     cases ks with
     |nil=>rfl
     |cons y ys=>cases hrk
    subst this;intro l J W hW hJa hJ hY h0;refine(U2 (n+1) (by omega) hcb hcell l J W hW hJa hJ hY h0).mono ?_
    rintro e W' ⟨h1,xs,rfl,h2⟩;exact⟨h1,[],.refl _,h2⟩
   |sl hsz hI hv hcap hgr=>
    rename_i c o sz cap;have hl:rows.length=ks.length:=by rw[hrk];simp[Cr]
    have hget:∀j (h:j<ks.length),w.cell? ⟨c,o+j,none⟩=some (encStr ks[j]):=by
     intro j hj;have hr1:rows[j]?=some [.str ks[j]]:=by rw[hrk,Cr,List.getElem?_map,List.getElem?_eq_getElem hj];rfl
     have hsz1:sz=1:=by have:=hsz _ (List.mem_of_getElem? hr1);simpa using this.symm
     subst hsz1;obtain⟨u,hu⟩:=hI j _ 0 _ hr1 rfl;have hv1:=hv j _ 0 _ u hr1 rfl hu;rw[C9 hv1]at hu;have:=hs.imm _ _ _ hu;simpa using this
    rw[hl]at hcell;have hc:0<ks.length→c<w.heap.size:=fun hpos=>by
     have:=hget 0 hpos;unfold World.cell? at this;cases hh:w.heap[c]? with
     |none=>simp[hh]at this
     |some _=>exact(Array.getElem?_eq_some_iff.1 hh).1
    intro l J W hW hJa hJ hY h0;refine(Aq4 (n+1) (by omega) (by omega) hcb hc hcell hget l J W hW hJa hJ hY h0).mono ?_
    rintro e W' ⟨h1,xs,rfl,h2⟩;exact⟨h1,_,.refl _,h2⟩
  ·cases hvm;intro l J W hW hJa hJ hY h0;refine(U2 (n+1) (by omega) hcb hcell l J W hW hJa hJ hY h0).mono ?_
   rintro e W' ⟨h1,xs,rfl,h2⟩;exact⟨h1,[],.refl _,h2⟩
 have hfin:=Abv (f:=135) (lb:= #[.pointer (some ⟨cb,0,none⟩)]) (w:=w) (ks:=ks) hlen (hseq 6) (enters_of func135 (by kernel_rfl) rfl)
 refine hfin.mono ?_;rintro e w' ⟨v,rfl,hrow⟩;obtain⟨g',h1,h2,h3,h4⟩:=hrow.graft hs (by intro r hr d hd;obtain⟨x,_,rfl⟩:=List.mem_map.1 hr;simp at hd;subst hd;rfl)
 exact⟨v,g',rfl,h4,h1,h2,h3⟩
theorem Zh(cf:Ah):Ba (I5 cf):=by
 intro args st v st' W h;unfold I5 at h
 repeat' split at h
 all_goals (first|cases h)
 all_goals exact Jh
theorem Aec{β:Nat→Nat→Option Value}(cf:Ah):Ji prog β 91 (Ho cf):=by
 intro args st v st' W h;unfold Ho at h;split at h
 ·rename_i r hr;cases h;exact Aao cf args st v st' W hr
 ·exact Aap cf args st v st' W h
theorem Aat(cf:Ah):Ba (Ho cf):=by
 intro args st v st' W h;unfold Ho at h;split at h
 ·rename_i r hr;cases h;exact Yz cf args st v st' W hr
 ·exact Zh cf args st v st' W h
end Go.Vam
set_option maxRecDepth 1000000
namespace Go.Vam
open Go.Proofs
noncomputable def Baj:List (Nat × List (Nat × (List Nat × Bool))):= [
 (4,[(10,([0,1,2,4,5,6,7,8,9,10,3,11,12,13,14,15,16],false))]),(6,[(18,(List.range 25,false))]),(7,[(11,([0,1,2,3,5,6,7,8,4,9,10],false)),(15,([0,1,2,3,4,5,6,7,8,9,10,12,13,14,15,16,11,17,18,19,20,22,23,24,25,21,26,27],false)),(21,(List.range 22,true))]),(12,[(5,(List.range 8,false)),(6,(List.range 10,true)),(7,(List.range 11,true))]),(14,[(6,(List.range 9,true))]),(16,[(6,(List.range 9,true))]),(22,[(4,(List.range 10,true)),(11,(List.range 6,true)),(12,(List.range 11,true))]),(23,[(1,(List.range 16,true))]),(28,[(4,(List.range 14,false)),(5,(List.range 10,true))]),(31,[(7,(List.range 11,true)),(9,(List.range 9,true))]),(44,[(5,(List.range 8,true))]),(46,[(6,(List.range 5,true))]),(47,[(8,(List.range 9,false)),(9,(List.range 9,false)),(18,([0,1,3,4,2,5,6],false)),(19,(List.range 8,true))]),(48,[(17,(List.range 6,false))]),(54,[(20,(List.range 10,true))]),(59,[(3,(List.range 19,true)),(7,(List.range 24,true))]),(61,[(1,(List.range 16,true))]),(69,[(1,(List.range 12,true))]),(72,[(2,([0,1,2,3,4,5,8,9,12,13,6,7,10,11,14,15,16],false))]),(76,[(6,(List.range 5,true)),(16,(List.range 4,true)),(28,(List.range 4,true))]),(79,[(1,([0,1,3,4,6,7,9,10,2,12,5,8,11,13,14,15,16,17,18,19],false)),(5,([0,1,2,3,4,5,6,7,8,9,10,11,13,14,15,16,17,18,12,19,20,21,22,23,24,25],false))]),(80,[(9,(List.range 7,true))]),(82,[(1,(List.range 8,true)),(2,(List.range 17,true)),(6,(List.range 6,false)),(7,(List.range 9,true))]),(85,[(6,(List.range 10,true)),(11,(List.range 10,true))]),(93,[(18,(List.range 7,false))]),(94,[(5,(List.range 3,true)),(11,(List.range 7,true))]),(97,[(3,(List.range 3,true))]),(106,[(1,([0,1,2,3,5,6,7,8,9,4,10,11],false))]),(107,[(1,([0,1,3,4,6,7,2,9,5,8,10,11,12,13,14],false)),(6,([0,1,2,3,4,5,6,7,8,9,10,11,13,14,15,16,17,18,12,19,20,21,22,23,24,25],false))]),(109,[(1,(List.range 7,false))]),(110,[(5,(List.range 4,false)),(11,(List.range 8,false))]),(111,[(3,(List.range 3,true))]),(113,[(12,([0,1,2,3,5,7,8,9,10,4,6,11,12,13],false)),(15,([0,2,3,1,4,5,6,7],false)),(20,([0,2,1,3,4,5,6],false)),(22,([0,2,1,3,4,5,6],false)),(24,(List.range 7,false)),(26,([0,1,3,2,4,5,6,7],false)),(28,([0,1,2,3,4,8,5,6,7,9,10,11],false))]),(118,[(1,([0,2,4,1,3,5,6],false))]),(119,[(11,(List.range 11,true)),(17,(List.range 17,true))]),(126,[(24,(List.range 6,false))]),(129,[(17,(List.range 15,true))]),(132,[(3,(List.range 8,true))]),(139,[(11,(List.range 8,false))]),(152,[(4,(List.range 17,true)),(6,(List.range 18,true))]),(153,[(5,(List.range 11,true)),(11,(List.range 18,true)),(17,(List.range 12,true)),(23,(List.range 18,true)),(35,(List.range 14,true))]),(158,[(14,(List.range 10,true))]),(159,[(9,(List.range 8,false))]),(161,[(2,([0,1,2,3,4,5,6,7,8,9,10,11,12,14,13,15,16,17,18],false)),(17,([0,1,2,4,5,6,3,7,8,9,10,11,12],false)),(19,([0,1,2,4,5,6,3,7,8,9,10,11,12],false)),(21,(List.range 8,true)),(23,(List.range 6,true)),(25,(List.range 9,true)),(27,(List.range 9,true))]),(163,[(11,(List.range 142,false))]),(168,[(6,([0,1,3,4,5,7,2,6,8],false))]),(171,[(1,(List.range 14,true)),(5,(List.range 9,true))]),(174,[(1,(List.range 7,false))]),(187,[(4,(List.range 15,true)),(6,(List.range 18,true))]),(188,[(10,(List.range 20,true))]),(189,[(10,(List.range 20,true))]),(191,[(3,(List.range 16,true))]),(192,[(5,(List.range 16,true)),(11,(List.range 18,true)),(16,(List.range 11,true)),(17,(List.range 18,true)),(22,(List.range 11,true)),(23,(List.range 18,true))]),(194,[(1,(List.range 16,true)),(3,(List.range 15,true)),(5,(List.range 14,true)),(8,(List.range 16,true))]),(195,[(1,(List.range 16,true)),(3,(List.range 14,true)),(5,(List.range 15,true)),(8,(List.range 16,true)),(10,(List.range 16,true)),(13,(List.range 14,true)),(15,(List.range 15,true)),(18,(List.range 16,true)),(21,(List.range 16,true))]),(202,[(5,(List.range 9,true)),(18,(List.range 14,true)),(19,(List.range 13,true))]),(210,[(7,(List.range 8,false))]),(216,[(3,(List.range 25,true)),(6,(List.range 13,true))]),(224,[(3,(List.range 13,true))]),(227,[(7,(List.range 8,false))]),(239,[(1,([0,1,3,4,2,5,6,7],false))]),(248,[(15,(List.range 6,true))]),(250,[(1,(List.range 11,true))]),(253,[(5,([0,1,2,3,4,5,6,7,8,9,10,11,12,13,15,16,17,18,19,14,20,21,22],false))]),(255,[(4,([0,1,2,3,4,5,6,7,8,9,10,11,12,13,15,14,16,17,18,19],false))]),(268,[(1,(List.range 7,false))]),(278,[(3,(List.range 20,true)),(5,(List.range 14,true)),(6,(List.range 24,true))]),(280,[(1,(List.range 10,true)),(2,(List.range 10,true)),(3,(List.range 10,true))]),(306,[(1,(List.range 22,true))]),(307,[(17,(List.range 9,false)),(29,(List.range 9,false)),(34,([0,1,2,3,4,6,7,8,9,10,11,5,13,12,14,15,16],false))]),(308,[(5,(List.range 8,true))]),(312,[(4,([0,2,3,5,1,4,6,7],false))]),(316,[(4,(List.range 17,true)),(6,(List.range 18,true))]),(317,[(5,(List.range 11,true)),(11,(List.range 18,true)),(17,(List.range 12,true)),(23,(List.range 18,true)),(35,(List.range 14,true))]),(318,[(3,(List.range 24,true))]),(319,[(0,([0,1,2,3,4,5,6,7,9,10,11,12,13,8,14,15],false))]),(320,[(13,([0,1,2,3,4,5,6,7,8,9,10,11,12,13,14,15,18,19,20,21,22,23,24,16,17,25,26,27],false))]),(327,[(1,(List.range 10,true))]),(328,[(3,(List.range 8,true))]),(329,[(21,(List.range 7,true))]),(339,[(4,(List.range 6,false)),(8,(List.range 6,false))]),(341,[(1,(List.range 12,true)),(6,(List.range 11,true)),(18,(List.range 11,true)),(20,(List.range 7,true))]),(347,[(1,(List.range 9,true))]),(352,[(14,([0,1,3,4,2,5,6,7],true))]),(357,[(1,(List.range 22,true))]),(363,[(6,(List.range 9,true))]),(368,[(7,(List.range 15,true)),(8,(List.range 15,true)),(9,(List.range 15,true)),(10,(List.range 15,true)),(17,(List.range 15,true)),(18,(List.range 15,true)),(23,(List.range 15,true))]),(373,[(22,(List.range 8,false))]),(376,[(4,(List.range 6,true))]),(384,[(17,(List.range 17,true))]),(393,[(3,(List.range 24,true))]),(402,[(4,(List.range 17,true)),(6,(List.range 18,true))]),(403,[(10,(List.range 20,true))]),(404,[(10,(List.range 20,true))]),(406,[(3,(List.range 16,true))]),(407,[(5,(List.range 18,true)),(11,(List.range 18,true)),(16,(List.range 13,true)),(17,(List.range 18,true)),(22,(List.range 13,true)),(23,(List.range 18,true))]),(408,[(1,(List.range 16,true)),(3,(List.range 17,true)),(5,(List.range 16,true)),(8,(List.range 16,true))]),(409,[(1,(List.range 16,true)),(3,(List.range 16,true)),(5,(List.range 17,true)),(8,(List.range 16,true)),(10,(List.range 16,true)),(13,(List.range 16,true)),(15,(List.range 17,true)),(18,(List.range 16,true)),(21,(List.range 16,true))]),(411,[(1,([0,1,3,2,4,5,6],false))]),(412,[(1,([0,1,3,2,4,5,6],false))]),(426,[(3,(List.range 22,true)),(5,(List.range 16,true)),(6,(List.range 24,true))]),(435,[(1,(List.range 11,true))]),(438,[(3,(List.range 12,true))])]
noncomputable def F9{α:Type}:List (Nat × α)→Nat→Option α
 | [],_=>none
 |(k,v)::l,n=>if Nat.beq k n then some v else F9 l n
noncomputable def Ah5(f id:Nat):Option (List Nat × Bool):=match F9 Baj f with
 |some l=>F9 l id
 |none=>none
end Go.Vam
set_option maxRecDepth 100000
namespace Go.Vam
open Go.Proofs Go.Proofs.Tryz Go.RowKit
noncomputable def A13:Array Oper:=match f45.body with
 |some (.seq (.region _ o _) _)=>o
 |_=> #[]
noncomputable def Aa7:Array Oper:=match f45.body with
 |some (.seq _ (.seq (.seq (.region _ o _) _) _))=>o
 |_=> #[]
noncomputable def Bdi:Code:=match f45.body with
 |some (.seq _ (.seq (.seq _ (.cond _ a _)) _))=>a
 |_=> .skip
noncomputable def Ap6:Code:=match f45.body with
 |some (.seq _ (.seq _ a))=>a
 |_=> .skip
theorem A85:f45.body=some (.seq (.region 0 #[opB A13 0] false) (.seq (.seq (.region 1 #[opB Aa7 0,opB Aa7 1] false) (.cond (.tmp 4) Bdi .skip)) Ap6)):=by kernel_rfl
section
variable{C:Eo}{cf:Ah}{N:Nat}{st:St}{e:Env}{hh:Bool}{Pw:Nat→Prop}
theorem Au2(hP:C.P=prog)(hl:e.length=8){gr:Gr}(e0:e.getD 0 .undef= .sl [] gr):Mk C false cf N Pw Ap6 e st (fun y e' st'=>y= .ret∧st'=st∧e'.length=8∧e'.getD 2 .undef= .sl [] .exact):=by
 have hsl:Fs st []=some []:=rfl;have hup:Gn prog false .append #[35,35] [.sl [] .exact,.sl [] gr] st=some (.sl [] .exact,st,[]):=by unfold Gn;dsimp only;rw[Apw];unfold C8;rw[Uk];dsimp only;rw[Zt,Amm];simp[rowsOf,Ab8]
 refine Cs ?_;obtain⟨code,hcode⟩:∃code,code=strip Ap6:=⟨_,rfl⟩;rw[← hcode];simp only[Ap6,f45,strip,Dl,List.map_toArray,MC]at hcode;subst hcode
 repeat (first
  |refine Bp ?_|refine Bh ?_|refine Bi ?_|refine Ch ?_|refine Ce ?_|refine D9 ?_|refine Bq (by decide) ?_|refine Eg rfl rfl ?_|refine Zc (by first|exact hupV|exact hV2|exact hV|(simp;done)) ?_
  |((first|refine Ei rfl rfl rfl rfl ?_|refine Ee rfl rfl ?_|refine Ed rfl rfl ?_|refine Ec ?_);refine⟨_,by simp only[Bj,BB,Af,ev,Am,Ak,Ag,hP,↓reduceIte,Nat.reduceEqDiff,Nat.reduceLT,hl,e0,hsl,Uk,Zt,Aiv];first|done|rfl|exact hup|exact hup2|exact hup3,?_⟩)
  |dsimp only)
 refine⟨rfl,rfl,?_,?_⟩
 ·simp only[Am,List.length_set];exact hl
 ·simp only[BB,Am,↓reduceIte,Nat.reduceLT,hl];rfl
end
def Mx:Bz:=fun _ args st=>match args with
 | [.sl [] _]=>some (.sl [] .exact,st,[])
 |_=>none
def Kg:Bz:=fun cf args st=>match Mx cf args st with
 |some r=>some r
 |none=>Pv cf args st
theorem Acc{C:Eo}(hP:C.P=prog){β:Nat→Nat→Option Value}(cf:Ah)(hX:Ctx C cf β):Ji prog β 45 (Mx cf):=by
 intro args st v st' W h g w A hb hs hA;unfold Mx at h;split at h
 case h_2=>cases h
 rename_i gr;cases h;obtain⟨v0,rfl⟩:=K9 (A:=A) (by simpa using hA.size)
 have hv0:VR g (.sl [] gr) v0:=hA.at_ 0 _ _ rfl rfl;have hsl:∃p cap,v0= .slice p 0 cap:=by
  cases hv0 with
  |slNil=>exact⟨_,_,rfl⟩
  |slEmp=>exact⟨_,_,rfl⟩
  |sl=>exact⟨_,_,rfl⟩
 obtain⟨p,cap,rfl⟩:=hsl;cases p with
 |none=>refine(Tryz.slices_Clone_string_nil 0 cap w).mono ?_;rintro e w' ⟨rfl,rfl⟩;exact⟨_,g,rfl,.slNil (fun t n h=>by cases h),hs,Step.refl _ _ _,Dx.refl _ _⟩
 |some a=>
  refine calls_of_wp func45 A85 ?_;have hntm:f45.ntmps=8:=by kernel_rfl
  rw[hntm];generalize ha0:({tmps:= #[.slice (some a) 0 cap]++Array.replicate (8 - (#[Value.slice (some a) 0 cap]:Array Value).size) undef,defers:= []}:Act)=a0;have hE:F8 g ([D.sl [] gr]++List.replicate 7 .undef) a0.tmps:=by
   rw[← ha0];refine hA.append ⟨by simp,fun j d x hj hx=>?_⟩
   rw[List.getElem?_replicate]at hj;split at hj
   ·cases hj;exact .undef x
   ·cases hj
  have hd0:a0.defers= []:=by rw[← ha0]
  have hev0:a0.eval (.tmp 0)= .slice (some a) 0 cap:=by rw[← ha0];rfl
  clear ha0;have hS:=At.start hs hE;rw[hd0]at hS;have hX0:=Bdu hP hX 0;have hP0:C0.P=prog:=rfl;rw[← hP0];have hsz0:a0.tmps.size=8:=by rw[hE.size];rfl
  refine wp_seq (wp_region ?_);show wpOps _ _ _ [0] _ _;refine Gp (some 2) rfl (by kernel_rfl) (by kernel_rfl) (J7 (x:= .const (.slice none 0 0)) (.inr (by kernel_rfl))) ?_
  have hA1:At g st w [] (Am ([D.sl [] gr]++List.replicate 7 .undef) (some 2) .nilsl) st [] (a0.put (some 2) (.slice none 0 0)) w g:=
   ⟨hS.sim,hS.step,hS.free,G5 hS.env .nilsl,by rw[Act.put_defers'];exact hS.defers,hS.k⟩
  have hev1:(a0.put (some 2) (.slice none 0 0)).eval (.tmp 0)= .slice (some a) 0 cap:=by
   rw[eval_put,if_neg (by simp)]
   exact hev0
  have hev1':a0.eval (.const (.slice none 0 0))= .slice none 0 0:=rfl;rw[hev1'];generalize ha1:a0.put (some 2) (.slice none 0 0)=a1 at hA1 hev1 ⊢;have hsz1:a1.tmps.size=8:=by rw[hA1.env.size];rfl
  clear ha1;show Code.wp _ _ _ _ _;refine wp_seq (wp_seq (wp_region ?_));show wpOps _ _ _ [0,1] _ _;refine Gp (some 3) rfl (by kernel_rfl) (by kernel_rfl) (J7 (x:= .tmp 0) (.inl (by kernel_rfl))) ?_
  rw[hev1];have hA2:At g st w [] (Am _ (some 3) (.sl [] gr)) st [] (a1.put (some 3) (.slice (some a) 0 cap)) w g:=
   ⟨hA1.sim,hA1.step,hA1.free,G5 hA1.env hv0,by rw[Act.put_defers'];exact hA1.defers,hA1.k⟩
  have hev2:(a1.put (some 3) (.slice (some a) 0 cap)).eval (.tmp 3)= .slice (some a) 0 cap:=by rw[eval_put,if_pos ⟨rfl,by rw[hsz1];omega⟩]
  generalize ha2:a1.put (some 3) (.slice (some a) 0 cap)=a2 at hA2 hev2 ⊢;have hsz2:a2.tmps.size=8:=by rw[hA2.env.size];rfl
  clear ha2;have hop:(opB Aa7 1).op= .binOp .eql 35 (.tmp 3) (.const (.slice none 0 0)) 35:=by kernel_rfl
  have hrun:(execOp a2.eval (opB Aa7 1)).run C0.P w= .ok (.value (.bool false)) w:=by unfold execOp;rw[hop];dsimp only;rw[hev2];have:=Lib.run_eql_slice_nil w 35 9 (some a) 0 cap 0 0 (P:=prog) underlying35;have he:a2.eval (.const (.slice none 0 0))= .slice none 0 0:=rfl;rw[he,hP0];simp[eqGuard,this,go_sem]
  refine Gp (some 4) rfl (by kernel_rfl) (by kernel_rfl) hrun ?_
  have hA3:At g st w [] (Am _ (some 4) (.bool false)) st [] (a2.put (some 4) (.bool false)) w g:=
   ⟨hA2.sim,hA2.step,hA2.free,G5 hA2.env (.bool _),by rw[Act.put_defers'];exact hA2.defers,hA2.k⟩
  show Code.wp _ _ _ _ _;refine wp_cond_false (by rw[eval_put,if_pos ⟨rfl,by rw[hsz2];omega⟩]) (wp_skip ?_)
  show Code.wp _ _ _ _ _;refine J6 hX0 hb (G9 _) hA3 (Au2 (N:=0) (Pw:=fun _=>False) hP0 rfl (gr:=gr) rfl) ?_;rintro x e5 st5 W5 a5 w5 g5 hA5 hW5 ⟨rfl,rfl,l5,e2⟩;have hW:W5= []:=Aoy fun id hid=>(hW5 id hid).elim (fun h=>by cases h) (fun h=>h)
  subst hW;have hr4:Gm prog e5 st5 f45.results.toList=some [e5.getD 2 .undef]:=by
   have:f45.results.toList= [.tmp 2]:=by kernel_rfl
   rw[this];rfl
  obtain⟨B,h1,h2⟩:=Oi (P:=prog) hA5.sim hA5.env hr4;have h3:=Ac9 h2;rw[e2]at h3;exact⟨hA5.defers,_,h1,_,g5,rfl,h3,hA5.sim,hA5.step,hA5.free⟩
theorem Ab4{C:Eo}(hP:C.P=prog){β:Nat→Nat→Option Value}(cf:Ah)(hX:Ctx C cf β):Ji prog β 45 (Kg cf):=by
 intro args st v st' W h;unfold Kg at h;split at h
 ·rename_i r hr;cases h;exact Acc hP cf hX args st v st' W hr
 ·exact Ae9 cf args st v st' W h
theorem Aal(cf:Ah):Ba (Kg cf):=by
 intro args st v st' W h;unfold Kg at h;split at h
 ·rename_i r hr;cases h;unfold Mx at hr;split at hr
  ·cases hr;exact⟨Nat.le_refl _,fun _ _ _=>rfl⟩
  ·cases hr
 ·exact Acj cf args st v st' W h
end Go.Vam
namespace Go.Proofs
open Go.Lib Go.Proofs.Tryz Go.RowKit Go.Shelf Go.Sort Go.Vam
set_option maxHeartbeats 1000000 in
theorem Tryz.growR_zero(w:World):Calls prog 262 #[.slice none 0 0,.int .i64 0] w fun e w'=>e= .returned (.slice none 0 0)∧w'=w:=by
 go_enter func262,ntmps262
 go_wp2
 go_ret
 exact⟨rfl,rfl⟩
set_option maxHeartbeats 4000000 in
set_option maxRecDepth 100000 in
theorem Tryz.growR(i0:TypeInfo)(z:Value)(hi0:prog.info? 40=some i0)(hz0:i0.zero=some z)(hs0:0<i0.size)(n:Nat)(w:World)(h1n:0<n)(hbig:n*i0.bytes≤140737488355328)(h63:n≤4611686018427387904):
  Calls prog 262 #[.slice none 0 0,.int .i64 n] w fun e w'=>
   e= .returned (.slice (some ⟨w.heap.size,0,none⟩) 0 (grownCap w n 0 40))∧
   w'=w.drew.alloc (.cells (Builtin.zeroCells z.cells n++Builtin.zeroCells z.cells (grownCap w n 0 40 - n)) 40):=by
 have h1:¬ ((n:Int)<0):=by omega
 have h3:wrap64 (n:Int)=(n:Int):=by unfold wrap64;omega
 have h4:(n:Int)>0:=by omega
 have hold:(Builtin.firstCells i0.size 0 (.slice none 0 0)).run prog w.drew= .ok (#[]:Array Value) w.drew:=run_firstCells_none w.drew i0.size 0 0 0;have hrz:∀ty,(Builtin.append_ #[44,3] ty #[.slice none 0 0,.int .i64 (n:Int)]).run prog w=
   .ok (.slice (some ⟨w.heap.size,0,none⟩) n (grownCap w n 0 40)) (w.drew.alloc (.cells (Builtin.zeroCells z.cells n++Builtin.zeroCells z.cells (grownCap w n 0 40 - n)) 40)):=fun ty=>by
  have h:=Lib.run_append_grow_zeros (P:=prog) w 44 3 ty 40 i0 z .i64 .i64 underlying44 underlying3 hi0 hz0 none 0 0 [] hold n (by omega) hs0 (by omega) (by omega) (by omega) (by rw[Nat.zero_add];exact growslice_fits h1n hbig)
  simpa using h
 have hGn:n≤grownCap w n 0 40:=grownCap_ge w _ _ _;obtain⟨G,hG⟩:∃G,G=grownCap w n 0 40:=⟨_,rfl⟩;rw[← hG]at hrz hGn ⊢;have hG63:G≤9223372036854775807:=by
  have:=grownCap_le_maxLen w n 0 40 (by unfold maxLen;omega)
  rw[← hG]at this;unfold maxLen at this;omega
 clear hold hG
 go_enter func262,ntmps262
 go_wp2_with (at_builtin;refine Lib.wpList_append_run _ rfl _ _ _ _ rfl _ _ rfl rfl _ _ (hrz _) ?_)
 all_goals (go_ret;exact⟨rfl,rfl⟩)
theorem Tryz.growR_own(n:Nat)(hn:n<2 ^ 36)(w:World):Calls prog 262 #[.slice none 0 0,.int .i64 n] w fun e w'=>∃v,e= .returned v∧w'.ownsRow w.heap.size 40 5 v 0 []∧Below w.heap.size w w':=by
 by_cases h0:n=0
 ·subst h0;refine(Tryz.growR_zero w).mono ?_;rintro e w' ⟨rfl,rfl⟩;exact⟨_,rfl,⟨rfl,.inl ⟨rfl,rfl⟩⟩,Below.refl _ _⟩
 ·have hi:((prog.info? 40).bind fun i=>i.zero.map fun z=>(i.size,z.cells.size,i.bytes))=some (5,5,112):=by kernel_rfl
  obtain⟨i,h1,hi⟩:=Option.bind_eq_some_iff.1 hi;obtain⟨z,h2,hi⟩:=Option.map_eq_some_iff.1 hi;simp only[Prod.mk.injEq]at hi;obtain⟨hi1,hi2,hi3⟩:=hi;refine(Tryz.growR i z h1 h2 (by omega) n w (by omega) (by rw[hi3];omega) (by omega)).mono ?_
  rintro e w' ⟨rfl,rfl⟩;have hge:=grownCap_ge w n 0 40;refine⟨_,rfl,⟨rfl,.inr ⟨w.heap.size,grownCap w n 0 40,_,rfl,Nat.le_refl _,World.alloc_heap_new w.drew _,Nat.zero_le _,grownCap_le_maxLen w n 0 40 (by unfold maxLen;omega),?_,rfl⟩⟩,?_⟩
  ·rw[Array.size_append,size_zeroCells,size_zeroCells,hi2,← Nat.add_mul];have:n+(grownCap w n 0 40 - n)=grownCap w n 0 40:=by omega
   rw[this]
  ·exact⟨rfl,rfl,rfl,by
    show w.heap.size≤(w.heap.push (Obj.cells (Builtin.zeroCells z.cells n++Builtin.zeroCells z.cells (grownCap w n 0 40 - n)) 40)).size;rw[Array.size_push];omega,fun k hk=>by
    show(w.heap.push (Obj.cells (Builtin.zeroCells z.cells n++Builtin.zeroCells z.cells (grownCap w n 0 40 - n)) 40))[k]?=_;rw[Array.getElem?_push,if_neg (by omega)]⟩
theorem Lt{sz:Nat}{α:Type}:∀{xs:List (List α)},(∀r∈xs,r.length=sz)→xs.flatten.length=xs.length*sz
 | [],_=>by simp
 |r::xs,h=>by
  rw[List.flatten_cons,List.length_append,h r (by simp),Lt fun r hr=>h r (by simp[hr]),List.length_cons,Nat.add_mul]
  omega
set_option maxHeartbeats 4000000 in
set_option maxRecDepth 100000 in
theorem Tryz.concatR(c o cap:Nat)(xss:List (List (List Value)))(w:World)(hc:c<w.heap.size)(hn:xss.flatten.length<2 ^ 36)(hk:xss.length<2 ^ 36)(hsz:∀xs∈xss,∀r∈xs,r.length=5)(hone:∀xs∈xss,∀r∈xs,∀u∈r,u.oneCell'=true)
  (hrow:∀i xs,xss[i]?=some xs→∃q m,w.cell? ⟨c,o+i,none⟩=some (.slice q xs.length m)∧((xs= []∧q=none∧m=0)∨∃a:Addr,q=some a∧∀j v,xs.flatten[j]?=some v→a.block<w.heap.size∧w.cell? (a.add j)=some v)):
  Calls prog 180 #[.slice (some ⟨c,o,none⟩) xss.length cap] w fun e w'=>∃v,e= .returned v∧w'.ownsRow w.heap.size 40 5 v xss.flatten.length xss.flatten.flatten∧Below w.heap.size w w':=by
 have hinf:((prog.info? 40).bind fun i=>i.zero.map fun z=>(i.size,z.cells.size,i.bytes))=some (5,5,112):=by kernel_rfl
 obtain⟨i0,hi,hinf⟩:=Option.bind_eq_some_iff.1 hinf;obtain⟨z,hz,hinf⟩:=Option.map_eq_some_iff.1 hinf;simp only[Prod.mk.injEq]at hinf;obtain⟨hs2,hz2,hb2⟩:=hinf
 go_enter func180,ntmps180
 go_wp2
 go_loopw [3,11] (fun s i wr=>wr=w∧∃k:Nat,i= .int .i64 k∧k≤xss.length∧s= .int .i64 ((xss.take k).flatten.length:Nat)) (fun s i wr=>xss.length - (intOf i).toNat)
 case atStart=>exact⟨rfl,0,rfl,Nat.zero_le _,rfl⟩
 case round=>
  obtain⟨rfl,k,rfl,hk,rfl⟩:=hrel;by_cases hlt:k<xss.length
  ·obtain⟨xs,hxs⟩:∃xs,xss[k]?=some xs:=⟨_,List.getElem?_eq_getElem hlt⟩;obtain⟨q,m,hcl,hrest⟩:=hrow k xs hxs;have hl:(k:Int)<xss.length:=by omega
   have htk:(xss.take (k+1)).flatten.length=(xss.take k).flatten.length+xs.length:=by rw[List.take_add_one,hxs];simp
   have hle:∀k,(xss.take k).flatten.length≤xss.flatten.length:=fun k=>by
    have:xss.flatten=(xss.take k).flatten++(xss.drop k).flatten:=by rw[← List.flatten_append,List.take_append_drop]
    rw[this];simp
   have hle1:=hle (k+1);rw[htk]at hle1;clear hsz hone;generalize hA:(xss.take k).flatten.length=sA at*;have hneg:¬ ((sA:Int)+(xs.length:Int)<0):=by omega
   go_wp2
   go_roundw
   case rel=>exact⟨by first|rfl|trivial,k+1,by go_num,by omega,by rw[htk];go_num⟩
   case measure=>simp[intOf];omega
  ·have hke:k=xss.length:=by omega
   subst hke;rw[List.take_length];generalize hT:xss.flatten.length=T at*;have hgr:=Tryz.growR_own T (by omega) wr
   go_wp2_with (go_at_call 262;refine hgr.mono ?_)
   rintro e w1 ⟨v,rfl,hown,hb1⟩
   go_wp2
   have hbs:=hb1.size
   go_loopw [6,27] (fun v i w2=>∃k:Nat,i= .int .i64 k∧k≤xss.length∧w2.ownsRow wr.heap.size 40 5 v (xss.take k).flatten.length (xss.take k).flatten.flatten∧Below wr.heap.size wr w2) (fun v i w2=>xss.length - (intOf i).toNat)
   case atStart=>exact⟨0,rfl,Nat.zero_le _,hown,hb1⟩
   case round=>
    obtain⟨k,rfl,hk,hown2,hbw⟩:=hrel;have hbz:=hbw.size;by_cases hlt2:k<xss.length
    ·obtain⟨xs,hxs⟩:∃xs,xss[k]?=some xs:=⟨_,List.getElem?_eq_getElem hlt2⟩;obtain⟨q,m,hcl0,hrest⟩:=hrow k xs hxs;have hcl:wr.cell? ⟨c,o+k,none⟩=some (.slice q xs.length m):=by rw[← hcl0];exact World.cell?_of_block (hbw.block c hc)
     have hl:(k:Int)<xss.length:=by omega
     have htk:(xss.take (k+1)).flatten.length=(xss.take k).flatten.length+xs.length:=by rw[List.take_add_one,hxs];simp
     have htm:(xss.take (k+1)).flatten.flatten=(xss.take k).flatten.flatten++xs.flatten:=by rw[List.take_add_one,hxs];simp
     have hle1:(xss.take k).flatten.length+xs.length≤xss.flatten.length:=by
      have h9:xss.flatten=(xss.take (k+1)).flatten++(xss.drop (k+1)).flatten:=by rw[← List.flatten_append,List.take_append_drop]
      rw[h9,List.length_append,htk];omega
     rw[hT]at hle1;have hxl:xs.flatten.length=xs.length*5:=Lt (hsz xs (List.mem_of_getElem? hxs));have hxo:∀u∈xs.flatten,u.oneCell'=true:=fun u hu=>by obtain⟨r,hr,hur⟩:=List.mem_flatten.1 hu;exact hone xs (List.mem_of_getElem? hxs) r hr u hur
     clear hsz hone;rcases hrest with⟨rfl,rfl,rfl⟩|⟨a',rfl,hcell⟩
     ·generalize(xss.take k).flatten.length=sk at hown2 htk hle1;generalize(xss.take k).flatten.flatten=ck at hown2 htm
      go_wp2_with (at_builtin;refine wpList_append_own_none rfl _ _ 44 rfl _ 40 i0 5 underlying44 hi _ _ _ rfl hown2 rfl ?_)
      go_wp2
      go_roundw
      case rel=>exact⟨k+1,by go_num,by omega,by rw[htk,htm];simpa using hown2,hbw⟩
      case measure=>simp[intOf];omega
     ·have hcw:∀j v,xs.flatten[j]?=some v→wr.cell? (a'.add j)=some v:=fun j v hv=>by
       rw[← (hcell j v hv).2];exact World.cell?_of_block (hbw.block (a'.add j).block (by rw[add_block'];exact(hcell j v hv).1))
      generalize(xss.take k).flatten.length=sk at hown2 htk hle1;generalize(xss.take k).flatten.flatten=ck at hown2 htm
      go_wp2_with (at_builtin;refine wpList_append_own _ rfl _ _ 44 rfl _ 40 i0 z 5 112 underlying44 hi hz hs2 hb2 hz2 (by decide) _ _ _ rfl hown2 a' xs.length m xs.flatten rfl ?c1 ?c2 ?c3 ?c4 ?c5 ?c6 ?_)
      case c1=>exact hxl
      case c2=>exact fun j u hj=>hcw j u hj
      case c3=>exact hxo
      case c4=>unfold maxLen;omega
      case c5=>omega
      case c6=>exact hbz
      intro v' w' ho hg _
      go_wp2
      go_roundw
      case rel=>exact⟨k+1,by go_num,by omega,by rw[htk,htm];exact ho,hbw.trans ⟨hg.os,hg.tape,hg.output,hg.size,fun q hq=>hg.block q (by omega) (fun e=>by
       obtain⟨_,ho2⟩:=hown2;rcases ho2 with⟨h,_⟩|⟨gg,_,_,h,hge,_⟩
       ·rw[h]at e;cases e
       ·rw[h]at e;simp[Value.ownBlock]at e;omega)⟩⟩
      case measure=>simp[intOf];omega
    ·have hke:k=xss.length:=by omega
     subst hke;rw[List.take_length]at hown2
     go_wp2
     go_ret
     exact⟨u6,rfl,hown2,hbw⟩
end Go.Proofs
namespace Go.Vam
open Go.Proofs Go.Proofs.Tryz Go.RowKit
def B5e(st:St)(sz:Nat)(d:D):Option (List (List D)):=match d with
 | .str _=>none
 |d=>match rowsOf st d with
  |some rows=>if rows.all (fun r=>r.length == sz && r.all Al)then some rows else none
  |none=>none
def B1y(st:St)(sz:Nat):List (List D)→Option (List (List (List D)))
 | []=>some []
 | [x]::rows=>match B5e st sz x,B1y st sz rows with
  |some l,some ls=>some (l::ls)
  |_,_=>none
 |_=>none
def B3d:Bz:=fun _ args st=>match args with
 | [.sl rows gr]=>match B1y st 5 rows with
  |some xss=>if xss.length<2 ^ 36∧xss.flatten.length<2 ^ 36 then
    (match xss.flatten with
     | []=>none
     |xs=>some (.arr 5 st.length 0 xs.length xs.length,st++ [.cells xs.flatten],[]))else none
  |none=>none
 |_=>none
theorem Sm(cf:Ah):Ba (B3d cf):=by
 intro args st v st' W h;unfold B3d at h
 repeat' split at h
 all_goals (first|cases h)
 all_goals exact Jh
theorem V3{st:St}{sz:Nat}:∀{rows:List (List D)} {xss:List (List (List D))},B1y st sz rows=some xss→rows.length=xss.length∧∀(i:Nat) (xs:List (List D)),xss[i]?=some xs→∃x,rows.flatten[i]?=some x∧B5e st sz x=some xs
 | [],xss,h=>by cases h;simp
 |r::rows,xss,h=>by
  unfold B1y at h;split at h
  ·rename_i heq;cases heq
  ·rename_i x rows' heq;cases heq;split at h
   ·rename_i l ls h1 h2;cases h;obtain⟨h3,h4⟩:=V3 h2;refine⟨by simp[h3],fun i xs hi=>?_⟩
    match i with
    |0=>simp at hi;subst hi;exact⟨x,by simp,h1⟩
    |i+1=>
     obtain⟨y,h5,h6⟩:=h4 i xs (by simpa using hi)
     exact⟨y,by simpa using h5,h6⟩
   ·cases h
  ·cases h
theorem Ceg{g:G}{d:D}{u:Value}(h:VR g d u)(hd:Al d=true):u.oneCell'=true:=by cases h<;>first|rfl|simp[Al]at hd
theorem Cfy{g:G}{w:World}:∀(rows:List (List D)) (c o:Nat),Reads g w c o rows.flatten→∃us:List (List Value),us.length=rows.length∧(∀(i:Nat) (r:List D) (u:List Value),rows[i]?=some r→us[i]?=some u→u.length=r.length)∧(∀(j:Nat) (v:Value),us.flatten[j]?=some v→w.cell? ⟨c,o+j,none⟩=some v)∧∀(j:Nat) (d:D) (v:Value),rows.flatten[j]?=some d→us.flatten[j]?=some v→VR g d v:=by
 have one:∀(ds:List D) (c o:Nat),Reads g w c o ds→∃us:List Value,us.length=ds.length∧(∀(j:Nat) (v:Value),us[j]?=some v→w.cell? ⟨c,o+j,none⟩=some v)∧∀(j:Nat) (d:D) (v:Value),ds[j]?=some d→us[j]?=some v→VR g d v:=by
  intro ds;induction ds with
  |nil=>exact fun c o _=>⟨[],rfl,fun j v h=>by simp at h,fun j d v h=>by simp at h⟩
  |cons d ds ih=>
   intro c o hr;obtain⟨v,h1,h2⟩:=hr.at_ 0 d rfl;obtain⟨us,h3,h4,h5⟩:=ih c (o+1) ⟨fun j e hj=>by
    obtain⟨u,h6,h7⟩:=hr.at_ (j+1) e (by simpa using hj)
    exact⟨u,by rw[← h6];congr 2;omega,h7⟩⟩
   refine⟨v::us,by simp[h3],fun j u hj=>?_,fun j e u hj hu=>?_⟩
   ·match j with
    |0=>simp at hj;subst hj;exact h1
    |j+1=>have:=h4 j u (by simpa using hj);rw[← this];congr 2;omega
   ·match j with
    |0=>simp at hj hu;subst hj;subst hu;exact h2
    |j+1=>exact h5 j e u (by simpa using hj) (by simpa using hu)
 intro rows;induction rows with
 |nil=>exact fun c o _=>⟨[],rfl,fun i r u h=>by simp at h,fun j v h=>by simp at h,fun j d v h=>by simp at h⟩
 |cons r rows ih=>
  intro c o hr;obtain⟨u,h1,h2,h3⟩:=one r c o ⟨fun j d hj=>hr.at_ j d (by rw[List.flatten_cons,List.getElem?_append_left (List.getElem?_eq_some_iff.1 hj).1];exact hj)⟩
  obtain⟨us,h4,h5,h6,h7⟩:=ih c (o+r.length) ⟨fun j d hj=>by
   obtain⟨v,h8,h9⟩:=hr.at_ (r.length+j) d (by rw[List.flatten_cons,List.getElem?_append_right (by omega),Nat.add_sub_cancel_left];exact hj)
   exact⟨v,by rw[← h8];congr 2;omega,h9⟩⟩
  refine⟨u::us,by simp[h4],fun i r' u' hi hu=>?_,fun j v hj=>?_,fun j d v hd hv=>?_⟩
  ·match i with
   |0=>simp at hi hu;subst hi;subst hu;exact h1
   |i+1=>exact h5 i r' u' (by simpa using hi) (by simpa using hu)
  ·rw[List.flatten_cons]at hj;by_cases hlt:j<u.length
   ·rw[List.getElem?_append_left hlt]at hj;exact h2 j v hj
   ·rw[List.getElem?_append_right (by omega)]at hj
    have:=h6 _ v hj;rw[← this];congr 2;omega
  ·rw[List.flatten_cons]at hd hv;by_cases hlt:j<u.length
   ·rw[List.getElem?_append_left hlt]at hv;rw[List.getElem?_append_left (by omega)]at hd
    exact h3 j d v hd hv
   ·rw[List.getElem?_append_right (by omega)]at hv hd
    rw[← h1]at hd;exact h7 _ d v hd hv
theorem Bmk{α:Type}:∀(n:Nat) (P:Nat→α→Prop),(∀i,i<n→∃a,P i a)→∃l:List α,l.length=n∧∀(i:Nat) (a:α),l[i]?=some a→P i a
 |0,P,_=>⟨[],rfl,fun i a h=>by simp at h⟩
 |n+1,P,h=>by
  obtain⟨l,h1,h2⟩:=Bmk n P fun i hi=>h i (by omega)
  obtain⟨a,ha⟩:=h n (by omega)
  refine⟨l++ [a],by simp[h1],fun i b hb=>?_⟩
  by_cases hi:i<l.length
  ·rw[List.getElem?_append_left hi]at hb;exact h2 i b hb
  ·rw[List.getElem?_append_right (by omega)]at hb
   have:i - l.length=0:=by
    cases hk:i - l.length with
    |zero=>rfl
    |succ k=>rw[hk]at hb;simp at hb
   rw[this]at hb;simp at hb;subst hb
   rwa [show i=n from by omega]
theorem Wd{β:Nat→Nat→Option Value}(cf:Ah):Ji prog β 180 (B3d cf):=by
 intro args st v st' W h g w A hb hs hA;unfold B3d at h;split at h
 case h_2=>cases h
 rename_i rows gr;split at h
 case h_2=>cases h
 rename_i xss hxss;split at h
 case isFalse=>cases h
 rename_i hlen;split at h
 ·cases h
 rename_i xs hne;cases h;obtain⟨v0,rfl⟩:=K9 (A:=A) (by simpa using hA.size)
 have hv0:VR g (.sl rows gr) v0:=hA.at_ 0 _ _ rfl rfl;obtain⟨hl,hspec⟩:=V3 hxss;obtain⟨p,cap,rfl,hp⟩:=Zu hs hv0 rfl (fun s h=>by cases h)
 have hne2:xss.flatten≠ []:=fun h=>hne h;rcases hp with⟨rfl,_⟩|⟨c,o,rfl,hrd⟩
 ·have:xss= []:=List.eq_nil_of_length_eq_zero hl.symm;subst this;exact absurd rfl hne2
 have hlt:∀(c o:Nat) (u:Value),w.cell? ⟨c,o,none⟩=some u→c<w.heap.size:=fun c o u h=>by
  unfold World.cell? at h;cases hh:w.heap[c]? with
  |none=>simp[hh]at h
  |some _=>exact(Array.getElem?_eq_some_iff.1 hh).1
 have hval:∀(i:Nat) (xs:List (List D)),xss[i]?=some xs→∃us:List (List Value),us.length=xs.length∧(∀r∈us,r.length=5∧∀u∈r,u.oneCell'=true)∧(∀(j:Nat) (d:D) (v:Value),xs.flatten[j]?=some d→us.flatten[j]?=some v→VR g d v)∧∃q m,w.cell? ⟨c,o+i,none⟩=some (.slice q us.length m)∧((us= []∧q=none∧m=0)∨∃a:Addr,q=some a∧∀(j:Nat) (v:Value),us.flatten[j]?=some v→a.block<w.heap.size∧w.cell? (a.add j)=some v):=by
  intro i xs hi;obtain⟨x,h1,h2⟩:=hspec i xs hi;obtain⟨u,h3,h4⟩:=hrd.at_ i x h1;unfold B5e at h2;split at h2
  ·cases h2
  rename_i d' hns;split at h2
  case h_2=>cases h2
  rename_i rws hrw;split at h2
  case isFalse=>cases h2
  rename_i hall;cases h2;have hall':∀r∈xs,r.length=5∧∀d∈r,Al d=true:=fun r hr=>by have:=List.all_eq_true.1 hall r hr;simp only[Bool.and_eq_true,beq_iff_eq,List.all_eq_true]at this;exact this
  obtain⟨q,m,rfl,h5⟩:=Zu hs h4 hrw (fun s hd=>hns s hd);rcases h5 with⟨h6,h7⟩|⟨c',o',h6,h7⟩
  ·subst h6;cases q with
   |none=>exact⟨[],rfl,(fun r hr=>by cases hr),(fun j d v h=>by simp at h),none,m,h3,.inl ⟨rfl,rfl,h7 rfl⟩⟩
   |some a=>exact⟨[],rfl,(fun r hr=>by cases hr),(fun j d v h=>by simp at h),some a,m,h3,.inr ⟨a,rfl,fun j v hj=>by simp at hj⟩⟩
  ·obtain⟨us,k1,k2,k3,k4⟩:=Cfy xs c' o' h7;have hul:us.flatten.length=xs.flatten.length:=by
    rw[Lt (sz:=5) (fun r hr=>(hall' r hr).1),Lt (sz:=5) (fun r hr=>by
     obtain⟨i,hi,rfl⟩:=List.mem_iff_getElem.1 hr;obtain⟨d,hd⟩:∃d,xs[i]?=some d:=⟨_,List.getElem?_eq_getElem (by omega)⟩
     rw[k2 i d _ hd (List.getElem?_eq_getElem hi)];exact(hall' d (List.mem_of_getElem? hd)).1),k1]
   refine⟨us,k1,fun r hr=>?_,k4,q,m,by rw[k1];exact h3,.inr ⟨⟨c',o',none⟩,h6,fun j v hj=>⟨hlt _ _ _ (k3 j v hj),by rw[Ga];exact k3 j v hj⟩⟩⟩
   obtain⟨i,hi,rfl⟩:=List.mem_iff_getElem.1 hr;obtain⟨d,hd⟩:∃d,xs[i]?=some d:=⟨_,List.getElem?_eq_getElem (by omega)⟩
   have hdl:=k2 i d _ hd (List.getElem?_eq_getElem hi);refine⟨by rw[hdl];exact(hall' d (List.mem_of_getElem? hd)).1,fun u hu=>?_⟩
   have hu2:u∈us.flatten:=List.mem_flatten.2 ⟨_,hr,hu⟩;obtain⟨j,hj,rfl⟩:=List.mem_iff_getElem.1 hu2;obtain⟨e,he⟩:∃e,xs.flatten[j]?=some e:=⟨_,List.getElem?_eq_getElem (by omega)⟩
   obtain⟨r',hr',her⟩:=List.mem_flatten.1 (List.mem_of_getElem? he);exact Ceg (k4 j e _ he (List.getElem?_eq_getElem hj)) ((hall' r' hr').2 e her)
 have hall:∃uss:List (List (List Value)),uss.length=xss.length∧∀(i:Nat) (xs:List (List D)) (us:List (List Value)),xss[i]?=some xs→uss[i]?=some us→us.length=xs.length∧(∀r∈us,r.length=5∧∀u∈r,u.oneCell'=true)∧(∀(j:Nat) (d:D) (v:Value),xs.flatten[j]?=some d→us.flatten[j]?=some v→VR g d v)∧∃q m,w.cell? ⟨c,o+i,none⟩=some (.slice q us.length m)∧((us= []∧q=none∧m=0)∨∃a:Addr,q=some a∧∀(j:Nat) (v:Value),us.flatten[j]?=some v→a.block<w.heap.size∧w.cell? (a.add j)=some v):=by
  obtain⟨uss,h1,h2⟩:=Bmk xss.length (fun i us=>∀xs,xss[i]?=some xs→us.length=xs.length∧(∀r∈us,r.length=5∧∀u∈r,u.oneCell'=true)∧(∀(j:Nat) (d:D) (v:Value),xs.flatten[j]?=some d→us.flatten[j]?=some v→VR g d v)∧∃q m,w.cell? ⟨c,o+i,none⟩=some (.slice q us.length m)∧((us= []∧q=none∧m=0)∨∃a:Addr,q=some a∧∀(j:Nat) (v:Value),us.flatten[j]?=some v→a.block<w.heap.size∧w.cell? (a.add j)=some v)) fun i hi=>by obtain⟨us,hus⟩:=hval i xss[i] (List.getElem?_eq_getElem hi);refine⟨us,fun xs hx=>?_⟩;rw[List.getElem?_eq_getElem hi]at hx;cases hx;exact hus
  exact⟨uss,h1,fun i xs us hi hu=>h2 i us hu xs hi⟩
 obtain⟨uss,hul,huss⟩:=hall;have hat:∀(i:Nat) (us:List (List Value)),uss[i]?=some us→∃xs,xss[i]?=some xs:=fun i us hi=>⟨_,List.getElem?_eq_getElem (by have:=(List.getElem?_eq_some_iff.1 hi).1;omega)⟩
 have hszs:∀us∈uss,∀r∈us,r.length=5∧∀u∈r,u.oneCell'=true:=fun us hus=>by obtain⟨i,hi,rfl⟩:=List.mem_iff_getElem.1 hus;obtain⟨xs,hx⟩:=hat i _ (List.getElem?_eq_getElem hi);exact(huss i xs _ hx (List.getElem?_eq_getElem hi)).2.1
 have hflat:∀(xss:List (List (List D))) (uss:List (List (List Value))),uss.length=xss.length→(∀(i:Nat) (xs:List (List D)) (us:List (List Value)),xss[i]?=some xs→uss[i]?=some us→us.length=xs.length)→uss.flatten.length=xss.flatten.length:=by
  intro xss;induction xss with
  |nil=>
   intro uss h _;cases uss with
   |nil=>rfl
   |cons=>simp at h
  |cons x xss ih=>
   intro uss h1 h2
   match uss,h1 with
   |us::uss,h1=>rw[List.flatten_cons,List.flatten_cons,List.length_append,List.length_append,h2 0 x us rfl rfl,ih uss (by simpa using h1) fun i xs us h3 h4=>h2 (i+1) xs us (by simpa using h3) (by simpa using h4)]
 have hfl:=hflat xss uss hul fun i xs us h1 h2=>(huss i xs us h1 h2).1;have hxr:∀xs∈xss,∀r∈xs,r.length=5:=fun xs hx r hr=>by
  obtain⟨i,hi,rfl⟩:=List.mem_iff_getElem.1 hx;obtain⟨x,h1,h2⟩:=hspec i _ (List.getElem?_eq_getElem hi);unfold B5e at h2;split at h2
  ·cases h2
  split at h2
  case h_2=>cases h2
  split at h2
  case isFalse=>cases h2
  rename_i hall;cases h2;have:=List.all_eq_true.1 hall r hr;simp only[Bool.and_eq_true,beq_iff_eq]at this;exact this.1
 have hpair:∀(xss:List (List (List D))) (uss:List (List (List Value))),uss.length=xss.length→(∀xs∈xss,∀r∈xs,r.length=5)→(∀us∈uss,∀r∈us,r.length=5)→(∀(i:Nat) (xs:List (List D)) (us:List (List Value)),xss[i]?=some xs→uss[i]?=some us→us.length=xs.length∧∀(j:Nat) (d:D) (v:Value),xs.flatten[j]?=some d→us.flatten[j]?=some v→VR g d v)→∀(j:Nat) (d:D) (v:Value),xss.flatten.flatten[j]?=some d→uss.flatten.flatten[j]?=some v→VR g d v:=by
  intro xss;induction xss with
  |nil=>intro uss h _ _ _ j d v hd _;simp at hd
  |cons x xss ih=>
   intro uss h1 hx hu h2 j d v hd hv
   match uss,h1 with
   |us::uss,h1=>
    rw[List.flatten_cons,List.flatten_append]at hd hv;obtain⟨k1,k2⟩:=h2 0 x us rfl rfl;have hle:us.flatten.length=x.flatten.length:=by rw[Lt (hu us (by simp)),Lt (hx x (by simp)),k1]
    by_cases hlt:j<us.flatten.length
    ·rw[List.getElem?_append_left hlt]at hv;rw[List.getElem?_append_left (by omega)]at hd
     exact k2 j d v hd hv
    ·rw[List.getElem?_append_right (by omega)]at hv hd
     rw[hle]at hv;exact ih uss (by simpa using h1) (fun xs h=>hx xs (by simp[h])) (fun us h=>hu us (by simp[h])) (fun i xs us h3 h4=>h2 (i+1) xs us (by simpa using h3) (by simpa using h4)) _ d v hd hv
 obtain⟨ls,l,hx⟩:=List.exists_cons_of_ne_nil (fun h:xss= []=>hne2 (by rw[h];rfl))
 have hc:c<w.heap.size:=by
  obtain⟨us,hus⟩:∃us,uss[0]?=some us:=⟨_,List.getElem?_eq_getElem (by rw[hul,hx];simp)⟩
  obtain⟨_,_,_,q,m,h1,_⟩:=huss 0 ls us (by rw[hx];rfl) hus
  exact hlt _ _ _ h1
 rw[hl,← hul];refine(Tryz.concatR c o cap uss w hc (by rw[hfl];exact hlen.2) (by rw[hul];exact hlen.1) (fun us h r hr=>(hszs us h r hr).1) (fun us h r hr=>(hszs us h r hr).2) (fun i us hi=>by obtain⟨xs,hx⟩:=hat i us hi;exact(huss i xs us hx hi).2.2.2)).mono ?_
 rintro e w' ⟨v',rfl,ho,hb'⟩;have hv':v'≠ .slice none 0 0:=by
  rintro rfl;obtain⟨_,h|⟨_,_,_,h,_⟩⟩:=ho
  ·exact hne2 (List.eq_nil_of_length_eq_zero (by rw[← hfl];exact h.2))
  ·cases h
 obtain⟨g',h4,h5,h6,h7⟩:=Ag1 (ds:=xss.flatten.flatten) hs hb'.size hb'.block hb'.os hb'.output ho hv' (by rw[hfl];exact Lt fun r hr=>by obtain⟨xs,h1,h2⟩:=List.mem_flatten.1 hr;exact hxr xs h1 r h2) (hpair xss uss hul hxr (fun us h r hr=>(hszs us h r hr).1) fun i xs us h1 h2=>⟨(huss i xs us h1 h2).1,(huss i xs us h1 h2).2.2.1⟩)
 rw[hfl]at h7;exact⟨_,g',rfl,h7,h4,h5,h6⟩
end Go.Vam
set_option maxRecDepth 1000000
namespace Go.Vam
open Go.Proofs Go.Proofs.Tryz
noncomputable def C1:Eo:= {P:=prog,keepNil:= [77],keepArr:= [20,43,44,50,51,85,128,198,238,303,308,325,340],hnd:= [43,44,48,50,77,101,115,126,128,150,169,248,249,260,303,307,308,333,334,335,339,340,420],byRef:= [43,44,50,68,84,85,103,129,149,152,153,187,221,222,238,308,316,317,318,339,349,370,384,393,402],ords:=Ah5}
noncomputable def Q9:List (Nat × Bz):= [(91,Ho),(283,Iy),(156,Qz),(288,Nh),(45,Kg),(351,Ew),(374,K8),(344,Ld),(183,E8),(232,Kj),(127,Qv),(359,Qm),(180,B3d)]
noncomputable def Aw5:FuncId→Option Bz:=F9 Q9
noncomputable def Ez(i:Nat):Bool:=match prog.funcs[i]? with
 |some fn=>match fn.body with
  |some c=>Il (Ah5 i) c
  |none=>true
 |none=>true
end Go.Vam
