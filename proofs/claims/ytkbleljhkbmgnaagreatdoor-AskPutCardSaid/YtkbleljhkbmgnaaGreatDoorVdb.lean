/- P. -/
import Derived.Test.YtkbleljhkbmgnaaGreatDoorVda
set_option linter.unusedSimpArgs false
set_option linter.unusedVariables false
set_option linter.unusedSectionVars false
noncomputable section
set_option maxRecDepth 1000000
namespace Go.Vam
open Go.Proofs Go.Proofs.Tryz
def Bdd:Nat→Nat:=fun _=>0
def Biy(s:List UInt8):Option (List Wd):=match Y8 s with
 | .ok ws=>some (ws.map (shW Bdd))
 | .error _=>none
theorem Bq5{s:List UInt8}{w:Wd}{e:Nat}(h0:Db false s=0)(hs:0<s.length)(hw:Fq s 0=some (w,e)):Y8 s=match shL (· +e) (Y8 (s.drop e))with
  | .ok l=> .ok (w::l)
  | .error j=> .error j:=by
 obtain⟨h1,h2⟩:=Mq hs hw;unfold Y8;rw[h0,M6,if_pos hs,hw];simp only;have hl:(s.take e).length=e:=by rw[List.length_take];omega
 have h4:=Bny (s.take e) (s.drop e) s.length (Db false (s.drop e));rw[List.take_append_drop,hl]at h4;have h5:=O7 false (s.drop e);rw[Nat.add_comm e,h4,Bpd (s.drop e) s.length ((s.drop e).length+1) _ (by rw[List.length_drop];omega) (by omega)]
 generalize shL (fun x=>x+e) (M6 ((s.drop e).length+1) (s.drop e) (Db false (s.drop e)))=o;cases o<;>rfl
theorem Bmd{s:List UInt8}{w:Wd}{e:Nat}(h0:Db false s=0)(hs:0<s.length)(hw:Fq s 0=some (w,e)):Biy s=(Biy (s.drop e)).map (shW Bdd w:: ·):=by
 unfold Biy;rw[Bq5 h0 hs hw];cases Y8 (s.drop e)with
 |error j=>rfl
 |ok l=>simp only[shL,List.map_cons,List.map_map,Option.map_some];rfl
theorem Brp(r:List UInt8):Biy (32::r)=Biy r:=by
 have h:Y8 (32::r)=shL (· +1) (Y8 r):=by
  have h:=Bny [32] r (r.length+2) (Db false r);unfold Y8;show M6 (r.length+1+1) ([32]++r) (1+Db false r)=_;rw[Nat.add_comm 1];refine h.trans ?_;rw[Bpd r (r.length+2) (r.length+1) _ (by omega) (by omega)]
  rfl
 unfold Biy;rw[h];cases Y8 r with
 |error j=>rfl
 |ok l=>simp only[shL,List.map_map];rfl
def nW(t:List UInt8):Wd:=⟨1,0,t⟩
def pW(c:UInt8):Wd:=⟨3,0,[c]⟩
def tW(t:List UInt8):Wd:=⟨2,0,t⟩
def Bra(t:List UInt8):Prop:=∀b∈t,De b=true
theorem Bp8:∀{w r:List UInt8},Bra w→D7 r=0→D7 (w++r)=w.length
 | [],_,_,h=>h
 |b::w,r,h,h2=>by
  show D7 (b::(w++r))=_;rw[D7,if_pos (h b (by simp)),Bp8 (fun c hc=>h c (by simp[hc])) h2,List.length_cons]
  omega
theorem Bp2{b:UInt8}(h:De b=true)(r:List UInt8):Db false (b::r)=0:=by
 have h1:Iw b=false:=by unfold Iw;rw[Bool.eq_false_iff];intro hb;simp only[Bool.or_eq_true,beq_iff_eq]at hb;rcases hb with((hb|hb)|hb)|hb<;>subst hb<;>exact absurd h (by decide)
 have h2:(b == 35)=false:=by rw[beq_eq_false_iff_ne];intro hb;subst hb;exact absurd h (by decide)
 unfold Db;rw[h1,h2];rfl
theorem Bqq{w r:List UInt8}(hne:w≠ [])(hw:Bra w)(hr:D7 r=0):Biy (w++r)=(Biy r).map (nW w:: ·):=by
 have hl:=Bp8 hw hr;have hp:0<w.length:=List.length_pos_iff.2 hne;have h1:Fq (w++r) 0=some (⟨1,0,w⟩,w.length):=by
  unfold Fq;rw[List.drop_zero,hl,if_pos (by omega)]
  simp
 rw[Bmd (w:=⟨1,0,w⟩) (e:=w.length) (by
  cases w with
  |nil=>exact absurd rfl hne
  |cons b w=>exact Bp2 (hw b (by simp)) _) (by rw[List.length_append];omega) h1]
 simp only[List.drop_left];rfl
theorem Bqo{c:UInt8}(r:List UInt8)(h1:De c=false)(h2:(c == 34)=false)(h3:O5.contains c=true)(h4:Iw c=false)(h5:(c == 35)=false):Biy (c::r)=(Biy r).map (pW c:: ·):=by
 have hw:Fq (c::r) 0=some (⟨3,0,[c]⟩,1):=by
  unfold Fq;rw[List.drop_zero];have:D7 (c::r)=0:=by unfold D7;rw[h1];rfl
  rw[this,if_neg (by decide)]
  show(if(c == 34)=true then _ else if O5.contains c=true then some ((⟨3,0,[c]⟩:Wd),0+1)else none)=_;rw[h2,h3];rfl
 exact Bmd (w:=⟨3,0,[c]⟩) (e:=1) (by unfold Db;rw[h4,h5];rfl) (by simp) hw
def hxB(n:Nat):UInt8:=Ic.getD n 0
def qB(c:UInt8):List UInt8:=if c == 34 || c == 92 then[92,c]else if c == 10 then[92,110]else if c == 9 then[92,116]else if decide ((c.toNat:Int)<32) || decide (126<(c.toNat:Int))then[92,120,hxB (c.toNat / 16),hxB (c.toNat % 16)]else[c]
def qsP:List UInt8→List UInt8
 | []=> []
 |c::t=>qB c++qsP t
def Bl9(t:List UInt8):List UInt8:=34::(qsP t++ [34])
def Bs8(n:Nat):Bool:=Ic.contains (hxB (n / 16)) && Ic.contains (hxB (n % 16)) && (UInt8.ofNat (16*Ih (hxB (n / 16))+Ih (hxB (n % 16))) == UInt8.ofNat n)
theorem Btg:(List.range 256).all Bs8=true:=by kernel_rfl
theorem Bty(c:UInt8):Ic.contains (hxB (c.toNat / 16))=true∧Ic.contains (hxB (c.toNat % 16))=true∧UInt8.ofNat (16*Ih (hxB (c.toNat / 16))+Ih (hxB (c.toNat % 16)))=c:=by have h:=List.all_eq_true.1 Btg c.toNat (List.mem_range.2 c.toNat_lt);unfold Bs8 at h;simp only[Bool.and_eq_true,beq_iff_eq]at h;exact⟨h.1.1,h.1.2,h.2.trans UInt8.ofNat_toNat⟩
theorem so2{t:List UInt8}{a b:Nat}(h:a=b):some (t,a)=some (t,b):=by rw[h]
theorem Bkc:∀(t:List UInt8) (n:Nat) (r:List UInt8),(qsP t).length<n→Dv n (qsP t++34::r)=some (t,(qsP t).length+1)
 |_,0,_,h=>by omega
 | [],n+1,r,_=>rfl
 |c::t,n+1,r,h=>by
  have e:qsP (c::t)=qB c++qsP t:=rfl;rw[e]at h ⊢;rw[List.length_append]at h;rw[List.append_assoc,List.length_append];unfold qB at h ⊢;split
  ·rename_i hc;rw[if_pos hc]at h;simp only[List.length_cons,List.length_nil]at h;have hi:=Bkc t n r (by omega)
   simp only[Bool.or_eq_true,beq_iff_eq]at hc;rcases hc with hc|hc<;>subst hc<;>
   ·show((Dv n (qsP t++34::r)).map fun p=>(_::p.1,1+1+p.2))=_;rw[hi];simp only[Option.map_some];exact so2 (by simp only[List.length_cons,List.length_nil];omega)
  split
  ·rename_i hn hc;rw[if_neg hn,if_pos hc]at h;simp only[List.length_cons,List.length_nil]at h;have hi:=Bkc t n r (by omega)
   rw[beq_iff_eq]at hc;subst hc;show((Dv n (qsP t++34::r)).map fun p=>(_::p.1,1+1+p.2))=_;rw[hi];simp only[Option.map_some];exact so2 (by simp only[List.length_cons,List.length_nil];omega)
  split
  ·rename_i hn hm hc;rw[if_neg hn,if_neg hm,if_pos hc]at h;simp only[List.length_cons,List.length_nil]at h;have hi:=Bkc t n r (by omega)
   rw[beq_iff_eq]at hc;subst hc;show((Dv n (qsP t++34::r)).map fun p=>(_::p.1,1+1+p.2))=_;rw[hi];simp only[Option.map_some];exact so2 (by simp only[List.length_cons,List.length_nil];omega)
  split
  ·rename_i hn hm hl hc;rw[if_neg hn,if_neg hm,if_neg hl,if_pos hc]at h;simp only[List.length_cons,List.length_nil]at h;have hi:=Bkc t n r (by omega)
   obtain⟨h1,h2,h3⟩:=Bty c;have he:Ht (120::hxB (c.toNat / 16)::hxB (c.toNat % 16)::(qsP t++34::r))=some (c,3):=by show(if(Ic.contains (hxB (c.toNat / 16)) && Ic.contains (hxB (c.toNat % 16)))=true then some (UInt8.ofNat (16*Ih (hxB (c.toNat / 16))+Ih (hxB (c.toNat % 16))),3)else none)=_;rw[h1,h2,h3];rfl
   show(match Ht (120::hxB (c.toNat / 16)::hxB (c.toNat % 16)::(qsP t++34::r))with
    |none=>none
    |some (d,k)=>(Dv n ((120::hxB (c.toNat / 16)::hxB (c.toNat % 16)::(qsP t++34::r)).drop k)).map fun p:List UInt8 × Nat=>(d::p.1,1+k+p.2))=_
   rw[he];show((Dv n (qsP t++34::r)).map fun p=>(c::p.1,1+3+p.2))=_;rw[hi];simp only[Option.map_some];exact so2 (by simp only[List.length_cons,List.length_nil];omega)
  ·rename_i hn hm hl hc;rw[if_neg hn,if_neg hm,if_neg hl,if_neg hc]at h;simp only[List.length_cons,List.length_nil]at h;have hi:=Bkc t n r (by omega)
   simp only[Bool.or_eq_true,not_or,Bool.not_eq_true]at hn;show(if c == 34 then some ([],1)else if c == 92 then _ else if decide ((c.toNat:Int)<32) || decide (126<(c.toNat:Int))then none else(Dv n (qsP t++34::r)).map fun p=>(c::p.1,1+p.2))=_;rw[hn.1,hn.2,if_neg (by decide),if_neg (by decide),if_neg hc,hi]
   simp only[Option.map_some];exact so2 (by simp only[List.length_cons,List.length_nil];omega)
theorem Bqn(t r:List UInt8):Biy (Bl9 t++r)=(Biy r).map (tW t:: ·):=by
 have e:Bl9 t++r=34::(qsP t++34::r):=by simp[Bl9]
 have hw:Fq (34::(qsP t++34::r)) 0=some (⟨2,0,t⟩,(qsP t).length+2):=by
  unfold Fq;rw[List.drop_zero,if_neg (show ¬ D7 (34::(qsP t++34::r))≠0 from by intro h;exact h rfl)]
  show((Dv ((qsP t++34::r).length+1 - (0+1)+1) (qsP t++34::r)).map fun p=>((⟨2,0,p.1⟩:Wd),0+1+p.2))=_;rw[Bkc t _ r (by rw[List.length_append];omega)]
  simp only[Option.map_some];rw[show 0+1+((qsP t).length+1)=(qsP t).length+2 from by omega]
 rw[e,Bmd (w:=⟨2,0,t⟩) (e:=(qsP t).length+2) rfl (by simp) hw]
 have:(34::(qsP t++34::r)).drop ((qsP t).length+2)=r:=by show(qsP t++34::r).drop ((qsP t).length+1)=r;rw[List.drop_append];simp
 rw[this];rfl
def Asy:Qy→Bool
 | .lt _ _ _ _=>true
 |_=>false
def Bmf(k:Int):Bool:=k == 3 || (k == 4 || k == 5)
def Aud:Qy→Bool
 | .bin k _ _ _=>Bmf k
 |_=>false
def sgB(k:Int):UInt8:=if k=3 then 43 else if k=4 then 94 else 45
def inP(b:Bool)(t:List UInt8):List UInt8:=if b then 40::(t++ [41])else t
def Bqg(r:Bool)(ln:List UInt8):List UInt8:=if r then 58::ln else ln
def Asz:Qy→List UInt8
 | .label _ r ln=>Bqg r ln
 | .var _ nm=>36::nm
 | .bin k _ x y=>if Bmf k then inP (Asy x) (Asz x)++(32::sgB k::32::inP (Asy y || Aud y) (Asz y))else(if k=8 then Afo else Zq)++(40::(Asz x++(44::32::(Asz y++ [41]))))
 | .un k _ nm n x=>if k=6 then Aj1++(40::(Asz x++(if 0≤n then 44::32::(P7 n.toNat++ [41])else[41])))else if k=7 then Abt++(40::(Asz x++ [41]))
  else if k=10 then Ake++(40::(nm++(44::32::(Asz x++ [41]))))else X5++(40::(Bl9 nm++(44::32::(Asz x++ [41]))))
 | .lt _ nm x y=>Ib++(32::(nm++(32::61::32::(Asz x++(32::(Vx++(32::Asz y)))))))
 | .whole _=>A76++ [40,41]
def sgW(k:Int):Wd:=if k=5 then nW [45]else pW (sgB k)
def inW(b:Bool)(t:List Wd):List Wd:=if b then pW 40::(t++ [pW 41])else t
def toks:Qy→List Wd
 | .label _ r ln=>if r then[pW 58,nW ln]else[nW ln]
 | .var _ nm=> [pW 36,nW nm]
 | .bin k _ x y=>if Bmf k then inW (Asy x) (toks x)++(sgW k::inW (Asy y || Aud y) (toks y))else nW (if k=8 then Afo else Zq)::pW 40::(toks x++(pW 44::(toks y++ [pW 41])))
 | .un k _ nm n x=>if k=6 then nW Aj1::pW 40::(toks x++(if 0≤n then[pW 44,nW (P7 n.toNat),pW 41]else[pW 41]))else if k=7 then nW Abt::pW 40::(toks x++ [pW 41])
  else if k=10 then nW Ake::pW 40::nW nm::pW 44::(toks x++ [pW 41])else nW X5::pW 40::tW nm::pW 44::(toks x++ [pW 41])
 | .lt _ nm x y=>nW Ib::nW nm::pW 61::(toks x++(nW Vx::toks y))
 | .whole _=> [nW A76,pW 40,pW 41]
def Bkp(t:List UInt8):Prop:=t≠ []∧Bra t
def Br8:Qy→Prop
 | .label _ _ ln=>Bkp ln
 | .var _ nm=>Bkp nm
 | .bin k _ _ _=>k=3∨k=4∨k=5∨k=8∨k=9
 | .un k _ nm n _=>(k=6∧nm= []∧(n= -1∨(0≤n∧Bkp (P7 n.toNat))))∨(k=7∧nm= []∧n=0)∨(k=10∧n=0∧Bkp nm)∨(k=11∧n=0)
 | .lt _ nm _ _=>Bkp nm
 | .whole _=>True
def Aqf(s r:List UInt8)(ts:List Wd):Prop:=Biy s=(Biy r).map (ts++ ·)
theorem Aqf.nil(r:List UInt8):Aqf r r []:=by unfold Aqf;cases Biy r<;>rfl
theorem Aqf.trans{a b c:List UInt8}{t u:List Wd}(h:Aqf a b t)(h2:Aqf b c u):Aqf a c (t++u):=by unfold Aqf at*;rw[h,h2];cases Biy c<;>simp
theorem Aqf.cons{a b c:List UInt8}{w:Wd}{u:List Wd}(h:Aqf a b [w])(h2:Aqf b c u):Aqf a c (w::u):=h.trans h2
theorem Aqf.sp{a b:List UInt8}{u:List Wd}(h:Aqf a b u):Aqf (32::a) b u:=by unfold Aqf at*;rw[Brp,h]
theorem Aqf.name{w r:List UInt8}(h:Bkp w)(hr:D7 r=0):Aqf (w++r) r [nW w]:=Bqq h.1 h.2 hr
theorem Aqf.sign{c:UInt8}{r:List UInt8}(h1:De c=false)(h2:(c == 34)=false)(h3:O5.contains c=true)(h4:Iw c=false)(h5:(c == 35)=false):Aqf (c::r) r [pW c]:=Bqo r h1 h2 h3 h4 h5
theorem Aqf.text{t r:List UInt8}:Aqf (Bl9 t++r) r [tW t]:=Bqn t r
theorem Bix{t:List UInt8}(h:(!t.isEmpty && t.all De)=true):Bkp t:=by simp only[Bool.and_eq_true,Bool.not_eq_true',List.all_eq_true]at h;exact⟨fun e=>by rw[e]at h;exact absurd h.1 (by decide),h.2⟩
theorem Bog{b:Bool}{t:List UInt8}{u:List Wd}(h:∀r,D7 r=0→Aqf (t++r) r u)(r:List UInt8)(hr:D7 r=0):Aqf (inP b t++r) r (inW b u):=by
 cases b with
 |false=>exact h r hr
 |true=>
  show Aqf (40::(t++ [41])++r) r (pW 40::(u++ [pW 41]));rw[show(40::(t++ [41])++r:List UInt8)=40::(t++(41::r))from by simp]
  exact(Aqf.sign rfl rfl rfl rfl rfl).cons ((h (41::r) rfl).trans (Aqf.sign rfl rfl rfl rfl rfl))
theorem Bjc:∀(x:Qy),Aem Br8 x→∀r,D7 r=0→Aqf (Asz x++r) r (toks x)
 | .label a rl ln,h,r,hr=>by
  cases rl with
  |false=>exact Aqf.name h hr
  |true=>exact(Aqf.sign rfl rfl rfl rfl rfl).cons (Aqf.name h hr)
 | .var a nm,h,r,hr=>(Aqf.sign (c:=36) rfl rfl rfl rfl rfl).cons (Aqf.name h hr)
 | .whole a,h,r,hr=>by show Aqf (A76++(40::41::r)) r _;exact(Aqf.name (Bix rfl) rfl).cons ((Aqf.sign rfl rfl rfl rfl rfl).cons (Aqf.sign rfl rfl rfl rfl rfl))
 | .lt a nm x y,h,r,hr=>by
  have hx:=Bjc x h.2.1;have hy:=Bjc y h.2.2;rw[show Asz (.lt a nm x y)++r=Ib++(32::(nm++(32::61::32::(Asz x++(32::(Vx++(32::(Asz y++r))))))))from by simp[Asz]]
  exact(Aqf.name (Bix rfl) rfl).cons (Aqf.sp ((Aqf.name h.1 rfl).cons (Aqf.sp ((Aqf.sign rfl rfl rfl rfl rfl).cons (Aqf.sp ((hx _ rfl).trans (Aqf.sp ((Aqf.name (Bix rfl) rfl).cons (Aqf.sp (hy r hr))))))))))
 | .un k a nm n x,h,r,hr=>by
  have hx:=Bjc x h.2;rcases h.1 with⟨rfl,_,hn⟩|⟨rfl,_,_⟩|⟨rfl,_,hn⟩|⟨rfl,_⟩
  ·rcases hn with rfl|⟨h0,hn⟩
   ·rw[show Asz (.un 6 a nm (-1) x)++r=Aj1++(40::(Asz x++(41::r)))from by simp[Asz]]
    exact(Aqf.name (Bix rfl) rfl).cons ((Aqf.sign rfl rfl rfl rfl rfl).cons ((hx _ rfl).trans (Aqf.sign rfl rfl rfl rfl rfl)))
   ·rw[show Asz (.un 6 a nm n x)++r=Aj1++(40::(Asz x++(44::32::(P7 n.toNat++(41::r)))))from by simp[Asz,h0]]
    rw[show toks (.un 6 a nm n x)=nW Aj1::pW 40::(toks x++ [pW 44,nW (P7 n.toNat),pW 41])from by simp[toks,h0]]
    exact(Aqf.name (Bix rfl) rfl).cons ((Aqf.sign rfl rfl rfl rfl rfl).cons ((hx _ rfl).trans ((Aqf.sign rfl rfl rfl rfl rfl).cons (Aqf.sp ((Aqf.name hn rfl).cons (Aqf.sign rfl rfl rfl rfl rfl))))))
  ·rw[show Asz (.un 7 a nm n x)++r=Abt++(40::(Asz x++(41::r)))from by simp[Asz]]
   exact(Aqf.name (Bix rfl) rfl).cons ((Aqf.sign rfl rfl rfl rfl rfl).cons ((hx _ rfl).trans (Aqf.sign rfl rfl rfl rfl rfl)))
  ·rw[show Asz (.un 10 a nm n x)++r=Ake++(40::(nm++(44::32::(Asz x++(41::r)))))from by simp[Asz]]
   exact(Aqf.name (Bix rfl) rfl).cons ((Aqf.sign rfl rfl rfl rfl rfl).cons ((Aqf.name hn rfl).cons ((Aqf.sign rfl rfl rfl rfl rfl).cons (Aqf.sp ((hx _ rfl).trans (Aqf.sign rfl rfl rfl rfl rfl))))))
  ·rw[show Asz (.un 11 a nm n x)++r=X5++(40::(Bl9 nm++(44::32::(Asz x++(41::r)))))from by simp[Asz]]
   exact(Aqf.name (Bix rfl) rfl).cons ((Aqf.sign rfl rfl rfl rfl rfl).cons (Aqf.text.cons ((Aqf.sign rfl rfl rfl rfl rfl).cons (Aqf.sp ((hx _ rfl).trans (Aqf.sign rfl rfl rfl rfl rfl))))))
 | .bin k a x y,h,r,hr=>by
  have hx:=Bjc x h.2.1;have hy:=Bjc y h.2.2;have hs:∀(b:List UInt8) (k:Int),k=3∨k=4∨k=5→Aqf (sgB k::32::b) (32::b) [sgW k]:=fun b k hk=>by
   rcases hk with rfl|rfl|rfl
   ·exact Aqf.sign rfl rfl rfl rfl rfl
   ·exact Aqf.sign rfl rfl rfl rfl rfl
   ·exact Aqf.name (w:= [45]) (Bix rfl) rfl
  have hS:k=3∨k=4∨k=5→Aqf (Asz (.bin k a x y)++r) r (toks (.bin k a x y)):=fun hk=>by
   have hb:Bmf k=true:=by rcases hk with rfl|rfl|rfl<;>rfl
   rw[show Asz (.bin k a x y)++r=inP (Asy x) (Asz x)++(32::sgB k::32::(inP (Asy y || Aud y) (Asz y)++r))from by simp[Asz,hb]]
   rw[show toks (.bin k a x y)=inW (Asy x) (toks x)++(sgW k::inW (Asy y || Aud y) (toks y))from by simp[toks,hb]]
   exact(Bog hx _ rfl).trans (Aqf.sp ((hs _ k hk).cons (Aqf.sp (Bog hy r hr))))
  rcases h.1 with hk|hk|hk|rfl|rfl
  ·exact hS (.inl hk)
  ·exact hS (.inr (.inl hk))
  ·exact hS (.inr (.inr hk))
  ·rw[show Asz (.bin 8 a x y)++r=Afo++(40::(Asz x++(44::32::(Asz y++(41::r)))))from by simp[Asz,Bmf]]
   exact(Aqf.name (Bix rfl) rfl).cons ((Aqf.sign rfl rfl rfl rfl rfl).cons ((hx _ rfl).trans ((Aqf.sign rfl rfl rfl rfl rfl).cons (Aqf.sp ((hy _ rfl).trans (Aqf.sign rfl rfl rfl rfl rfl))))))
  ·rw[show Asz (.bin 9 a x y)++r=Zq++(40::(Asz x++(44::32::(Asz y++(41::r)))))from by simp[Asz,Bmf]]
   exact(Aqf.name (Bix rfl) rfl).cons ((Aqf.sign rfl rfl rfl rfl rfl).cons ((hx _ rfl).trans ((Aqf.sign rfl rfl rfl rfl rfl).cons (Aqf.sp ((hy _ rfl).trans (Aqf.sign rfl rfl rfl rfl rfl))))))
def Bj7(may:List UInt8→Bool)(gn:List UInt8→Int × Bool):Qy→Prop
 | .label _ _ ln=>may ln=true
 | .var _ nm=>may nm=true
 | .bin k _ _ _=>k=3∨k=4∨k=5∨k=8∨k=9
 | .un k _ nm n _=>(k=6∧nm= []∧(n= -1∨∃t,gn t=(n,true)))∨(k=7∧nm= []∧n=0)∨(k=10∧n=0∧Jd nm=true)∨(k=11∧n=0)
 | .lt _ nm _ _=>may nm=true
 | .whole _=>True
section
variable{L:Nat}{may:List UInt8→Bool}{gn:List UInt8→Int × Bool}
theorem Aze(c:UInt8)(ws:List Wd):A8 L ⟨pW c::ws,none⟩ 3 [c]=⟨ws,none⟩:=by
 unfold A8;rw[if_pos (by simp[Ry,pW,Cn])]
 rfl
theorem Brj(t:List UInt8)(ws:List Wd):A8 L ⟨nW t::ws,none⟩ 1 t=⟨ws,none⟩:=by
 unfold A8;rw[if_pos (by simp[Ry,nW,Cn])]
 rfl
theorem Bme{m:List UInt8→Bool}{t:List UInt8}(ws:List Wd)(h:m t=true):Bb L ⟨nW t::ws,none⟩ 1 m=(t,⟨ws,none⟩):=by
 unfold Bb;rw[if_pos (by simp[M9,nW,Cn,h])]
 rfl
theorem Bse{t:List UInt8}(ws:List Wd):Bb L ⟨tW t::ws,none⟩ 2 (fun _=>true)=(t,⟨ws,none⟩):=by
 unfold Bb;rw[if_pos (by simp[M9,tW,Cn])]
 rfl
theorem Bjs(t u:List UInt8)(ws:List Wd):Ry L ⟨nW t::ws,none⟩ 1 u=(t == u):=by simp[Ry,nW,Cn]
theorem Bgl(t u:List UInt8)(ws:List Wd):Ry L ⟨nW t::ws,none⟩ 3 u=false:=by simp[Ry,nW,Cn]
theorem Bjo(c d:UInt8)(ws:List Wd):Ry L ⟨pW c::ws,none⟩ 3 [d]=(c == d):=by simp[Ry,pW,Cn]
theorem Boq(c:UInt8)(u:List UInt8)(ws:List Wd):Ry L ⟨pW c::ws,none⟩ 1 u=false:=by simp[Ry,pW,Cn]
theorem Bqm(t:List UInt8)(ws:List Wd):Ij L ⟨nW t::ws,none⟩=Bl.tail.contains t:=by simp[Ij,nW,Cn]
theorem Bgz{c:UInt8}(ws:List Wd)(h:(c == 43)=false)(h2:(c == 94)=false):Hz L ⟨pW c::ws,none⟩=0:=by unfold Hz;simp only[Bjo,Boq,h,h2,BF]
theorem Brz(ws:List Wd):Hz L ⟨nW Vx::ws,none⟩=0:=by unfold Hz;rw[Bgl,Bgl,Bjs];rfl
theorem Bp9:Hz L ⟨[],none⟩=0:=by simp[Hz,Ry,Cn,Nq]
theorem Bri{k:Int}(ws:List Wd)(h:k=3∨k=4∨k=5):Hz L ⟨sgW k::ws,none⟩=k:=by
 rcases h with rfl|rfl|rfl
 ·show Hz L ⟨pW 43::ws,none⟩=3;unfold Hz;rw[Bjo];rfl
 ·show Hz L ⟨pW 94::ws,none⟩=4;unfold Hz;rw[Bjo,Bjo];rfl
 ·show Hz L ⟨nW [45]::ws,none⟩=5;unfold Hz;rw[Bgl,Bgl,Bjs];rfl
theorem Brf(k:Int):(sgW k).at_=0:=by unfold sgW;split<;>rfl
theorem A31{t:List UInt8}{ws:List Wd}{n:Nat}(ht:Bl.tail.contains t=true):Jv L may gn (n+2) ⟨nW t::pW 40::ws,none⟩=match Q7 L gn (Fe L may gn n) 0 t ⟨ws,none⟩with
  |none=>none
  |some (x,s1)=>some (x,A8 L s1 3 [41]):=by
 unfold Jv;rw[Bgl,Bgl,Bgl,Bqm,ht];simp only[BF,if_true];unfold Py;show(match Q7 L gn (Fe L may gn n) 0 t (A8 L ⟨pW 40::ws,none⟩ 3 [40])with
  |none=>none
  |some (x,s1)=>some (x,A8 L s1 3 [41]))=_
 rw[Aze]
def bnd(L:Nat)(item:PS→Option (Qy × PS))(m:Nat)(s:PS):Option (Qy × PS):=match item s with
 |none=>none
 |some (x,s1)=>Kw L item m x s1
structure Boz(L:Nat)(may:List UInt8→Bool)(gn:List UInt8→Int × Bool)(q:Qy):Prop where
 it:Df q≤1000→Asy q=false→Aud q=false→∀n ws,4*Df q≤n+2→Jv L may gn n ⟨toks q++ws,none⟩=some (shQ Bdd q,⟨ws,none⟩)
 su:Df q≤1000→Asy q=false→∀n m ws,4*Df q≤n+2→Df q≤m→∃m',m≤m'+Df q∧bnd L (Jv L may gn n) m ⟨toks q++ws,none⟩=Kw L (Jv L may gn n) m' (shQ Bdd q) ⟨ws,none⟩
 qu:Df q≤1000→∀n ws,4*Df q≤n→Hz L ⟨ws,none⟩=0→Fe L may gn n ⟨toks q++ws,none⟩=some (shQ Bdd q,⟨ws,none⟩)
theorem Boi(hM:∀t,may t=true→Bl.contains t=false):∀(q:Qy),Aem (Bj7 may gn) q→Asy q=false→∀ws,Ry L ⟨toks q++ws,none⟩ 1 Ib=false
 | .label a r ln,h,_,ws=>by
  cases r with
  |true=>exact Boq _ _ _
  |false=>show Ry L ⟨nW ln::ws,none⟩ 1 Ib=false;rw[Bjs,beq_eq_false_iff_ne];intro e;have:=hM _ h;rw[e]at this;exact absurd this (by decide)
 | .var a nm,h,_,ws=>Boq _ _ _
 | .whole a,h,_,ws=>by show Ry L ⟨nW A76::_,none⟩ 1 Ib=false;rw[Bjs];rfl
 | .lt a nm x y,h,hl,ws=>by cases hl
 | .un k a nm n x,h,_,ws=>by
  rcases h.1 with⟨rfl,_⟩|⟨rfl,_⟩|⟨rfl,_⟩|⟨rfl,_⟩
  ·exact(Bjs Aj1 Ib _).trans rfl
  ·exact(Bjs Abt Ib _).trans rfl
  ·exact(Bjs Ake Ib _).trans rfl
  ·exact(Bjs X5 Ib _).trans rfl
 | .bin k a x y,h,_,ws=>by
  have hS:Bmf k=true→Ry L ⟨toks (.bin k a x y)++ws,none⟩ 1 Ib=false:=fun hb=>by
   rw[show toks (.bin k a x y)++ws=inW (Asy x) (toks x)++(sgW k::inW (Asy y || Aud y) (toks y)++ws)from by simp[toks,hb]]
   cases hx:Asy x with
   |true=>exact Boq _ _ _
   |false=>exact Boi hM x h.2.1 hx _
  rcases h.1 with rfl|rfl|rfl|rfl|rfl
  ·exact hS rfl
  ·exact hS rfl
  ·exact hS rfl
  ·exact(Bjs Afo Ib _).trans rfl
  ·exact(Bjs Zq Ib _).trans rfl
theorem Bm3{x:Qy}(hx:Boz L may gn x)(hd:Df x≤1000){b:Bool}(hb:b=false→Asy x=false∧Aud x=false){n:Nat}{ws:List Wd}(hn:4*Df x+2≤n):
  Jv L may gn n ⟨inW b (toks x)++ws,none⟩=some (shQ Bdd x,⟨ws,none⟩):=by
 cases b with
 |false=>exact hx.it hd (hb rfl).1 (hb rfl).2 n ws (by omega)
 |true=>
  obtain⟨n,rfl⟩:∃m,n=m+1:=⟨n - 1,by omega⟩
  rw[show inW true (toks x)++ws=pW 40::(toks x++(pW 41::ws))from by simp[inW]]
  unfold Jv;rw[Bjo,Bjo,Bjo,Aze,hx.qu hd n (pW 41::ws) (by omega) (Bgz ws rfl rfl)]
  simp only[show((40:UInt8) == 58)=false from rfl,show((40:UInt8) == 36)=false from rfl,show((40:UInt8) == 40)=true from rfl,BF,if_true,Aze]
theorem Boz.of_item(hM:∀t,may t=true→Bl.contains t=false){q:Qy}(h:Aem (Bj7 may gn) q)(hl:Asy q=false)
  (su:Df q≤1000→∀n m ws,4*Df q≤n+2→Df q≤m→∃m',m≤m'+Df q∧bnd L (Jv L may gn n) m ⟨toks q++ws,none⟩=Kw L (Jv L may gn n) m' (shQ Bdd q) ⟨ws,none⟩)
  (it:Df q≤1000→Aud q=false→∀n ws,4*Df q≤n+2→Jv L may gn n ⟨toks q++ws,none⟩=some (shQ Bdd q,⟨ws,none⟩)):Boz L may gn q:=
 ⟨fun hd _ hs=>it hd hs,fun hd _=>su hd,fun hd n ws hn hsg=>by
  have hp:=Xv q;obtain⟨n,rfl⟩:∃m,n=m+2:=⟨n - 2,by omega⟩
  obtain⟨m',h1,h2⟩:=su hd n 1900 ws (by omega) (by omega)
  obtain⟨j,rfl⟩:∃j,m'=j+1:=⟨m' - 1,by omega⟩
  unfold Fe;rw[Boi hM q h hl];simp only[BF];unfold Uv;refine Eq.trans ?_ (h2.trans ?_)
  ·unfold bnd;rfl
  ·unfold Kw;rw[if_pos hsg]⟩
theorem Boz.item(hM:∀t,may t=true→Bl.contains t=false){q:Qy}(h:Aem (Bj7 may gn) q)(hl:Asy q=false)(it:Df q≤1000→∀n ws,4*Df q≤n+2→Jv L may gn n ⟨toks q++ws,none⟩=some (shQ Bdd q,⟨ws,none⟩)):Boz L may gn q:=
 Boz.of_item hM h hl (fun hd n m ws hn hm=>⟨m,by omega,by unfold bnd;rw[it hd n ws hn]⟩) (fun hd _=>it hd)
theorem Bj4(hM:∀t,may t=true→Bl.contains t=false)(hG:∀t n,gn t=(n,true)→0≤n∧P7 n.toNat=t):∀q:Qy,Aem (Bj7 may gn) q→Boz L may gn q
 | .label a r ln,h=>Boz.item hM h rfl fun _ n ws hn=>by
  obtain⟨n,rfl⟩:∃m,n=m+1:=⟨n - 1,by simp[Df]at hn;omega⟩
  have hc:=hM _ h;have hm:may ln=true:=h;cases r with
  |true=>show Jv L may gn (n+1) ⟨pW 58::nW ln::ws,none⟩=_;unfold Jv;rw[Bjo,Aze,Bme ws hm];rfl
  |false=>
   show Jv L may gn (n+1) ⟨nW ln::ws,none⟩=_;have hc2:Bl.tail.contains ln=false:=by simp only[Bl,List.tail_cons,List.contains_cons,Bool.or_eq_false_iff]at hc ⊢;exact hc.2
   unfold Jv;rw[Bgl,Bgl,Bgl,Bqm,hc2,Bme ws hm];rfl
 | .var a nm,h=>Boz.item hM h rfl fun _ n ws hn=>by
  obtain⟨n,rfl⟩:∃m,n=m+1:=⟨n - 1,by simp[Df]at hn;omega⟩
  have hm:may nm=true:=h;show Jv L may gn (n+1) ⟨pW 36::nW nm::ws,none⟩=_;unfold Jv;rw[Bjo,Bjo,Aze,Bme ws hm];rfl
 | .whole a,h=>Boz.item hM h rfl fun _ n ws hn=>by
  obtain⟨n,rfl⟩:∃m,n=m+2:=⟨n - 2,by simp[Df]at hn;omega⟩
  show Jv L may gn (n+2) ⟨nW A76::pW 40::pW 41::ws,none⟩=_;rw[A31 rfl];unfold Q7;rw[if_neg (by decide),if_neg (by decide),if_neg (by decide),if_neg (by decide),if_neg (by decide)]
  simp only[Aze];rfl
 | .lt a nm x y,h=>by
  have hx:=Bj4 hM hG x h.2.1;have hy:=Bj4 hM hG y h.2.2;have hm:may nm=true:=h.1;refine⟨fun _ hl=>absurd (show true=false from hl) (by decide),fun _ hl=>absurd (show true=false from hl) (by decide),fun hd n ws hn hsg=>?_⟩
  have hdx:Df (.lt a nm x y)=1+max (Df x) (Df y):=rfl;obtain⟨n,rfl⟩:∃m,n=m+1:=⟨n - 1,by omega⟩
  rw[show toks (.lt a nm x y)++ws=nW Ib::nW nm::pW 61::(toks x++(nW Vx::(toks y++ws)))from by simp[toks]]
  unfold Fe;rw[Bjs,Brj,Bme _ hm,Aze,hx.qu (by omega) n _ (by omega) (Brz _)]
  simp only[show(Ib == Ib)=true from rfl,if_true,Brj];rw[hy.qu (by omega) n ws (by omega) hsg]
  rfl
 | .un k a nm n0 x,h=>by
  have hx:=Bj4 hM hG x h.2;have hdx:Df (.un k a nm n0 x)=1+Df x:=rfl;refine Boz.item hM h rfl fun hd n ws hn=>?_;obtain⟨n,rfl⟩:∃m,n=m+2:=⟨n - 2,by omega⟩
  rcases h.1 with⟨rfl,rfl,hn0⟩|⟨rfl,rfl,rfl⟩|⟨rfl,rfl,hk⟩|⟨rfl,rfl⟩
  ·have hq:∀ws',Hz L ⟨ws',none⟩=0→Fe L may gn n ⟨toks x++ws',none⟩=some (shQ Bdd x,⟨ws',none⟩):=fun ws'=>hx.qu (by omega) n ws' (by omega)
   rcases hn0 with rfl|⟨t,ht⟩
   ·rw[show toks (.un 6 a [] (-1) x)++ws=nW Aj1::pW 40::(toks x++(pW 41::ws))from by simp[toks]]
    rw[A31 rfl];unfold Q7;rw[if_pos rfl,hq _ (Bgz ws rfl rfl)];simp only[Bjo,show((41:UInt8) == 44)=false from rfl,BF,Aze];rfl
   ·obtain⟨h0,h1⟩:=hG _ _ ht;rw[show toks (.un 6 a [] n0 x)++ws=nW Aj1::pW 40::(toks x++(pW 44::nW t::pW 41::ws))from by simp[toks,h0,h1]]
    rw[A31 rfl];unfold Q7;rw[if_pos rfl,hq _ (Bgz _ rfl rfl)];simp only[Bjo,show((44:UInt8) == 44)=true from rfl,if_true,Aze,Zk,Bme (m:=fun t=>(gn t).2) (t:=t) (pW 41::ws) (by rw[ht]),ht]
    rfl
  ·rw[show toks (.un 7 a [] 0 x)++ws=nW Abt::pW 40::(toks x++(pW 41::ws))from by simp[toks]]
   rw[A31 rfl];unfold Q7;rw[if_neg (by decide),if_pos rfl,hx.qu (by omega) n _ (by omega) (Bgz ws rfl rfl)]
   simp only[Aze];rfl
  ·rw[show toks (.un 10 a nm 0 x)++ws=nW Ake::pW 40::nW nm::pW 44::(toks x++(pW 41::ws))from by simp[toks]]
   rw[A31 rfl];unfold Q7;rw[if_neg (by decide),if_neg (by decide),if_neg (by decide),if_pos rfl,Bme (m:=Jd) _ hk]
   simp only[Aze];rw[hx.qu (by omega) n _ (by omega) (Bgz ws rfl rfl)]
   simp only[Aze];rfl
  ·rw[show toks (.un 11 a nm 0 x)++ws=nW X5::pW 40::tW nm::pW 44::(toks x++(pW 41::ws))from by simp[toks]]
   rw[A31 rfl];unfold Q7;rw[if_neg (by decide),if_neg (by decide),if_neg (by decide),if_neg (by decide),if_pos rfl,Bse]
   simp only[Aze];rw[hx.qu (by omega) n _ (by omega) (Bgz ws rfl rfl)]
   simp only[Aze];rfl
 | .bin k a x y,h=>by
  have hx:=Bj4 hM hG x h.2.1;have hy:=Bj4 hM hG y h.2.2;have hdx:Df (.bin k a x y)=1+max (Df x) (Df y):=rfl;have hS:(k=3∨k=4∨k=5)→Boz L may gn (.bin k a x y):=fun hk=>by
   have hb:Bmf k=true:=by rcases hk with rfl|rfl|rfl<;>rfl
   refine Boz.of_item hM h rfl (fun hd n m ws hn hm=>?_) (fun _ hs=>by rw[show Aud (.bin k a x y)=Bmf k from rfl,hb]at hs;cases hs)
   rw[show toks (.bin k a x y)++ws=inW (Asy x) (toks x)++(sgW k::(inW (Asy y || Aud y) (toks y)++ws))from by simp[toks,hb]]
   have hfin:∀j,Kw L (Jv L may gn n) (j+1) (shQ Bdd x) ⟨sgW k::(inW (Asy y || Aud y) (toks y)++ws),none⟩=Kw L (Jv L may gn n) j (shQ Bdd (.bin k a x y)) ⟨ws,none⟩:=fun j=>by
    rw[Kw,Bri _ hk,if_neg (by omega)]
    show(match Jv L may gn n ⟨inW (Asy y || Aud y) (toks y)++ws,none⟩with
     |none=>none
     |some (y',s2)=>Kw L (Jv L may gn n) j (.bin k (sgW k).at_ (shQ Bdd x) y') s2)=_
    rw[Bm3 hy (by omega) (by simp) (by omega),Brf]
    rfl
   cases hlx:Asy x with
   |true=>
    refine⟨m - 1,by omega,?_⟩
    obtain⟨j,rfl⟩:∃j,m=j+1:=⟨m - 1,by omega⟩
    unfold bnd;rw[Bm3 hx (by omega) (by simp) (by omega)]
    exact hfin j
   |false=>
    obtain⟨m',h1,h2⟩:=hx.su (by omega) hlx n m (sgW k::(inW (Asy y || Aud y) (toks y)++ws)) (by omega) (by omega)
    obtain⟨j,rfl⟩:∃j,m'=j+1:=⟨m' - 1,by omega⟩
    exact⟨j,by omega,h2.trans (hfin j)⟩
  have hC:∀k',(k'=8∨k'=9)→k=k'→Boz L may gn (.bin k a x y):=fun k' hk e=>by
   refine Boz.item hM h rfl fun hd n ws hn=>?_;obtain⟨n,rfl⟩:∃m,n=m+2:=⟨n - 2,by omega⟩
   rcases hk with rfl|rfl<;>subst e
   ·rw[show toks (.bin 8 a x y)++ws=nW Afo::pW 40::(toks x++(pW 44::(toks y++(pW 41::ws))))from by simp[toks,Bmf]]
    rw[A31 rfl];unfold Q7;rw[if_neg (by decide),if_neg (by decide),if_pos (by decide),hx.qu (by omega) n _ (by omega) (Bgz _ rfl rfl)]
    simp only[Aze];rw[hy.qu (by omega) n _ (by omega) (Bgz _ rfl rfl)]
    simp only[Aze];rfl
   ·rw[show toks (.bin 9 a x y)++ws=nW Zq::pW 40::(toks x++(pW 44::(toks y++(pW 41::ws))))from by simp[toks,Bmf]]
    rw[A31 rfl];unfold Q7;rw[if_neg (by decide),if_neg (by decide),if_pos (by decide),hx.qu (by omega) n _ (by omega) (Bgz _ rfl rfl)]
    simp only[Aze];rw[hy.qu (by omega) n _ (by omega) (Bgz _ rfl rfl)]
    simp only[Aze];rfl
  rcases h.1 with hk|hk|hk|hk|hk
  ·exact hS (.inl hk)
  ·exact hS (.inr (.inl hk))
  ·exact hS (.inr (.inr hk))
  ·exact hC 8 (.inl rfl) hk
  ·exact hC 9 (.inr rfl) hk
theorem Bgf:∀q:Qy,Aem (Bj7 may gn) q→Df q≤(toks q).length
 | .label _ r _,_=>by cases r<;>simp[toks,Df]
 | .var _ _,_=>by simp[toks,Df]
 | .whole _,_=>by simp[toks,Df]
 | .lt a nm x y,h=>by have hx:=Bgf x h.2.1;have hy:=Bgf y h.2.2;simp only[toks,Df,List.length_cons,List.length_append];omega
 | .un k a nm n x,h=>by
  have hx:=Bgf x h.2;have e:Df (.un k a nm n x)=1+Df x:=rfl;unfold toks;split
  ·simp only[List.length_cons,List.length_append];omega
  split
  ·simp only[List.length_cons,List.length_append];omega
  split
  ·simp only[List.length_cons,List.length_append];omega
  ·simp only[List.length_cons,List.length_append];omega
 | .bin k a x y,h=>by
  have hx:=Bgf x h.2.1;have hy:=Bgf y h.2.2;have e:Df (.bin k a x y)=1+max (Df x) (Df y):=rfl;have hi:∀(b:Bool) (t:List Wd),t.length≤(inW b t).length:=fun b t=>by
   cases b with
   |false=>exact Nat.le_refl _
   |true=>simp only[inW,if_true,List.length_cons,List.length_append,List.length_nil];omega
  unfold toks;split
  ·have h1:=hi (Asy x) (toks x);have h2:=hi (Asy y || Aud y) (toks y);simp only[List.length_cons,List.length_append];omega
  ·simp only[List.length_cons,List.length_append];omega
end
section
variable{L:Nat}{may:List UInt8→Bool}{gn:List UInt8→Int × Bool}
theorem Bf3{s:PS}{K:Int}{m:List UInt8→Bool}(h:(Bb L s K m).2.bad=none):m (Bb L s K m).1=true∧s.bad=none:=by obtain⟨h1,h2,h3⟩:=Aek h;rw[h3];unfold M9 at h1;simp only[Bool.and_eq_true]at h1;exact⟨h1.2.2,h2⟩
def wT(A B:Nat):List Wd→Nat
 | []=>0
 |w::ws=>A*w.tx.length+B+wT A B ws
def plQ(A B:Nat):Qy→Nat
 | .label _ _ ln=>A*ln.length+B
 | .var _ nm=>A*nm.length+B
 | .bin _ _ x y=>B+(plQ A B x+plQ A B y)
 | .un _ _ nm _ x=>B+(A*nm.length+plQ A B x)
 | .lt _ nm x y=>B+(A*nm.length+(plQ A B x+plQ A B y))
 | .whole _=>B
variable{A B:Nat}
theorem Bsn{s:PS}{w:Wd}{ws:List Wd}(h:s.ws=w::ws):wT A B s.ws=A*(Cn L s.ws).tx.length+B+wT A B s.ws.tail:=by rw[h];rfl
theorem Bds{s:PS}{K:Int}{tx:List UInt8}(hK:K≠4)(h:(A8 L s K tx).bad=none):wT A B (A8 L s K tx).ws+B≤wT A B s.ws∧s.bad=none:=by obtain⟨h1,h2⟩:=Aac h;obtain⟨w,ws,h3,_⟩:=X0 hK h1;unfold A8;rw[if_pos h1,Bsn (L:=L) h3];refine⟨?_,h2⟩;show wT A B s.ws.tail+B≤_;omega
theorem Bl4{s:PS}{K:Int}{m:List UInt8→Bool}(hK:K≠4)(h:(Bb L s K m).2.bad=none):m (Bb L s K m).1=true∧A*(Bb L s K m).1.length+B+wT A B (Bb L s K m).2.ws≤wT A B s.ws∧s.bad=none:=by obtain⟨h1,h2⟩:=Bf3 h;obtain⟨h3,_,_⟩:=Aek h;obtain⟨w,ws,h4,_⟩:=Am0 hK h3;refine⟨h1,?_,h2⟩;unfold Bb;rw[if_pos h3,Bsn (L:=L) h4];exact Nat.le_refl _
def OkG(may:List UInt8→Bool)(gn:List UInt8→Int × Bool)(A B d:Nat)(f:PS→Option (Qy × PS)):Prop:=∀(s:PS) (x:Qy) (s':PS),f s=some (x,s')→s'.bad=none→s.bad=none∧Aem (Bj7 may gn) x∧plQ A B x+wT A B s'.ws≤wT A B s.ws+d
theorem Bqp{s:PS}(h:Hz L s≠0):(Hz L s=3∨Hz L s=4∨Hz L s=5)∧s.bad=none∧wT A B s.ws.tail+B≤wT A B s.ws:=by
 have hb:∀{K:Int} {tx:List UInt8},K≠4→Ry L s K tx=true→s.bad=none∧wT A B s.ws.tail+B≤wT A B s.ws:=fun hK h1=>by
  obtain⟨w,ws,h3,h4,_⟩:=X0 hK h1;rw[Bsn (L:=L) h3];exact⟨h4,(by
   try dsimp only at*
   omega)⟩
 unfold Hz at h ⊢;split
 ·rename_i h1;exact⟨.inl rfl,hb (by decide) h1⟩
 split
 ·rename_i h1;exact⟨.inr (.inl rfl),hb (by decide) h1⟩
 split
 ·rename_i h1;exact⟨.inr (.inr rfl),hb (by decide) h1⟩
 ·rename_i h1 h2 h3;rw[if_neg h1,if_neg h2,if_neg h3]at h;exact absurd rfl h
theorem Bp7{item:PS→Option (Qy × PS)}(hi:OkG may gn A B 0 item):∀(m:Nat) (x:Qy) (s:PS) (y:Qy) (s':PS),Kw L item m x s=some (y,s')→s'.bad=none→s.bad=none∧(Aem (Bj7 may gn) x→Aem (Bj7 may gn) y)∧plQ A B y+wT A B s'.ws≤plQ A B x+wT A B s.ws
 |0,x,s,y,s',h,_=>by simp[Kw]at h
 |m+1,x,s,y,s',h,hb=>by
  unfold Kw at h;split at h
  ·cases h;exact⟨hb,id,Nat.le_refl _⟩
  ·rename_i hs;obtain⟨hk,hb0,hw⟩:=Bqp (A:=A) (B:=B) hs;split at h
   ·cases h
   ·rename_i z s2 hz;obtain⟨h5,h6,h7⟩:=Bp7 hi m _ _ _ _ h hb;obtain⟨_,h8,h9⟩:=hi _ _ _ hz h5;refine⟨hb0,fun hx=>h6 ⟨hk.elim .inl fun h=> .inr (h.elim .inl fun h=> .inr (.inl h)),hx,h8⟩,?_⟩;simp only[plQ]at h7 h9
    try dsimp only at*
    omega
theorem Bqv{q:PS→Option (Qy × PS)}(hq:OkG may gn A B 0 q){a:Nat}{t:List UInt8}:OkG may gn A B B (Q7 L gn q a t):=by
 intro s x s' h hb;unfold Q7 at h;split at h
 ·cases hz:q s with
  |none=>rw[hz]at h;cases h
  |some p=>
   obtain⟨z,s1⟩:=p;rw[hz]at h;simp only at h;split at h
   ·cases h;obtain⟨h2,h3,h3b⟩:=Bl4 (A:=A) (B:=B) (by decide) (show(Bb L (A8 L s1 3 [44]) 1 fun t=>(gn t).2).2.bad=none from hb)
    obtain⟨h3c,h3d⟩:=Bds (A:=A) (B:=B) (by decide) h3b
    obtain⟨h4,h5,h6⟩:=hq _ _ _ hz h3d;refine⟨h4,⟨.inl ⟨rfl,rfl,.inr ⟨_,by unfold Zk;rw[← h2]⟩⟩,h5⟩,?_⟩
    show B+(A*0+plQ A B z)+wT A B (Bb L (A8 L s1 3 [44]) 1 fun t=>(gn t).2).2.ws≤_
    try dsimp only at*
    omega
   ·cases h;obtain⟨h4,h5,h6⟩:=hq _ _ _ hz hb;refine⟨h4,⟨.inl ⟨rfl,rfl,.inl rfl⟩,h5⟩,?_⟩;simp only[plQ,List.length_nil,Nat.mul_zero]
    try dsimp only at*
    omega
 split at h
 ·cases hz:q s with
  |none=>rw[hz]at h;cases h
  |some p=>
   obtain⟨z,s1⟩:=p;rw[hz]at h;cases h;obtain⟨h4,h5,h6⟩:=hq _ _ _ hz hb;refine⟨h4,⟨.inr (.inl ⟨rfl,rfl,rfl⟩),h5⟩,?_⟩;simp only[plQ,List.length_nil,Nat.mul_zero]
   try dsimp only at*
   omega
 split at h
 ·cases hz:q s with
  |none=>rw[hz]at h;cases h
  |some p=>
   obtain⟨z,s1⟩:=p;rw[hz]at h;simp only at h;cases hz2:q (A8 L s1 3 [44])with
   |none=>rw[hz2]at h;cases h
   |some p2=>
    obtain⟨z2,s2⟩:=p2;rw[hz2]at h;cases h;obtain⟨h4,h5,h6⟩:=hq _ _ _ hz2 hb;obtain⟨h8,h9⟩:=Bds (A:=A) (B:=B) (by decide) h4
    obtain⟨h10,h11,h12⟩:=hq _ _ _ hz h9;refine⟨h10,⟨?_,h11,h5⟩,?_⟩
    ·show Bj7 may gn (.bin (if t=Zq then 9 else 8) a z z2);by_cases e:t=Zq
     ·rw[if_pos e];exact .inr (.inr (.inr (.inr rfl)))
     ·rw[if_neg e];exact .inr (.inr (.inr (.inl rfl)))
    ·simp only[plQ]
     try dsimp only at*
     omega
 split at h
 ·cases hz:q (A8 L (Bb L s 1 Jd).2 3 [44])with
  |none=>rw[hz]at h;cases h
  |some p=>
   obtain⟨z,s1⟩:=p;rw[hz]at h;cases h;obtain⟨h4,h5,h6⟩:=hq _ _ _ hz hb;obtain⟨h8,h9⟩:=Bds (A:=A) (B:=B) (by decide) h4
   obtain⟨h10,h11,h12⟩:=Bl4 (A:=A) (B:=B) (by decide) h9
   refine⟨h12,⟨.inr (.inr (.inl ⟨rfl,rfl,h10⟩)),h5⟩,?_⟩;simp only[plQ]
   try dsimp only at*
   omega
 split at h
 ·cases hz:q (A8 L (Bb L s 2 (fun _=>true)).2 3 [44])with
  |none=>rw[hz]at h;cases h
  |some p=>
   obtain⟨z,s1⟩:=p;rw[hz]at h;cases h;obtain⟨h4,h5,h6⟩:=hq _ _ _ hz hb;obtain⟨h8,h9⟩:=Bds (A:=A) (B:=B) (by decide) h4
   obtain⟨_,h11,h12⟩:=Bl4 (A:=A) (B:=B) (by decide) h9
   refine⟨h12,⟨.inr (.inr (.inr ⟨rfl,rfl⟩)),h5⟩,?_⟩;simp only[plQ]
   try dsimp only at*
   omega
 ·cases h;refine⟨hb,trivial,?_⟩;simp only[plQ]
  try dsimp only at*
  omega
theorem Bq6:∀n:Nat,OkG may gn A B 0 (Fe L may gn n)∧OkG may gn A B 0 (Uv L may gn n)∧OkG may gn A B 0 (Jv L may gn n)∧∀s a x s',Ij L s=true→Py L may gn n s a=some (x,s')→s'.bad=none→s.bad=none∧Aem (Bj7 may gn) x∧plQ A B x+wT A B s'.ws≤wT A B s.ws
 |0=>⟨fun s x s' h=>by simp[Fe]at h,fun s x s' h=>by simp[Uv]at h,fun s x s' h=>by simp[Jv]at h,fun s a x s' _ h=>by simp[Py]at h⟩
 |n+1=>by
  obtain⟨i1,i2,i3,i4⟩:=Bq6 n;refine⟨fun s x s' h hb=>?_,fun s x s' h hb=>?_,fun s x s' h hb=>?_,fun s a x s' hc h hb=>?_⟩
  ·unfold Fe at h;split at h
   ·cases hz:Fe L may gn n (A8 L (Bb L (A8 L s 1 Ib) 1 may).2 3 [61])with
    |none=>rw[hz]at h;cases h
    |some p=>
     obtain⟨z,s4⟩:=p;rw[hz]at h;simp only at h;cases hz2:Fe L may gn n (A8 L s4 1 Vx)with
     |none=>rw[hz2]at h;cases h
     |some p2=>
      obtain⟨z2,s6⟩:=p2;rw[hz2]at h;cases h;obtain⟨h3,h4,a1⟩:=i1 _ _ _ hz2 hb;obtain⟨a2,h5⟩:=Bds (A:=A) (B:=B) (by decide) h3
      obtain⟨h6,h7,a3⟩:=i1 _ _ _ hz h5;obtain⟨a4,h8⟩:=Bds (A:=A) (B:=B) (by decide) h6
      obtain⟨h9,a5,h10⟩:=Bl4 (A:=A) (B:=B) (by decide) h8
      obtain⟨a6,h11⟩:=Bds (A:=A) (B:=B) (by decide) h10
      refine⟨h11,⟨h9,h7,h4⟩,?_⟩;simp only[plQ]
      try dsimp only at*
      omega
   ·exact i2 _ _ _ h hb
  ·unfold Uv at h;cases hz:Jv L may gn n s with
   |none=>rw[hz]at h;cases h
   |some p=>obtain⟨z,s1⟩:=p;rw[hz]at h;obtain⟨h3,h4,a1⟩:=Bp7 i3 _ _ _ _ _ h hb;obtain⟨h5,h6,a2⟩:=i3 _ _ _ hz h3;exact⟨h5,h4 h6,(by
   try dsimp only at*
   omega)⟩
  ·unfold Jv at h;split at h
   ·cases h;obtain⟨h3,a1,h4⟩:=Bl4 (A:=A) (B:=B) (by decide) hb
    obtain⟨a2,h5⟩:=Bds (A:=A) (B:=B) (by decide) h4
    refine⟨h5,h3,?_⟩;simp only[plQ]
    try dsimp only at*
    omega
   split at h
   ·cases h;obtain⟨h3,a1,h4⟩:=Bl4 (A:=A) (B:=B) (by decide) hb
    obtain⟨a2,h5⟩:=Bds (A:=A) (B:=B) (by decide) h4
    refine⟨h5,h3,?_⟩;simp only[plQ]
    try dsimp only at*
    omega
   split at h
   ·cases hz:Fe L may gn n (A8 L s 3 [40])with
    |none=>rw[hz]at h;cases h
    |some p=>
     obtain⟨z,s1⟩:=p;rw[hz]at h;cases h;obtain⟨a1,h3⟩:=Bds (A:=A) (B:=B) (by decide) hb
     obtain⟨h4,h5,a2⟩:=i1 _ _ _ hz h3;obtain⟨a3,h6⟩:=Bds (A:=A) (B:=B) (by decide) h4
     exact⟨h6,h5,(by
   try dsimp only at*
   omega)⟩
   split at h
   ·rename_i hc;exact i4 _ _ _ _ hc h hb
   ·cases h;obtain⟨h3,a1,h4⟩:=Bl4 (A:=A) (B:=B) (by decide) hb
    refine⟨h4,h3,?_⟩;simp only[plQ]
    try dsimp only at*
    omega
  ·simp only[Py]at h;cases hz:Q7 L gn (Fe L may gn n) a (Cn L s.ws).tx (A8 L ⟨s.ws.tail,s.bad⟩ 3 [40])with
   |none=>rw[hz]at h;cases h
   |some p=>
    obtain⟨z,s1⟩:=p;rw[hz]at h;cases h;obtain⟨a1,h3⟩:=Bds (A:=A) (B:=B) (by decide) hb
    obtain⟨h4,h5,a2⟩:=Bqv i1 _ _ _ hz h3;obtain⟨a3,h6⟩:=Bds (A:=A) (B:=B) (by decide) h4
    refine⟨h6,h5,?_⟩;have hw:wT A B s.ws.tail+B≤wT A B s.ws:=by
     unfold Ij at hc;simp only[Bool.and_eq_true,beq_iff_eq]at hc;cases hs:s.ws with
     |nil=>rw[hs]at hc;exact absurd (show((4:Nat):Int)=1 from hc.2.1) (by decide)
     |cons w ws=>
      show wT A B ws+B≤A*w.tx.length+B+wT A B ws
      try dsimp only at*
      omega
    have e:(⟨s.ws.tail,s.bad⟩:PS).ws=s.ws.tail:=rfl;rw[e]at a3
    try dsimp only at*
    omega
theorem Bq2{s:List UInt8}{i e:Nat}{w:Wd}(hi:i<s.length)(h:Fq s i=some (w,e)):i+w.tx.length≤e:=by
 unfold Fq at h;split at h
 ·cases h;have:=Aaz (s.drop i);show i+((s.drop i).take (D7 (s.drop i))).length≤_;rw[List.length_take];omega
 ·split at h
  ·cases h
  ·split at h
   ·simp only[Option.map_eq_some_iff,Prod.mk.injEq]at h;obtain⟨⟨t,k⟩,h1,rfl,rfl⟩:=h;have:=Ui h1;dsimp only;omega
   ·split at h
    ·cases h;exact Nat.le_refl _
    ·cases h
theorem Bqu{K:Nat}(hABK:(A=4∧B=30∧K=34)∨(A=1∧B=0∧K=1)){s:List UInt8}:∀(n i:Nat) (ws:List Wd),i≤s.length→M6 n s i= .ok ws→wT A B ws+K*i≤K*s.length
 |0,i,ws,_,h=>by simp[M6]at h
 |n+1,i,ws,hi,h=>by
  unfold M6 at h;split at h
  ·rename_i hlt;cases hw:Fq s i with
   |none=>rw[hw]at h;cases h
   |some p=>
    obtain⟨w,e⟩:=p;rw[hw]at h;simp only at h;cases hr:M6 n s (e+Db false (s.drop e))with
    |error j=>rw[hr]at h;cases h
    |ok l=>
     rw[hr]at h;cases h;obtain⟨h1,h2⟩:=Mq hlt hw;have h3:=O7 false (s.drop e);rw[List.length_drop]at h3;have h4:=Bqu hABK n _ l (by omega) hr
     have h5:=Bq2 hlt hw;simp only[wT];rcases hABK with⟨rfl,rfl,rfl⟩|⟨rfl,rfl,rfl⟩<;>omega
  ·cases h;simp only[wT];rcases hABK with⟨rfl,rfl,rfl⟩|⟨rfl,rfl,rfl⟩<;>omega
theorem Bsy{s:List UInt8}{x:Qy}(h:Qx may gn s= .ok x):Aem (Bj7 may gn) x∧Df x≤30∧plQ 4 30 x≤13600∧plQ 1 0 x≤400:=by
 unfold Qx at h;split at h
 ·cases h
 rename_i hl4;split at h
 ·cases h
 ·rename_i ws hw;split at h
  ·cases h
  ·rename_i y s1 hq;unfold U1 at h;cases hb:(Ah1 s.length s1).bad with
   |some b=>rw[hb]at h;cases h
   |none=>
    rw[hb]at h;simp only at h;split at h
    ·cases h
    ·rename_i hd;cases h;have hb1:s1.bad=none:=by
      unfold Ah1 at hb;split at hb
      ·exact absurd hb (Akn s1)
      ·exact hb
     obtain⟨_,h8,h9⟩:=(Bq6 (A:=4) (B:=30) _).1 _ _ _ hq hb1;obtain⟨_,_,h11⟩:=(Bq6 (A:=1) (B:=0) _).1 _ _ _ hq hb1;have h10:=Bqu (K:=34) (.inl ⟨rfl,rfl,rfl⟩) _ _ _ (O7 false s) hw;have h12:=Bqu (K:=1) (.inr ⟨rfl,rfl,rfl⟩) _ _ _ (O7 false s) hw;dsimp only at h9 h11;exact⟨h8,by omega,by omega,by omega⟩
theorem Aem.imp{p q:Qy→Prop}(hp:∀x,p x→q x){x:Qy}(h:Aem p x):Aem q x:=Aem.mono hp h
theorem Brm{t:List UInt8}(h:Jd t=true):Bkp t:=by unfold Jd at h;simp only[Bool.or_eq_true,beq_iff_eq]at h;rcases h with h|h|h<;>subst h<;>exact Bix rfl
theorem Bq4(t:List UInt8):(Bl9 t).length≤4*t.length+2:=by
 have:∀t:List UInt8,(qsP t).length≤4*t.length:=fun t=>by
  induction t with
  |nil=>exact Nat.le_refl 0
  |cons c t ih=>
   have:(qB c).length≤4:=by
    unfold qB;split
    ·simp
    split
    ·simp
    split
    ·simp
    split<;>simp
   show(qB c++qsP t).length≤_;rw[List.length_append,List.length_cons];omega
 have:=this t;simp only[Bl9,List.length_cons,List.length_append,List.length_nil];omega
theorem Br1(n:Nat):(P7 n).length≤19:=by
 have:∀(k n:Nat) (a:List UInt8),(Av3 k n a).length≤k+a.length:=fun k=>by
  induction k with
  |zero=>exact fun n a=>by simp[Av3]
  |succ k ih=>
   intro n a;unfold Av3;split
   ·simp only[List.length_cons];omega
   ·have:=ih (n / 10) (UInt8.ofNat (48+n % 10)::a);simp only[List.length_cons]at this;omega
 exact this 19 n []
theorem Bq0(b:Bool)(t:List UInt8):(inP b t).length≤t.length+2:=by cases b<;>simp[inP]
theorem Bmj:∀x:Qy,(Asz x).length+2≤plQ 4 30 x
 | .label _ r ln=>by cases r<;>simp[Asz,Bqg,plQ]<;>omega
 | .var _ nm=>by simp[Asz,plQ];omega
 | .whole _=>by simp[Asz,plQ,A76]
 | .lt _ nm x y=>by have h1:=Bmj x;have h2:=Bmj y;simp only[Asz,plQ,List.length_append,List.length_cons,Ib,Vx,List.length_nil];omega
 | .un k _ nm n x=>by
  have h1:=Bmj x;have h2:=Br1 n.toNat;have h3:=Bq4 nm;unfold Asz plQ;split
  ·simp only[List.length_append,List.length_cons,Aj1,List.length_nil];split
   ·simp only[List.length_append,List.length_cons,List.length_nil];omega
   ·simp only[List.length_cons,List.length_nil];omega
  split
  ·simp only[List.length_append,List.length_cons,Abt,List.length_nil];omega
  split
  ·simp only[List.length_append,List.length_cons,Ake,List.length_nil];omega
  ·simp only[List.length_append,List.length_cons,X5,List.length_nil];omega
 | .bin k _ x y=>by
  have h1:=Bmj x;have h2:=Bmj y;have h3:=Bq0 (Asy x) (Asz x);have h4:=Bq0 (Asy y || Aud y) (Asz y);unfold Asz plQ;split
  ·simp only[List.length_append,List.length_cons];omega
  ·split
   ·simp only[List.length_append,List.length_cons,Afo,List.length_nil];omega
   ·simp only[List.length_append,List.length_cons,Zq,List.length_nil];omega
theorem Bld:∀x:Qy,Asz (shQ Bdd x)=Asz x
 | .label _ _ _=>rfl
 | .var _ _=>rfl
 | .whole _=>rfl
 | .lt _ _ x y=>by simp only[shQ,Asz,Bld x,Bld y]
 | .un _ _ _ _ x=>by simp only[shQ,Asz,Bld x]
 | .bin _ _ x y=>by
  have h1:∀z:Qy,Asy (shQ Bdd z)=Asy z:=fun z=>by cases z<;>rfl
  have h2:∀z:Qy,Aud (shQ Bdd z)=Aud z:=fun z=>by cases z<;>rfl
  simp only[shQ,Asz,Bld x,Bld y,h1,h2]
theorem Bkj{s:List UInt8}{ts:List Wd}{x':Qy}(hs:s.length≤400)(hlx:Biy s=some ts)(hq':∀L,Fe L may gn (4*ts.length+4) ⟨ts,none⟩=some (x',⟨[],none⟩))(hd:Df x'≤30):
  ∃y,Qx may gn s= .ok y∧shQ Bdd y=x':=by
 unfold Biy at hlx;unfold Qx;rw[if_neg (by omega)]
 cases hw:Y8 s with
 |error i=>rw[hw]at hlx;cases hlx
 |ok ws=>
  rw[hw]at hlx;simp only[Option.some.injEq]at hlx;obtain⟨y,s1,hq,_⟩:=Aae may gn s.length (ws:=ws) (by have:=(Awq (by omega) hw).1;omega)
  simp only[hq];have h1:=(Bqc (L:=s.length) (may:=may) (gn:=gn) (k:=Bdd) (4*ws.length+4)).1 ⟨ws,none⟩;rw[hq,show shS Bdd ⟨ws,none⟩=⟨ts,none⟩from by unfold shS;rw[hlx];rfl]at h1
  have hlen:ws.length=ts.length:=by rw[← hlx,List.length_map]
  rw[hlen,hq']at h1;simp only[shO,Option.map_some,Option.some.injEq,Prod.mk.injEq]at h1;obtain⟨h3,h4⟩:=h1;refine⟨y,?_,h3.symm⟩;have h5:s1.ws= []∧s1.bad=none:=by unfold shS at h4;have h6:=congrArg PS.ws h4;have h7:=congrArg PS.bad h4;simp only at h6 h7;exact⟨List.map_eq_nil_iff.1 h6.symm,Option.map_eq_none_iff.1 h7.symm⟩
  obtain⟨ws1,b1⟩:=s1;simp only at h5;obtain⟨rfl,rfl⟩:=h5;have hdy:Df y=Df x':=by rw[h3,Bjr]
  show(if 30<Df y then .error (4,-1)else .ok y:Except (Int × Int) Qy)=_;rw[if_neg (by omega)]
theorem Bp6(hM:∀t,may t=true→Bkp t)(hG:∀t n,gn t=(n,true)→0≤n∧P7 n.toNat=t∧Bkp t){x:Qy}(ho:Aem (Bj7 may gn) x):Aem Br8 x:=Aem.mono (fun q hq=>by
  cases q with
  |label a r ln=>exact hM _ hq
  |var a nm=>exact hM _ hq
  |bin k a x y=>exact hq
  |un k a nm n x=>
   rcases hq with⟨h1,h2,h3⟩|hq|⟨h1,h2,h3⟩|hq
   ·refine .inl ⟨h1,h2,?_⟩;rcases h3 with h3|⟨t,h3⟩
    ·exact .inl h3
    ·obtain⟨g1,g2,g3⟩:=hG _ _ h3;exact .inr ⟨g1,by rw[g2];exact g3⟩
   ·exact .inr (.inl hq)
   ·exact .inr (.inr (.inl ⟨h1,h2,Brm h3⟩))
   ·exact .inr (.inr (.inr hq))
  |lt a nm x y=>exact hM _ hq
  |whole a=>trivial) ho
theorem Brd{x:Qy}(h:Aem Br8 x):Biy (Asz x)=some (toks x):=by have hlex:=Bjc x h [] rfl;unfold Aqf at hlex;rw[List.append_nil]at hlex;rw[hlex];show some (toks x++ [])=_;rw[List.append_nil]
theorem Bo8(hM:∀t,may t=true→Bl.contains t=false∧Bkp t)(hG:∀t n,gn t=(n,true)→0≤n∧P7 n.toNat=t∧Bkp t){x:Qy}(ho:Aem (Bj7 may gn) x)(hd:Df x≤30)(hl:(Asz x).length≤400):
  ∃y,Qx may gn (Asz x)= .ok y∧shQ Bdd y=shQ Bdd x:=by
 refine Bkj hl (Brd (Bp6 (fun t ht=>(hM t ht).2) hG ho)) (fun L=>?_) (by rw[Bjr];exact hd)
 have h2:=(Bj4 (L:=L) (fun t ht=>(hM t ht).1) (fun t n ht=>⟨(hG t n ht).1,(hG t n ht).2.1⟩) x ho).qu (by omega) (4*(toks x).length+4) [] (by have:=Bgf x ho;omega) Bp9
 rw[List.append_nil]at h2;exact h2
end
def Brq:Qy→Prop
 | .bin k _ _ _=>k=3∨k=4∨k=5∨k=8∨k=9
 | .un k _ _ n _=>(k=6∧(n= -1∨(0≤n∧n≤1000)))∨k=7∨k=10∨k=11
 |_=>True
def sgS(k:Int):List UInt8:=if k=3 then[32,43,32]else if k=4 then[32,94,32]else if k=5 then[32,45,32]else[]
theorem Bu5{x:Qy}(h:Brq x):(!(sgS (Bc5 x).1 == []))=Aud x:=by
 cases x with
 |bin k a x y=>rcases h with rfl|rfl|rfl|rfl|rfl<;>rfl
 |un k a nm n x=>rcases h with⟨rfl,_⟩|rfl|rfl|rfl<;>rfl
 |_=>rfl
theorem Bsm{x:Qy}(h:Brq x):((Bc5 x).1 == 12)=Asy x:=by
 cases x with
 |bin k a x y=>rcases h with rfl|rfl|rfl|rfl|rfl<;>rfl
 |un k a nm n x=>rcases h with⟨rfl,_⟩|rfl|rfl|rfl<;>rfl
 |_=>rfl
theorem Bs6{x:Qy}(h:Brq x):(decide (3≤(Bc5 x).1) && decide ((Bc5 x).1≤5))=Aud x:=by
 cases x with
 |bin k a x y=>rcases h with rfl|rfl|rfl|rfl|rfl<;>rfl
 |un k a nm n x=>rcases h with⟨rfl,_⟩|rfl|rfl|rfl<;>rfl
 |_=>rfl
theorem Bq9(x:Qy):gc (.agg (Br x)) 0= .int .i64 (Bc5 x).1:=by cases x<;>rfl
theorem Bst(x:Qy):gc (.agg (Br x)) 6= .sl ((L9 x).map Br) .none:=by cases x<;>rfl
def Bk1:List (List UInt8)→List UInt8
 | []=> []
 |a::l=>a++l.flatMap fun b=>44::32::b
theorem Bq3{l:List (List UInt8)}(b:List UInt8)(h:l≠ []):Bk1 (l++ [b])=Bk1 l++(44::32::b):=by
 cases l with
 |nil=>exact absurd rfl h
 |cons a l=>simp[Bk1]
def Btf(w:List UInt8)(l:List (List UInt8)):List UInt8:=w++(40::(Bk1 l++ [41]))
def Bo0(l:List (List UInt8)):Nat:=l.foldr (fun a n=>a.length+2+n) 0
theorem Brw:∀l:List (List UInt8),(Bk1 l).length≤Bo0 l
 | []=>Nat.le_refl 0
 |a::l=>by
  have:(l.flatMap fun b=>(44:UInt8)::32::b).length≤Bo0 l:=by
   induction l with
   |nil=>exact Nat.le_refl 0
   |cons b l ih=>show(44::32::b++l.flatMap fun b=>(44:UInt8)::32::b).length≤b.length+2+Bo0 l;simp only[List.length_append,List.length_cons];omega
  show(a++l.flatMap fun b=>44::32::b).length≤a.length+2+Bo0 l;rw[List.length_append];omega
theorem Bqd:∀(l:List (List UInt8)) (i:Nat),Bo0 (l.take i)≤Bo0 l
 | [],i=>by simp
 |a::l,0=>Nat.zero_le _
 |a::l,i+1=>by have:=Bqd l i;show a.length+2+Bo0 (l.take i)≤a.length+2+Bo0 l;omega
theorem Bqs:∀{l:List (List UInt8)} {i:Nat} {a:List UInt8},l[i]?=some a→a.length≤Bo0 l
 |b::l,0,a,h=>by cases h;show b.length≤b.length+2+Bo0 l;omega
 |b::l,i+1,a,h=>by
  have:=Bqs (l:=l) (i:=i) (a:=a) (by simpa using h)
  show a.length≤b.length+2+Bo0 l;omega
theorem Bt7(s:List UInt8):(Av.slim (.str s)).sem prog=some (.str s):=rfl
theorem Btw(s:List UInt8):(Av.cell (.str s)).sem prog=some (.str s):=rfl
theorem Bt6(a b c d e f g:D):(Av.fa 29 (.eptr [a,b,c,d,e,f,g]) 0).sem prog=some (.eptr [a,b,c,d,e,f,g]):=by kernel_rfl
theorem Bux(x:Qy):(Av.fa 29 (.eptr (Br x)) 0).sem prog=some (.eptr (Br x)):=by rw[Bs2 x];exact Bt6 _ _ _ _ _ _ _
theorem Buh(x:Qy):(Av.ld 3 (.eptr (Br x))).sem prog=some (.int .i64 (Bc5 x).1):=by rw[Bs2 x];exact Z4 _ _
section
variable{cf:Ah}{N:Nat}(hK:∀f,Ba (cf f))
include hK
theorem Bu7(r:Bool)(ln:List UInt8)(hl:ln.length<1000000):Ao (run C1 cf N) 32 [.agg [.bool r,.str ln]] (.str (Bqg r ln)):=by
 refine Cg hK func32 bdy rfl rfl rfl (Buw _) ?_;have hag:(Av.agg 2 (.agg [.bool r,.str ln])).sem prog=some (.agg [.bool r,.str ln]):=rfl;simp only[Aa,hag,show gc (.agg [.bool r,.str ln]) 0= .bool r from rfl,show gc (.agg [.bool r,.str ln]) 1= .str ln from rfl,Ac];cases r with
 |true=>
  simp only[if_true,Aa,Yp (a:= [58]) (b:=ln) (by simp;omega),Ab]
  exact Bf rfl
 |false=>simp only[BF,Ab];exact Bf rfl
theorem Bu0(r:Bool)(ln:List UInt8)(hl:ln.length<1000000):Ao (run C1 cf N) 40 [.agg [.bool r,.str ln]] (.str (Bqg r ln)):=by
 refine Cg hK func40 bdy rfl rfl rfl (Bu3 _) ?_;have hag:(Av.agg 2 (.agg [.bool r,.str ln])).sem prog=some (.agg [.bool r,.str ln]):=rfl;simp only[Aa,hag,show gc (.agg [.bool r,.str ln]) 0= .bool r from rfl,show gc (.agg [.bool r,.str ln]) 1= .str ln from rfl,Ac];cases r with
 |true=>
  simp only[if_true,Aa,Yp (a:= [58]) (b:=ln) (by simp;omega),Ab]
  exact Bf rfl
 |false=>simp only[BF,Ab];exact Bf rfl
theorem Bua(k:Int):Ao (run C1 cf N) 39 [.int .i64 k] (.str (sgS k)):=by
 refine Cg hK func39 bdy rfl rfl rfl (Bvd _) ?_;simp only[Aa,En,Ac,beq_iff_eq,Ab];unfold sgS;split
 ·exact Bf rfl
 split
 ·exact Bf rfl
 split
 ·exact Bf rfl
 ·exact Bf rfl
theorem Buy(x:Qy)(hx:Brq x):Ao (run C1 cf N) 73 [.agg (Br x)] (.bool (Aud x)):=by
 refine Cg hK func73 bdy rfl rfl rfl (Buq _) ?_;simp only[Aa,Hl,Bq9,Lx,Afx,Ac,Ab];rw[← Bs6 hx];cases decide (3≤(Bc5 x).1)with
 |true=>simp only[if_true,Bool.true_and];exact Bf rfl
 |false=>simp only[BF,Bool.false_and];exact Bf rfl
theorem Btu{t:List UInt8}(hl:t.length<1000000):(Av.bin .add 9 (.str [40]) (.str t)).sem prog=some (.str (40::t))∧(Av.bin .add 9 (.str (40::t)) (.str [41])).sem prog=some (.str (40::(t++ [41]))):=by
 have h1:=Yp (P:=prog) (t:=9) (a:= [40]) (b:=t) (by simp;omega)
 have h2:=Yp (P:=prog) (t:=9) (a:=40::t) (b:= [41]) (by simp;omega)
 exact⟨h1,h2⟩
theorem Bu2(x:Qy)(hx:Brq x)(hl:(Asz x).length<1000000)(h13:Ao cf 13 [.agg (Br x)] (.str (Asz x))):Ao (run C1 cf N) 33 [.agg (Br x)] (.str (inP (Asy x) (Asz x))):=by
 refine Cg hK func33 bdy rfl rfl rfl (Bvg _) ?_;obtain⟨a1,a2⟩:=Btu hK hl;simp only[Aa,Hl,Bq9,En,Bsm hx,Hm,Ac];cases Asy x with
 |true=>simp only[if_true];refine Aw (A2a (Md x)) h13 ?_;simp only[Aa,a1,a2,Ab];exact Bf rfl
 |false=>simp only[BF];refine Aw (A2a (Md x)) h13 ?_;simp only[Ab];exact Bf rfl
theorem Bul(x:Qy)(hx:Brq x)(hl:(Asz x).length<1000000)(h73:Ao cf 73 [.agg (Br x)] (.bool (Aud x)))(h13:Ao cf 13 [.agg (Br x)] (.str (Asz x))):Ao (run C1 cf N) 34 [.agg (Br x)] (.str (inP (Asy x || Aud x) (Asz x))):=by
 refine Cg hK func34 bdy rfl rfl rfl (Buv _) ?_;obtain⟨a1,a2⟩:=Btu hK hl;simp only[Aa,Hl,Bq9,En,Bsm hx,Hm,Ac];cases Asy x with
 |true=>simp only[if_true];refine Aw (A2a (Md x)) h13 ?_;simp only[Aa,a1,a2,Ab];exact Bf rfl
 |false=>
  simp only[BF];refine Aw (A2a (Md x)) h73 ?_;simp only[Ac];cases Aud x with
  |true=>simp only[if_true];refine Aw (A2a (Md x)) h13 ?_;simp only[Aa,a1,a2,Ab];exact Bf rfl
  |false=>simp only[BF];refine Aw (A2a (Md x)) h13 ?_;simp only[Ab];exact Bf rfl
theorem Bvb(x y:Qy)(i:Nat)(hy:(L9 x)[i]?=some y)(h13:Ao cf 13 [.agg (Br y)] (.str (Asz y))):Ao (run C1 cf N) 36 [.agg (Br x),.int .i64 (i:Int)] (.str (Asz y)):=by
 refine Cg hK func36 bdy rfl rfl rfl (Bug _ _) ?_;have hlt:i<(L9 x).length:=(List.getElem?_eq_some_iff.1 hy).1;simp only[Aa,Hl,Bst,Ahj,List.length_map,Lx,Ac,show decide (((L9 x).length:Int)≤(i:Int))=false from decide_eq_false (by omega),BF,Amw hy,Anv]
 refine Aw (A2a (Md y)) h13 ?_;simp only[Ab];exact Bf rfl
theorem Bup(w:List UInt8)(l:List (List UInt8))(hl:l.length≤2)(hw:w.length≤10)(hs:Bo0 l≤100000)(hN:1000<N):Ao (run C1 cf N) 35 [.str w,.sl (Lf l) .none] (.str (Btf w l)):=by
 refine Cg hK func35 bdy rfl rfl rfl (Bu8 _ _) ?_;simp only[Aa,Yp (a:=w) (b:= [40]) (by simp only[List.length_append,List.length_cons,List.length_nil];omega),Ahm]
 refine wp_loop (fun n a ds=>a=0∧∃i:Nat,ds= [.str (w++ [40]++Bk1 (l.take i)),.int .i64 (i:Int)]∧i≤l.length∧n=l.length - i) l.length (by omega) ⟨rfl,0,by simp[Bk1],Nat.zero_le _,rfl⟩ ?_
 rintro n a ds ⟨rfl,i,rfl,hi,rfl⟩;have h1:=Brw (l.take i);have h2:=Bqd l i;simp only[Ca,hv,tails,List.tail_cons,List.headD_cons,Aa,Da,Vz,Ac];by_cases hlt:i<l.length
 ·obtain⟨u,hu⟩:∃u,l[i]?=some u:=⟨_,List.getElem?_eq_getElem hlt⟩;have h3:=Bqs hu;have htk:l.take (i+1)=l.take i++ [u]:=by rw[List.take_add_one,hu];rfl
  simp only[hlt,decide_true,if_true,Yc hu,Tc,Jt,Aa,Ac];by_cases h0:i=0
  ·subst h0;simp only[show decide ((0:Int)<((0:Nat):Int))=false from rfl,BF,Yp (a:=w++ [40]++Bk1 (l.take 0)) (b:=u) (by
    have h0:(Bk1 (l.take 0)).length=0:=rfl;simp only[List.length_append,List.length_cons,List.length_nil];omega),Bt,wrapN (show 0<1000000 by omega),Az]
   refine⟨l.length - 1,by omega,rfl,1,?_,hlt,rfl⟩
   rw[htk];simp[Bk1]
  ·have hne:l.take i≠ []:=fun h=>by
    have hz:(l.take i).length=0:=by rw[h];rfl
    rw[List.length_take]at hz;omega
   have hdi:decide ((0:Int)<(i:Int))=true:=decide_eq_true (Int.natCast_pos.2 (Nat.pos_of_ne_zero h0));have hb1:(w++ [40]++Bk1 (l.take i)).length+([44,32]:List UInt8).length<2000000:=by simp only[List.length_append,List.length_cons,List.length_nil];omega
   have hb2:(w++ [40]++Bk1 (l.take i)++ [44,32]).length+u.length<2000000:=by simp only[List.length_append,List.length_cons,List.length_nil];omega
   simp only[hdi,Yp hb1,Yp hb2,if_true,Bt,wrapN (show i<1000000 by omega),Az]
   refine⟨l.length - (i+1),by omega,rfl,i+1,?_,hlt,rfl⟩
   rw[htk,Bq3 u hne];simp
 ·have hie:i=l.length:=by omega
  subst hie;rw[List.take_length]at h1 ⊢;simp only[hlt,decide_false,BF,Yp (a:=w++ [40]++Bk1 l) (b:= [41]) (by simp only[List.length_append,List.length_cons,List.length_nil];omega),Ab]
  have:Btf w l=w++ [40]++Bk1 l++ [41]:=by simp[Btf]
  rw[this];exact Bf rfl
end
theorem Br4:∀(l:List UInt8) (c:UInt8),qsP (l++ [c])=qsP l++qB c
 | [],c=>by simp[qsP]
 |d::l,c=>by show qB d++qsP (l++ [c])=qB d++qsP l++qB c;rw[Br4 l c,List.append_assoc]
theorem Bun:∀l:List UInt8,(qsP l).length≤4*l.length
 | []=>Nat.le_refl 0
 |c::l=>by have:=Bq4 (c::l);simp only[Bl9,List.length_cons,List.length_append,List.length_nil]at this;simp only[List.length_cons];omega
theorem Bwo(c:UInt8):(Av.bin .quo 5 (.int .u8 (c.toNat:Int)) (.int .u8 16)).sem prog=some (.int .u8 ((c.toNat / 16:Nat):Int)):=by
 have h:=c.toNat_lt;rw[Bek (by decide),Int.tdiv_eq_ediv_of_nonneg (by omega),Go.IntWalk.u8_in _ (by omega)]
 rfl
theorem Bwm(c:UInt8):(Av.bin .rem 5 (.int .u8 (c.toNat:Int)) (.int .u8 16)).sem prog=some (.int .u8 ((c.toNat % 16:Nat):Int)):=by
 show Ai (Op.intDiv .rem .u8 (c.toNat:Int) 16)=_;unfold Op.intDiv;rw[if_neg (by omega)]
 rfl
theorem Btj{n:Nat}(h:n<200):(Av.bin .add 5 (.int .u8 (n:Int)) (.int .u8 1)).sem prog=some (.int .u8 ((n+1:Nat):Int)):=by
 rw[Bt,Go.IntWalk.u8_in _ (by omega)]
 rfl
theorem Bwn{s:List UInt8}{i j:Nat}(h:i≤j)(h':j≤s.length):(Av.slc 9 (.str s) (some (.int .u8 (i:Int))) (some (.int .u8 (j:Int))) none).sem prog=some (.str ((s.take j).drop i)):=by
 have hn:∀i:Nat,E5 (.int .u8 (i:Int))=some i:=fun i=>by simp[E5]
 simp[Av.sem,Aes,hn,Lu,h,h',Et]
theorem Buc:∀q:Fin 16,(Ic.take (q.val+1)).drop q.val= [hxB q.val]:=by decide
theorem Bt5{q:Nat}(h:q<16):(Av.slc 9 (.str [48,49,50,51,52,53,54,55,56,57,97,98,99,100,101,102]) (some (.int .u8 (q:Int))) (some (.int .u8 ((q+1:Nat):Int))) none).sem prog=some (.str [hxB q]):=by
 have h2:=Buc ⟨q,h⟩;have h3:=Bwn (s:=Ic) (i:=q) (j:=q+1) (by omega) (by show q+1≤16;omega)
 rw[h2]at h3;exact h3
theorem Bts{s:List UInt8}{i:Nat}{c:UInt8}(h:s[i]?=some c):(s.take (i+1)).drop i= [c]:=by obtain⟨h1,h2⟩:=List.getElem?_eq_some_iff.1 h;rw[List.drop_take,Nat.add_sub_cancel_left,List.drop_eq_getElem_cons h1,h2];rfl
theorem Bsz:(List.range 1001).all (fun n=>decide (n<10) || P7 n == P7 (n / 10)++P7 (n % 10))=true:=by kernel_rfl
theorem Bv8{n:Nat}(h:10≤n)(h2:n≤1000):P7 (n / 10)++P7 (n % 10)=P7 n:=by
 have h3:=List.all_eq_true.1 Bsz n (List.mem_range.2 (by omega))
 rw[Bool.or_eq_true]at h3;rcases h3 with h3|h3
 ·have:=of_decide_eq_true h3;omega
 ·exact(beq_iff_eq.1 h3).symm
theorem Bvy{n:Nat}(h:n<10):P7 n= [UInt8.ofNat (48+n)]:=by unfold P7 Av3;rw[if_pos (by simpa using h)]
theorem Btx(n:Int)(h:0≤n∧n<256):(Av.conv 3 5 (.int .i64 n)).sem prog=some (.int .u8 n):=by simp only[Av.sem,Dr,Afl,show prog.underlying 5=some (.int .u8)from underlying5,Et];rw[Go.IntWalk.u8_in _ (by omega)]
section
variable{cf:Ah}{N:Nat}(hK:∀f,Ba (cf f))
include hK
set_option maxHeartbeats 1000000 in
theorem Byv(s:List UInt8)(hs:s.length≤1000)(hN:1000<N):Ao (run C1 cf N) 42 [.str s] (.str (Bl9 s)):=by
 refine Cg hK func42 bdy rfl rfl rfl (Bvv _) ?_;refine wp_loop (fun n a ds=>a=0∧∃i:Nat,ds= [.str (34::qsP (s.take i)),.int .i64 (i:Int)]∧i≤s.length∧n=s.length - i) s.length (by omega) ⟨rfl,0,by simp[qsP],Nat.zero_le _,rfl⟩ ?_
 rintro n a ds ⟨rfl,i,rfl,hi,rfl⟩;have h1:=Bun (s.take i);rw[List.length_take]at h1;simp only[Ca,hv,tails,List.tail_cons,List.headD_cons,Aa,Fa,Da,Vz,Ac];by_cases hlt:i<s.length
 ·obtain⟨c,hc⟩:∃c,s[i]?=some c:=⟨_,List.getElem?_eq_getElem hlt⟩;have htk:s.take (i+1)=s.take i++ [c]:=by rw[List.take_add_one,hc];rfl
  have hcut:=Bts hc;have hw:=wrapN (show i<1000000 by omega)
  have hsl:=O0 (s:=s) (i:=i) (j:=i+1) (by omega) (by omega)
  rw[hcut]at hsl;have hap:∀t:List UInt8,t.length≤4→(Av.bin .add 9 (.str (34::qsP (s.take i))) (.str t)).sem prog=some (.str (34::(qsP (s.take i)++t))):=fun t ht=>Yp (by simp only[List.length_cons];omega)
  have hfin:∀t,qB c=t→∃n',n'<s.length - i∧(0:Nat)=0∧∃i',([.str (34::(qsP (s.take i)++t)),.int .i64 ((i+1:Nat):Int)]:List D)= [.str (34::qsP (s.take i')),.int .i64 (i':Int)]∧i'≤s.length∧n'=s.length - i':=fun t ht=>by
   refine⟨s.length - (i+1),by omega,rfl,i+1,?_,hlt,rfl⟩
   rw[htk,Br4,ht]
  have hx:∀d:UInt8,((c.toNat:Int) == (d.toNat:Int))=(c == d):=Be c;have hx34:((c.toNat:Int) == 34)=(c == 34):=hx 34;have hx92:((c.toNat:Int) == 92)=(c == 92):=hx 92;have hx10:((c.toNat:Int) == 10)=(c == 10):=hx 10;have hx9:((c.toNat:Int) == 9)=(c == 9):=hx 9;have hc256:=c.toNat_lt;have hd1:=Bt5 (q:=c.toNat / 16) (by omega)
  have hd2:=Bt5 (q:=c.toNat % 16) (by omega)
  have ha1:=Btj (n:=c.toNat / 16) (by omega)
  have ha2:=Btj (n:=c.toNat % 16) (by omega)
  have hs1:∀a b:UInt8,(Av.bin .add 9 (.str [a]) (.str [b])).sem prog=some (.str [a,b]):=fun a b=>Yp (by simp)
  have hs2:∀a b d:UInt8,(Av.bin .add 9 (.str [a,b]) (.str [d])).sem prog=some (.str [a,b,d]):=fun a b d=>Yp (by simp)
  have hs3:∀a b d e:UInt8,(Av.bin .add 9 (.str [a,b,d]) (.str [e])).sem prog=some (.str [a,b,d,e]):=fun a b d e=>Yp (by simp)
  simp only[hlt,decide_true,if_true,D5 hc,En,hx34,hx92,hx10,hx9,Aa,Ac,Bt,hw,hsl,hs1,hs2,hs3,hap [92,c] (by simp),hap [92,110] (by simp),hap [92,116] (by simp),hap [c] (by simp),Bwo,Bwm,ha1,ha2,hd1,hd2,hap [92,120,hxB (c.toNat / 16),hxB (c.toNat % 16)] (by simp),Da,Jt,Az]
  have hq:qB c=if c == 34 || c == 92 then[92,c]else if c == 10 then[92,110]else if c == 9 then[92,116]else if decide ((c.toNat:Int)<32) || decide (126<(c.toNat:Int))then[92,120,hxB (c.toNat / 16),hxB (c.toNat % 16)]else[c]:=rfl;cases e1:c == 34 with
  |true=>simp only[if_true];exact hfin _ (by rw[hq,e1];rfl)
  |false=>
  cases e2:c == 92 with
  |true=>simp only[BF,if_true];exact hfin _ (by rw[hq,e1,e2];rfl)
  |false=>
  cases e3:c == 10 with
  |true=>simp only[BF,if_true];exact hfin _ (by rw[hq,e1,e2,e3];rfl)
  |false=>
  cases e4:c == 9 with
  |true=>simp only[BF,if_true];exact hfin _ (by rw[hq,e1,e2,e3,e4];rfl)
  |false=>
  cases e5:decide ((c.toNat:Int)<32)with
  |true=>simp only[BF,if_true];exact hfin _ (by rw[hq,e1,e2,e3,e4,e5];rfl)
  |false=>
  cases e6:decide (126<(c.toNat:Int))with
  |true=>simp only[BF,if_true];exact hfin _ (by rw[hq,e1,e2,e3,e4,e5,e6];rfl)
  |false=>simp only[BF];exact hfin _ (by rw[hq,e1,e2,e3,e4,e5,e6];rfl)
 ·have hie:i=s.length:=by omega
  subst hie;rw[List.take_length]at*;have hap:(Av.bin .add 9 (.str (34::qsP s)) (.str [34])).sem prog=some (.str (34::(qsP s++ [34]))):=Yp (by simp only[List.length_cons,List.length_nil];omega)
  simp only[hlt,decide_false,BF,hap,Ab];exact Bf rfl
theorem Bys(n:Nat)(hn:n≤1000)(h41:∀m:Nat,m<n→Ao cf 41 [.int .i64 (m:Int)] (.str (P7 m))):Ao (run C1 cf N) 41 [.int .i64 (n:Int)] (.str (P7 n)):=by
 refine Cg hK func41 bdy rfl rfl rfl (Bv4 _) ?_;simp only[Aa,Da,Ac];by_cases h:n<10
 ·rw[if_pos (decide_eq_true (by omega))]
  have hmx:(Av.mx (.int .i64 (n:Int)) [.int .i64 0]).sem prog=some (.int .i64 (n:Int)):=by rw[Bdz,if_neg (by omega)]
  have hu:((48+n:Nat):Int)=((UInt8.ofNat (48+n)).toNat:Int):=by rw[UInt8.toNat_ofNat',Nat.mod_eq_of_lt (by omega)]
  have hcv:=Akb [UInt8.ofNat (48+n)] .exact;rw[show bR [UInt8.ofNat (48+n)]= [[.int .u8 ((48+n:Nat):Int)]]from by rw[hu];rfl]at hcv
  have hsl:(Av.slim (.int .u8 ((48+n:Nat):Int))).sem prog=some (.int .u8 ((48+n:Nat):Int)):=rfl;have hce:(Av.cell (.int .u8 ((48+n:Nat):Int))).sem prog=some (.int .u8 ((48+n:Nat):Int)):=rfl;have hadd:(Av.bin .add 3 (.int .i64 48) (.int .i64 (n:Int))).sem prog=some (.int .i64 ((48+n:Nat):Int)):=by
   rw[Bt,Go.IntWalk.i64_in _ (by omega)]
   rfl
  simp only[hmx,Aa,hadd,Btx ((48+n:Nat):Int) (by omega),hsl,hce,hcv,Ab]
  rw[Bvy h];exact Bf rfl
 ·rw[if_neg (by simp;omega)]
  have hq:(Av.bin .quo 3 (.int .i64 (n:Int)) (.int .i64 10)).sem prog=some (.int .i64 ((n / 10:Nat):Int)):=by
   rw[Bek (by decide),Int.tdiv_eq_ediv_of_nonneg (by omega),Go.IntWalk.i64_in _ (by omega)]
   rfl
  have hr:(Av.bin .rem 3 (.int .i64 (n:Int)) (.int .i64 10)).sem prog=some (.int .i64 ((n % 10:Nat):Int)):=by
   show Ai (Op.intDiv .rem .i64 (n:Int) 10)=_;unfold Op.intDiv;rw[if_neg (by omega)]
   rfl
  simp only[hq];refine Aw rfl (h41 (n / 10) (by omega)) ?_
  simp only[Aa,hr];refine Aw rfl (h41 (n % 10) (by omega)) ?_
  have l1:=Br1 (n / 10);have l2:=Br1 (n % 10);simp only[Aa,Yp (a:=P7 (n / 10)) (b:=P7 (n % 10)) (by omega),Ab]
  rw[Bv8 (by omega) hn]
  exact Bf rfl
end
theorem Byr(x:Qy):gc (.agg (Br x)) 2= .bool (Bc5 x).2.1:=by cases x<;>rfl
theorem Bxv(x:Qy):gc (.agg (Br x)) 3= .str (Bc5 x).2.2.1:=by cases x<;>rfl
theorem Bx0(x:Qy):gc (.agg (Br x)) 4= .str (Bc5 x).2.2.2.1:=by cases x<;>rfl
theorem Byt(x:Qy):gc (.agg (Br x)) 5= .int .i64 (Bc5 x).2.2.2.2:=by cases x<;>rfl
theorem Bsd{a b:List UInt8}(h:a.length+b.length<2000000):(Av.bin .add 9 (.str a) (.str b)).sem prog=some (.str (a++b)):=Yp h
theorem Bxu{k:Int}(h:k=3∨k=4∨k=5):(Av.bin .sub 3 (.int .i64 k) (.int .i64 3)).sem prog=some (.int .i64 (k - 3))∧(Av.ia 48 (.sl [[.str [32,43,32]],[.str [32,94,32]],[.str [32,45,32]]] .exact) (.int .i64 (k - 3))).sem prog=some (.eptr [.str [32,sgB k,32]]):=by
 have hq:∀(i:Nat) (t:List UInt8),([[32,43,32],[32,94,32],[32,45,32]]:List (List UInt8))[i]?=some t→(Av.ia 48 (.sl [[.str [32,43,32]],[.str [32,94,32]],[.str [32,45,32]]] .exact) (.int .i64 (i:Int))).sem prog=some (.eptr [.str t]):=fun i t ht=>Yc (l:= [[32,43,32],[32,94,32],[32,45,32]]) ht;refine⟨?_,?_⟩
 ·rw[Ack,Go.IntWalk.i64_in _ (by omega)]
 ·rcases h with rfl|rfl|rfl
  ·exact hq 0 _ rfl
  ·exact hq 1 _ rfl
  ·exact hq 2 _ rfl
theorem Bov(x:Qy)(n:Int):Eb Jf [.agg (Br x),.int .i64 n]=some [.agg (Br x),.int .i64 n]:=by simp only[Eb,Md];rfl
theorem Bsj(w a b:List UInt8):Eb Jf [.str w,.sl [[.str a],[.str b]] .exact]=some [.str w,.sl (Lf [a,b]) .none]:=rfl
theorem Bub(w a:List UInt8):Eb Jf [.str w,.sl [[.str a]] .exact]=some [.str w,.sl (Lf [a]) .none]:=rfl
section
variable{cf:Ah}{N:Nat}(hK:∀f,Ba (cf f))
include hK
set_option maxHeartbeats 2000000 in
theorem Bym(x:Qy)(hx:Brq x)(hl:plQ 4 30 x≤13600)(hn1:plQ 1 0 x≤400)(h32:∀(r:Bool) (ln:List UInt8),ln.length<1000000→Ao cf 32 [.agg [.bool r,.str ln]] (.str (Bqg r ln)))
  (h33:∀y∈L9 x,Ao cf 33 [.agg (Br y)] (.str (inP (Asy y) (Asz y))))(h34:∀y∈L9 x,Ao cf 34 [.agg (Br y)] (.str (inP (Asy y || Aud y) (Asz y))))
  (h35:∀(w:List UInt8) (l:List (List UInt8)),l.length≤2→w.length≤10→Bo0 l≤100000→Ao cf 35 [.str w,.sl (Lf l) .none] (.str (Btf w l)))
  (h36:∀(i:Nat) (y:Qy),(L9 x)[i]?=some y→Ao cf 36 [.agg (Br x),.int .i64 (i:Int)] (.str (Asz y)))
  (h37:∀n:Nat,n≤1000→Ao cf 37 [.int .i64 (n:Int)] (.str (P7 n)))(h38:∀t:List UInt8,t.length≤1000→Ao cf 38 [.str t] (.str (Bl9 t))):Ao (run C1 cf N) 13 [.agg (Br x)] (.str (Asz x)):=by
 refine Cg hK func13 bdy rfl rfl rfl (Bv1 _) ?_;have hpl:=Bmj x;cases x with
 |label a r ln=>
  simp only[Aa,Hl,Bq9,Byr,Bxv,Bx0,Byt,Bst,Bc5,En,Ac,Hm];rw[if_pos (by decide)]
  refine Aw rfl (h32 r ln (by simp only[plQ]at hl;omega)) ?_
  simp only[Ab];exact Bf rfl
 |var a nm=>
  simp only[Aa,Hl,Bq9,Byr,Bxv,Bx0,Byt,Bst,Bc5,En,Ac,Hm];rw[if_neg (by decide),if_pos (by decide)]
  simp only[plQ]at hl;simp only[Bsd (a:= [36]) (b:=nm) (by simp only[List.length_cons,List.length_nil];omega),Aa,Ab]
  exact Bf rfl
 |whole a=>
  simp only[Aa,Hl,Bq9,Byr,Bxv,Bx0,Byt,Bst,Bc5,En,Ac,Hm]
  repeat rw[if_neg (by decide)]
  rw[if_pos (by decide)]
  refine Aw (bs:= [.str A76,.sl (Lf []) .none]) rfl (h35 A76 [] (by simp) (by decide) (by decide)) ?_
  simp only[Ab];exact Bf rfl
 |lt a nm u v=>
  simp only[Aa,Hl,Bq9,Byr,Bxv,Bx0,Byt,Bst,Bc5,En,Ac,Hm]
  repeat rw[if_neg (by decide)]
  rw[if_pos (by decide)]
  have hu:=Bmj u;have hv:=Bmj v;simp only[plQ]at hl;simp only[Bsd (a:= [108,101,116,32]) (b:=nm) (by simp only[List.length_cons,List.length_nil];omega),Aa,Bsd (a:= [108,101,116,32]++nm) (b:= [32,61,32]) (by simp only[List.length_append,List.length_cons,List.length_nil];omega)]
  refine Aw (Bov _ _) (h36 0 u rfl) ?_;simp only[Aa,Bsd (a:= [108,101,116,32]++nm++ [32,61,32]) (b:=Asz u) (by simp only[List.length_append,List.length_cons,List.length_nil];omega),Bsd (a:= [108,101,116,32]++nm++ [32,61,32]++Asz u) (b:= [32,105,110,32]) (by simp only[List.length_append,List.length_cons,List.length_nil];omega)]
  refine Aw (Bov _ _) (h36 1 v rfl) ?_;simp only[Aa,Bsd (a:= [108,101,116,32]++nm++ [32,61,32]++Asz u++ [32,105,110,32]) (b:=Asz v) (by simp only[List.length_append,List.length_cons,List.length_nil];omega),Ab]
  rw[show Asz (.lt a nm u v)= [108,101,116,32]++nm++ [32,61,32]++Asz u++ [32,105,110,32]++Asz v from by simp[Asz,Ib,Vx]]
  exact Bf rfl
 |un k a nm n u=>
  have hu:=Bmj u;simp only[plQ]at hl hn1;have hN2:=Br1 n.toNat;rcases hx with⟨rfl,hn⟩|rfl|rfl|rfl
  ·simp only[Aa,Hl,Bq9,Byr,Bxv,Bx0,Byt,Bst,Bc5,En,Ac,Hm]
   repeat rw[if_neg (by decide)]
   rw[if_pos (by decide)]
   simp only[Aa,Lx,Ac];by_cases h0:0≤n
   ·obtain⟨m,rfl⟩:∃m:Nat,n=m:=⟨n.toNat,by omega⟩
    rw[if_pos (decide_eq_true h0)];refine Aw (Bov _ _) (h36 0 u rfl) ?_;refine Aw rfl (h37 m (by omega)) ?_
    simp only[Aa,Bt7,Btw];refine Aw (Bsj _ _ _) (h35 Aj1 [Asz u,P7 m] (by simp) (by decide) (by simp only[Bo0,List.foldr];rw[Int.toNat_natCast]at hN2;omega)) ?_
    simp only[Ab];rw[show Asz (.un 6 a nm (m:Int) u)=Btf Aj1 [Asz u,P7 m]from by simp[Asz,Btf,Bk1]]
    exact Bf rfl
   ·rw[if_neg (by simp;omega)]
    refine Aw (Bov _ _) (h36 0 u rfl) ?_;simp only[Aa,Bt7,Btw];refine Aw (Bub _ _) (h35 Aj1 [Asz u] (by simp) (by decide) (by simp only[Bo0,List.foldr];omega)) ?_
    simp only[Ab];rw[show Asz (.un 6 a nm n u)=Btf Aj1 [Asz u]from by simp[Asz,Btf,Bk1,h0]]
    exact Bf rfl
  ·simp only[Aa,Hl,Bq9,Byr,Bxv,Bx0,Byt,Bst,Bc5,En,Ac,Hm]
   repeat rw[if_neg (by decide)]
   rw[if_pos (by decide)]
   refine Aw (Bov _ _) (h36 0 u rfl) ?_;simp only[Aa,Bt7,Btw];refine Aw (Bub _ _) (h35 Abt [Asz u] (by simp) (by decide) (by simp only[Bo0,List.foldr];omega)) ?_
   simp only[Ab];rw[show Asz (.un 7 a nm n u)=Btf Abt [Asz u]from by simp[Asz,Btf,Bk1]]
   exact Bf rfl
  ·simp only[Aa,Hl,Bq9,Byr,Bxv,Bx0,Byt,Bst,Bc5,En,Ac,Hm]
   repeat rw[if_neg (by decide)]
   rw[if_pos (by decide)]
   refine Aw (Bov _ _) (h36 0 u rfl) ?_;simp only[Aa,Bt7,Btw];refine Aw (Bsj _ _ _) (h35 Ake [nm,Asz u] (by simp) (by decide) (by simp only[Bo0,List.foldr];omega)) ?_
   simp only[Ab];rw[show Asz (.un 10 a nm n u)=Btf Ake [nm,Asz u]from by simp[Asz,Btf,Bk1]]
   exact Bf rfl
  ·simp only[Aa,Hl,Bq9,Byr,Bxv,Bx0,Byt,Bst,Bc5,En,Ac,Hm]
   repeat rw[if_neg (by decide)]
   rw[if_pos (by decide)]
   have hq:=Bq4 nm;refine Aw rfl (h38 nm (by omega)) ?_
   refine Aw (Bov _ _) (h36 0 u rfl) ?_;simp only[Aa,Bt7,Btw];refine Aw (Bsj _ _ _) (h35 X5 [Bl9 nm,Asz u] (by simp) (by decide) (by simp only[Bo0,List.foldr];omega)) ?_
   simp only[Ab];rw[show Asz (.un 11 a nm n u)=Btf X5 [Bl9 nm,Asz u]from by simp[Asz,Btf,Bk1]]
   exact Bf rfl
 |bin k a u v=>
  have hu:=Bmj u;have hv:=Bmj v;have hiu:=Bq0 (Asy u) (Asz u);have hiv:=Bq0 (Asy v || Aud v) (Asz v);simp only[plQ]at hl;have hln:(Av.ln 27 (.sl ((L9 (.bin k a u v)).map Br) .none)).sem prog=some (.int .i64 2):=Ahj _ _;have hi0:=Amw (l:=L9 (.bin k a u v)) (g:= .none) (i:=0) (y:=u) rfl;have hi1:=Amw (l:=L9 (.bin k a u v)) (g:= .none) (i:=1) (y:=v) rfl;have hS:∀k',k'=3∨k'=4∨k'=5→k=k'→wp prog cf N (fun rs os=>Ck (.str (Asz (.bin k a u v))) rs)
    (.bind (.bin .sub 3 (.int .i64 k) (.int .i64 3)) fun x7=>
    .bind (.ia 48 (.sl [[(.str [32,43,32])],[(.str [32,94,32])],[(.str [32,45,32])]] .exact) x7) fun x8=>
    .bind (.ld 9 x8) fun x9=>
    .bind (.ia 27 (.sl ((L9 (.bin k a u v)).map Br) .none) i0) fun x10=>
    .bind (.ld 29 x10) fun x11=>
    .bind (.ia 27 (.sl ((L9 (.bin k a u v)).map Br) .none) i1) fun x12=>
    .bind (.ld 29 x12) fun x13=>
    .call 33 [] [x11] [] fun x14=>
    .bind (.bin .add 9 x14 x9) fun x15=>
    .call 34 [] [x13] [] fun x16=>
    .bind (.bin .add 9 x15 x16) fun x17=>
    .leaf [x17] []) []:=fun k' hk' e=>by
   subst e;obtain⟨s1,s2⟩:=Bxu hk';have hb:Bmf k=true:=by rcases hk' with rfl|rfl|rfl<;>rfl
   have hi0':(Av.ia 27 (.sl ((L9 (.bin k a u v)).map Br) .none) i0).sem prog=some (.eptr (Br u)):=hi0;have hi1':(Av.ia 27 (.sl ((L9 (.bin k a u v)).map Br) .none) i1).sem prog=some (.eptr (Br v)):=hi1;simp only[Aa,s1,s2,Tc,hi0',hi1',Anv];refine Aw (A2a (Md u)) (h33 u (by simp[L9])) ?_
   simp only[Aa,Bsd (a:=inP (Asy u) (Asz u)) (b:= [32,sgB k,32]) (by simp only[List.length_cons,List.length_nil];omega)]
   refine Aw (A2a (Md v)) (h34 v (by simp[L9])) ?_
   simp only[Aa,Bsd (a:=inP (Asy u) (Asz u)++ [32,sgB k,32]) (b:=inP (Asy v || Aud v) (Asz v)) (by simp only[List.length_append,List.length_cons,List.length_nil];omega),Ab]
   rw[show Asz (.bin k a u v)=inP (Asy u) (Asz u)++ [32,sgB k,32]++inP (Asy v || Aud v) (Asz v)from by simp[Asz,hb]]
   exact Bf rfl
  have hln2:∀t f:Prop,True:=fun _ _=>trivial;rcases hx with rfl|rfl|rfl|rfl|rfl
  ·simp only[Aa,Hl,Bq9,Byr,Bxv,Bx0,Byt,Bst,Bc5,En,Ac,Hm]
   repeat rw[if_neg (by decide)]
   rw[if_pos (by decide)]
   simp only[Aa,hln,Nn,Ac];rw[if_neg (by decide)]
   have:=hS 3 (by decide) rfl
   simp only[Aa]at this;exact this
  ·simp only[Aa,Hl,Bq9,Byr,Bxv,Bx0,Byt,Bst,Bc5,En,Ac,Hm]
   repeat rw[if_neg (by decide)]
   rw[if_pos (by decide)]
   simp only[Aa,hln,Nn,Ac];rw[if_neg (by decide)]
   have:=hS 4 (by decide) rfl
   simp only[Aa]at this;exact this
  ·simp only[Aa,Hl,Bq9,Byr,Bxv,Bx0,Byt,Bst,Bc5,En,Ac,Hm]
   repeat rw[if_neg (by decide)]
   rw[if_pos (by decide)]
   simp only[Aa,hln,Nn,Ac];rw[if_neg (by decide)]
   have:=hS 5 (by decide) rfl
   simp only[Aa]at this;exact this
  ·simp only[Aa,Hl,Bq9,Byr,Bxv,Bx0,Byt,Bst,Bc5,En,Ac,Hm]
   repeat rw[if_neg (by decide)]
   rw[if_pos (by decide)]
   refine Aw (Bov _ _) (h36 0 u rfl) ?_;refine Aw (Bov _ _) (h36 1 v rfl) ?_;simp only[Aa,Bt7,Btw];refine Aw (Bsj _ _ _) (h35 Afo [Asz u,Asz v] (by simp) (by decide) (by simp only[Bo0,List.foldr];omega)) ?_
   simp only[Ab];rw[show Asz (.bin 8 a u v)=Btf Afo [Asz u,Asz v]from by simp[Asz,Btf,Bk1,Bmf]]
   exact Bf rfl
  ·simp only[Aa,Hl,Bq9,Byr,Bxv,Bx0,Byt,Bst,Bc5,En,Ac,Hm]
   repeat rw[if_neg (by decide)]
   rw[if_pos (by decide)]
   refine Aw (Bov _ _) (h36 0 u rfl) ?_;refine Aw (Bov _ _) (h36 1 v rfl) ?_;simp only[Aa,Bt7,Btw];refine Aw (Bsj _ _ _) (h35 Zq [Asz u,Asz v] (by simp) (by decide) (by simp only[Bo0,List.foldr];omega)) ?_
   simp only[Ab];rw[show Asz (.bin 9 a u v)=Btf Zq [Asz u,Asz v]from by simp[Asz,Btf,Bk1,Bmf]]
   exact Bf rfl
end
def Bc3(x:Qy)(i:Nat)(y:Qy):List UInt8:=inP (Aud x && (Asy y || (decide (i=1) && Aud y))) (Asz y)
def ktQ:Qy→List (List UInt8)
 | .bin k a x y=> [Bc3 (.bin k a x y) 0 x,Bc3 (.bin k a x y) 1 y]
 | .lt _ _ x y=> [Asz x,Asz y]
 | .un _ _ _ _ x=> [Asz x]
 |_=> []
theorem Bxo(x:Qy):(ktQ x).length=(L9 x).length:=by cases x<;>rfl
theorem Bwd{x:Qy}{i:Nat}{y:Qy}(h:(L9 x)[i]?=some y):(ktQ x)[i]?=some (Bc3 x i y):=by
 cases x with
 |label a r ln=>cases h
 |var a nm=>cases h
 |whole a=>cases h
 |bin k a u v=>
  match i,h with
  |0,h=>cases h;rfl
  |1,h=>cases h;rfl
  |i+2,h=>cases h
 |lt a nm u v=>
  match i,h with
  |0,h=>cases h;rfl
  |1,h=>cases h;rfl
  |i+2,h=>cases h
 |un k a nm n u=>
  match i,h with
  |0,h=>cases h;rfl
  |i+1,h=>cases h
theorem Bxk{A B:Nat}{x y:Qy}(h:y∈L9 x):plQ A B y≤plQ A B x:=by
 cases x with
 |label a r ln=>cases h
 |var a nm=>cases h
 |whole a=>cases h
 |bin k a u v=>simp only[L9,List.mem_cons,List.not_mem_nil,or_false]at h;simp only[plQ];rcases h with rfl|rfl<;>omega
 |lt a nm u v=>simp only[L9,List.mem_cons,List.not_mem_nil,or_false]at h;simp only[plQ];rcases h with rfl|rfl<;>omega
 |un k a nm n u=>simp only[L9,List.mem_cons,List.not_mem_nil,or_false]at h;simp only[plQ];rcases h with rfl;omega
theorem Bwp{p:Qy→Prop}{x y:Qy}(h:y∈L9 x)(hx:Aem p x):Aem p y:=by
 cases x with
 |label a r ln=>cases h
 |var a nm=>cases h
 |whole a=>cases h
 |bin k a u v=>
  simp only[L9,List.mem_cons,List.not_mem_nil,or_false]at h;rcases h with rfl|rfl
  ·exact hx.2.1
  ·exact hx.2.2
 |lt a nm u v=>
  simp only[L9,List.mem_cons,List.not_mem_nil,or_false]at h;rcases h with rfl|rfl
  ·exact hx.2.1
  ·exact hx.2.2
 |un k a nm n u=>simp only[L9,List.mem_cons,List.not_mem_nil,or_false]at h;rcases h with rfl;exact hx.2
theorem Byb:Cx prog 48=some 9:=by kernel_rfl
theorem by9:Jm prog 9=some 16:=by kernel_rfl
theorem hz9:Kt prog 9 1=true:=by kernel_rfl
theorem Br7(t:List UInt8):(Av.app 48 .nilsl (.sl [[.str t]] .exact)).sem prog=some (.sl (Lf [t]) .none):=Amt Byb Ami by9 hz9 rfl rfl (by decide)
theorem Bwh{l:List (List UInt8)}{g:Gr}(t:List UInt8)(hne:l≠ [])(hl:l.length≤2):(Av.app1 48 (.sl (Lf l) g) (.sl [[.str t]] .exact)).sem prog=some (.sl (Lf (l++ [t])) .none):=by
 rw[Anb Byb Ami by9 hz9 rfl rfl (by decide) (fun x hx=>by obtain⟨t,_,rfl⟩:=List.mem_map.1 hx;rfl) (by simpa[Lf]using hne) (by simp[Lf];omega)]
 simp[Lf]
section
variable{cf:Ah}{N:Nat}(hK:∀f,Ba (cf f))
include hK
set_option maxHeartbeats 4000000 in
theorem By9(x:Qy)(hx:Aem Brq x)(hl:plQ 4 30 x≤13600)(hn1:plQ 1 0 x≤400)(hN:1000<N)(h14:∀y∈L9 x,Ao cf 14 [.agg (Br y)] (.str (Asz y)))(h39:∀k:Int,Ao cf 39 [.int .i64 k] (.str (sgS k)))
  (h40:∀(r:Bool) (ln:List UInt8),ln.length<1000000→Ao cf 40 [.agg [.bool r,.str ln]] (.str (Bqg r ln)))(h41:∀n:Nat,n≤1000→Ao cf 41 [.int .i64 (n:Int)] (.str (P7 n)))
  (h42:∀t:List UInt8,t.length≤1000→Ao cf 42 [.str t] (.str (Bl9 t))):Ao (run C1 cf N) 14 [.agg (Br x)] (.str (Asz x)):=by
 refine Cg hK func14 bdy rfl rfl rfl (Bv7 _) ?_;have hkl:=Aco x;simp only[Aa,Hl,Bc];refine⟨by simp,?_⟩
 refine wp_loop (fun n a ds=>(a=0∧ds= [.int .i64 0]∧n=(L9 x).length)∨(a=1∧∃(i:Nat) (gr:Gr) (g:D),0<i∧i≤(L9 x).length∧ds= [.sl (Lf ((ktQ x).take i)) gr,g,.int .i64 (i:Int)]∧n=(L9 x).length - i)) (L9 x).length (by omega) (.inl ⟨rfl,rfl,rfl⟩) ?_
 have hkid:∀(i:Nat) (y:Qy),(L9 x)[i]?=some y→Brq y∧(Asz y).length≤13600∧ktQ x≠ []∧(ktQ x).take (i+1)=(ktQ x).take i++ [Bc3 x i y]:=fun i y hy=>by
  have hm:=List.mem_of_getElem? hy;have h1:=Bmj y;have h2:=Bxk (A:=4) (B:=30) hm;refine⟨(Bwp hm hx).top,by omega,fun h=>?_,by rw[List.take_add_one,Bwd hy];rfl⟩
  have:=Bwd hy;rw[h]at this;cases this
 rintro n a ds (⟨rfl,rfl,rfl⟩|⟨rfl,i,gr,g,h0,hi,rfl,rfl⟩)
 ·simp only[Ca,hv,tails,List.tail_cons,List.headD_cons,Aa,Bst,Bq9,Ahj,List.length_map,Da,Ac];by_cases hlt:0<(L9 x).length
  ·obtain⟨y,hy⟩:∃y,(L9 x)[0]?=some y:=⟨_,List.getElem?_eq_getElem hlt⟩;obtain⟨ky,hpl,hne,htk⟩:=hkid 0 y hy;obtain⟨a1,a2⟩:=Btu hK (t:=Asz y) (by omega)
   have hia:(Av.ia 27 (.sl ((L9 x).map Br) .none) i0).sem prog=some (.eptr (Br y)):=Amw (i:=0) hy;have hadd:(Av.bin .add 3 i0 i1).sem prog=some (.int .i64 ((1:Nat):Int)):=by
    rw[Bt,Go.IntWalk.i64_in _ (by omega)]
    rfl
   have hfin:∀t,Bc3 x 0 y=t→∃n',n'<(L9 x).length∧((1:Nat)=0∧([.sl (Lf [t]) .none,.int .i64 0,.int .i64 ((1:Nat):Int)]:List D)= [.int .i64 0]∧n'=(L9 x).length∨(1:Nat)=1∧∃(i:Nat) (gr:Gr) (g:D),0<i∧i≤(L9 x).length∧([.sl (Lf [t]) .none,.int .i64 0,.int .i64 ((1:Nat):Int)]:List D)= [.sl (Lf ((ktQ x).take i)) gr,g,.int .i64 (i:Int)]∧n'=(L9 x).length - i):=fun t ht=>by
    refine⟨(L9 x).length - 1,by omega,.inr ⟨rfl,1,.none,.int .i64 0,by omega,hlt,?_,rfl⟩⟩
    rw[htk,ht];rfl
   rw[if_pos (decide_eq_true (show(0:Int)<((L9 x).length:Int) by omega))]
   simp only[hia,Aa,Anv];refine Aw (A2a (Md y)) (h14 y (List.mem_of_getElem? hy)) ?_;refine Aw rfl (h39 _) ?_;simp only[Aa,Ag7,Bu5 hx.top,Ac];cases hsx:Aud x with
   |false=>
    simp only[BF,Bt7,Btw,Br7,hadd,Aa,Bc,Az];refine⟨by simp,?_⟩
    exact hfin _ (by unfold Bc3;rw[hsx];rfl)
   |true=>
    simp only[if_true,hia,Bux,Buh,En,Bsm ky,Aa,Ac];cases hly:Asy y with
    |true=>
     simp only[if_true,a1,a2,Bt7,Btw,Br7,hadd,Aa,Bc,Az];refine⟨by simp,?_⟩
     exact hfin _ (by unfold Bc3;rw[hsx,hly];rfl)
    |false=>
     simp only[BF];rw[if_neg (by decide)]
     simp only[Bt7,Btw,Br7,hadd,Aa,Bc,Az];refine⟨by simp,?_⟩
     exact hfin _ (by unfold Bc3;rw[hsx,hly];rfl)
  ·rw[if_neg (show ¬ decide ((0:Int)<((L9 x).length:Int))=true from fun h=>hlt (by have:=of_decide_eq_true h;omega))]
   cases x with
   |label a r ln=>
    simp only[Byr,Bxv,Bc5,En,Aa,Ac];rw[if_pos (by decide)]
    refine Aw rfl (h40 r ln (by simp only[plQ]at hl;omega)) ?_
    simp only[Ab];exact Bf rfl
   |var a nm=>
    simp only[plQ]at hl;simp only[Bx0,Bc5,En,Aa,Ac,Bsd (a:= [36]) (b:=nm) (by simp only[List.length_cons,List.length_nil];omega)]
    rw[if_neg (by decide),if_pos (by decide)]
    simp only[Ab];exact Bf rfl
   |whole a=>
    simp only[Bc5,En,Aa,Ac]
    repeat rw[if_neg (by decide)]
    simp only[Ab];exact Bf rfl
   |bin k a u v=>exact absurd (show 0<(L9 (.bin k a u v)).length by simp[L9]) hlt
   |lt a nm u v=>exact absurd (show 0<(L9 (.lt a nm u v)).length by simp[L9]) hlt
   |un k a nm n u=>exact absurd (show 0<(L9 (.un k a nm n u)).length by simp[L9]) hlt
 ·simp only[Ca,hv,tails,List.tail_cons,List.headD_cons,Aa,Bst,Bq9,Ahj,List.length_map,Da,Vz,Ac];by_cases hlt:i<(L9 x).length
  ·obtain⟨y,hy⟩:∃y,(L9 x)[i]?=some y:=⟨_,List.getElem?_eq_getElem hlt⟩;obtain⟨ky,hpl,hne,htk⟩:=hkid i y hy;obtain⟨a1,a2⟩:=Btu hK (t:=Asz y) (by omega)
   have hi1:i=1:=by omega
   subst hi1;have hia:(Av.ia 27 (.sl ((L9 x).map Br) .none) (.int .i64 ((1:Nat):Int))).sem prog=some (.eptr (Br y)):=Amw (i:=1) hy;have hadd:(Av.bin .add 3 (.int .i64 ((1:Nat):Int)) i1).sem prog=some (.int .i64 ((2:Nat):Int)):=by
    rw[Bt,Go.IntWalk.i64_in _ (by omega)]
    rfl
   have htl:(ktQ x).take 1≠ []:=fun h=>by
    cases hkt:ktQ x with
    |nil=>exact hne hkt
    |cons b l=>rw[hkt]at h;cases h
   have htl2:((ktQ x).take 1).length≤2:=by rw[List.length_take];omega
   have happ:=fun t=>Bwh (g:=gr) (l:=(ktQ x).take 1) t htl htl2;have hfin:∀t g',Bc3 x 1 y=t→∃n',n'<(L9 x).length - 1∧((1:Nat)=0∧([.sl (Lf ((ktQ x).take 1++ [t])) .none,g',.int .i64 ((2:Nat):Int)]:List D)= [.int .i64 0]∧n'=(L9 x).length∨(1:Nat)=1∧∃(i:Nat) (gr:Gr) (g:D),0<i∧i≤(L9 x).length∧([.sl (Lf ((ktQ x).take 1++ [t])) .none,g',.int .i64 ((2:Nat):Int)]:List D)= [.sl (Lf ((ktQ x).take i)) gr,g,.int .i64 (i:Int)]∧n'=(L9 x).length - i):=fun t g' ht=>by
    refine⟨(L9 x).length - 2,by omega,.inr ⟨rfl,2,.none,g',by omega,hlt,?_,rfl⟩⟩
    rw[htk,ht]
   rw[if_pos (decide_eq_true hlt)];simp only[hia,Aa,Anv];refine Aw (A2a (Md y)) (h14 y (List.mem_of_getElem? hy)) ?_;refine Aw rfl (h39 _) ?_;simp only[Aa,Ag7,Bu5 hx.top,Ac];cases hsx:Aud x with
   |false=>
    simp only[BF,Bt7,Btw,happ,hadd,Aa,Bc,Az];refine⟨by simp,by simp,?_⟩
    exact hfin _ _ (by unfold Bc3;rw[hsx];rfl)
   |true=>
    simp only[if_true,hia,Bux,Buh,En,Bsm ky,Aa,Ac];cases hly:Asy y with
    |true=>
     simp only[if_true,a1,a2,Bt7,Btw,happ,hadd,Aa,Bc,Az];refine⟨by simp,by simp,?_⟩
     exact hfin _ _ (by unfold Bc3;rw[hsx,hly];rfl)
    |false=>
     simp only[BF];rw[if_pos (by decide)]
     refine Aw rfl (h39 _) ?_;simp only[Aa,Ag7,Bu5 ky,Ac];cases hsy:Aud y with
     |true=>
      simp only[if_true,a1,a2,Bt7,Btw,happ,hadd,Aa,Bc,Az];refine⟨by simp,by simp,?_⟩
      exact hfin _ _ (by unfold Bc3;rw[hsx,hly,hsy];rfl)
     |false=>
      simp only[BF,Bt7,Btw,happ,hadd,Aa,Bc,Az];refine⟨by simp,by simp,?_⟩
      exact hfin _ _ (by unfold Bc3;rw[hsx,hly,hsy];rfl)
  ·rw[if_neg (by simp;omega)]
   have hie:i=(ktQ x).length:=by rw[Bxo];omega
   rw[hie,List.take_length];have hpx:=Bmj x;have hk0:∀t,(ktQ x)[0]?=some t→(Av.ia 48 (.sl (Lf (ktQ x)) gr) i0).sem prog=some (.eptr [.str t]):=fun t ht=>Yc (i:=0) ht;have hk1:∀t,(ktQ x)[1]?=some t→(Av.ia 48 (.sl (Lf (ktQ x)) gr) i1).sem prog=some (.eptr [.str t]):=fun t ht=>Yc (i:=1) ht;clear hie hkid;cases x with
   |label a r ln=>exact absurd hi (by simp[L9];omega)
   |var a nm=>exact absurd hi (by simp[L9];omega)
   |whole a=>exact absurd hi (by simp[L9];omega)
   |lt a nm u v=>
    have hu:=Bmj u;have hv:=Bmj v;simp only[plQ]at hl;have k0:=hk0 (Asz u) rfl;have k1:=hk1 (Asz v) rfl;simp only[Bx0,Bc5,En,Aa,Ac,k0,k1,Tc,Bsd (a:= [108,101,116,32]) (b:=nm) (by simp only[List.length_cons,List.length_nil];omega),Bsd (a:= [108,101,116,32]++nm) (b:= [32,61,32]) (by simp only[List.length_append,List.length_cons,List.length_nil];omega),Bsd (a:= [108,101,116,32]++nm++ [32,61,32]) (b:=Asz u) (by simp only[List.length_append,List.length_cons,List.length_nil];omega),Bsd (a:= [108,101,116,32]++nm++ [32,61,32]++Asz u) (b:= [32,105,110,32]) (by simp only[List.length_append,List.length_cons,List.length_nil];omega),Bsd (a:= [108,101,116,32]++nm++ [32,61,32]++Asz u++ [32,105,110,32]) (b:=Asz v) (by simp only[List.length_append,List.length_cons,List.length_nil];omega)]
    repeat rw[if_neg (by decide)]
    rw[if_pos (by decide)]
    simp only[Ab];rw[show Asz (.lt a nm u v)= [108,101,116,32]++nm++ [32,61,32]++Asz u++ [32,105,110,32]++Asz v from by simp[Asz,Ib,Vx]]
    exact Bf rfl
   |un k a nm n u=>
    have hu:=Bmj u;simp only[plQ]at hl hn1;have hN2:=Br1 n.toNat;have k0:=hk0 (Asz u) rfl;have hb:∀a b:List UInt8,a.length≤500000→b.length≤500000→(Av.bin .add 9 (.str a) (.str b)).sem prog=some (.str (a++b)):=fun a b ha hb=>Bsd (by omega)
    rcases hx.1 with⟨rfl,hn⟩|rfl|rfl|rfl
    ·have c1:=hb [100,101,112,115,40] (Asz u) (by simp) (by omega)
     simp only[Bx0,Byt,Bc5,En,Lx,Aa,Ac,k0,Tc,c1]
     repeat rw[if_neg (by decide)]
     rw[if_pos (by decide)]
     by_cases h0:0≤n
     ·obtain⟨m,rfl⟩:∃m:Nat,n=m:=⟨n.toNat,by omega⟩
      rw[if_pos (decide_eq_true h0)];rw[Int.toNat_natCast]at hN2;have c2:=hb ([100,101,112,115,40]++Asz u) [44,32] (by simp only[List.length_append,List.length_cons,List.length_nil];omega) (by simp)
      have c3:=hb ([100,101,112,115,40]++Asz u++ [44,32]) (P7 m) (by simp only[List.length_append,List.length_cons,List.length_nil];omega) (by omega)
      have c4:=hb ([100,101,112,115,40]++Asz u++ [44,32]++P7 m) [41] (by simp only[List.length_append,List.length_cons,List.length_nil];omega) (by simp)
      simp only[c2];refine Aw rfl (h41 m (by omega)) ?_
      simp only[Aa,c3,c4,Ab];rw[show Asz (.un 6 a nm (m:Int) u)= [100,101,112,115,40]++Asz u++ [44,32]++P7 m++ [41]from by simp[Asz,Aj1]]
      exact Bf rfl
     ·rw[if_neg (by simp;omega)]
      have c2:=hb ([100,101,112,115,40]++Asz u) [41] (by simp only[List.length_append,List.length_cons,List.length_nil];omega) (by simp)
      simp only[c2,Ab];rw[show Asz (.un 6 a nm n u)= [100,101,112,115,40]++Asz u++ [41]from by simp[Asz,Aj1,h0]]
      exact Bf rfl
    ·have c1:=hb [114,100,101,112,115,40] (Asz u) (by simp) (by omega)
     have c2:=hb ([114,100,101,112,115,40]++Asz u) [41] (by simp only[List.length_append,List.length_cons,List.length_nil];omega) (by simp)
     simp only[Bx0,Byt,Bc5,En,Aa,Ac,k0,Tc,c1,c2]
     repeat rw[if_neg (by decide)]
     rw[if_pos (by decide)]
     simp only[Ab];rw[show Asz (.un 7 a nm n u)= [114,100,101,112,115,40]++Asz u++ [41]from by simp[Asz,Abt]]
     exact Bf rfl
    ·have c1:=hb [107,105,110,100,40] nm (by simp) (by omega)
     have c2:=hb ([107,105,110,100,40]++nm) [44,32] (by simp only[List.length_append,List.length_cons,List.length_nil];omega) (by simp)
     have c3:=hb ([107,105,110,100,40]++nm++ [44,32]) (Asz u) (by simp only[List.length_append,List.length_cons,List.length_nil];omega) (by omega)
     have c4:=hb ([107,105,110,100,40]++nm++ [44,32]++Asz u) [41] (by simp only[List.length_append,List.length_cons,List.length_nil];omega) (by simp)
     simp only[Bx0,Byt,Bc5,En,Aa,Ac,k0,Tc,c1,c2,c3,c4]
     repeat rw[if_neg (by decide)]
     rw[if_pos (by decide)]
     simp only[Ab];rw[show Asz (.un 10 a nm n u)= [107,105,110,100,40]++nm++ [44,32]++Asz u++ [41]from by simp[Asz,Ake]]
     exact Bf rfl
    ·have hq:=Bq4 nm;simp only[Bx0,Byt,Bc5,En,Aa,Ac,k0,Tc]
     repeat rw[if_neg (by decide)]
     rw[if_pos (by decide)]
     have c1:=hb [102,105,108,116,101,114,40] (Bl9 nm) (by simp) (by omega)
     have c2:=hb ([102,105,108,116,101,114,40]++Bl9 nm) [44,32] (by simp only[List.length_append,List.length_cons,List.length_nil];omega) (by simp)
     have c3:=hb ([102,105,108,116,101,114,40]++Bl9 nm++ [44,32]) (Asz u) (by simp only[List.length_append,List.length_cons,List.length_nil];omega) (by omega)
     have c4:=hb ([102,105,108,116,101,114,40]++Bl9 nm++ [44,32]++Asz u) [41] (by simp only[List.length_append,List.length_cons,List.length_nil];omega) (by simp)
     refine Aw rfl (h42 nm (by omega)) ?_
     simp only[Aa,c1,c2,c3,c4,Ab];rw[show Asz (.un 11 a nm n u)= [102,105,108,116,101,114,40]++Bl9 nm++ [44,32]++Asz u++ [41]from by simp[Asz,X5]]
     exact Bf rfl
   |bin k a u v=>
    have hu:=Bmj u;have hv:=Bmj v;simp only[plQ]at hl;have hb:∀a b:List UInt8,a.length≤500000→b.length≤500000→(Av.bin .add 9 (.str a) (.str b)).sem prog=some (.str (a++b)):=fun a b ha hb=>Bsd (by omega)
    have k0:=hk0 (Bc3 (.bin k a u v) 0 u) rfl;have k1:=hk1 (Bc3 (.bin k a u v) 1 v) rfl;have l0:(Bc3 (.bin k a u v) 0 u).length≤(Asz u).length+2:=Bq0 _ _;have l1:(Bc3 (.bin k a u v) 1 v).length≤(Asz v).length+2:=Bq0 _ _;rcases hx.1 with rfl|rfl|rfl|rfl|rfl
    ·have c1:=hb (Bc3 (.bin 3 a u v) 0 u) (sgS 3) (by omega) (by decide)
     have c2:=hb (Bc3 (.bin 3 a u v) 0 u++sgS 3) (Bc3 (.bin 3 a u v) 1 v) (by rw[List.length_append,show(sgS 3).length=3 from rfl];omega) (by omega)
     simp only[Bc5,En,Aa,Ac,k0,k1,Tc]
     repeat rw[if_neg (by decide)]
     rw[if_pos (by decide)]
     refine Aw rfl (h39 3) ?_;simp only[Aa,c1,c2,Ab];rw[show Asz (.bin 3 a u v)=Bc3 (.bin 3 a u v) 0 u++sgS 3++Bc3 (.bin 3 a u v) 1 v from by simp[Asz,Bc3,Aud,Bmf,sgS,sgB]]
     exact Bf rfl
    ·have c1:=hb (Bc3 (.bin 4 a u v) 0 u) (sgS 4) (by omega) (by decide)
     have c2:=hb (Bc3 (.bin 4 a u v) 0 u++sgS 4) (Bc3 (.bin 4 a u v) 1 v) (by rw[List.length_append,show(sgS 4).length=3 from rfl];omega) (by omega)
     simp only[Bc5,En,Aa,Ac,k0,k1,Tc]
     repeat rw[if_neg (by decide)]
     rw[if_pos (by decide)]
     refine Aw rfl (h39 4) ?_;simp only[Aa,c1,c2,Ab];rw[show Asz (.bin 4 a u v)=Bc3 (.bin 4 a u v) 0 u++sgS 4++Bc3 (.bin 4 a u v) 1 v from by simp[Asz,Bc3,Aud,Bmf,sgS,sgB]]
     exact Bf rfl
    ·have c1:=hb (Bc3 (.bin 5 a u v) 0 u) (sgS 5) (by omega) (by decide)
     have c2:=hb (Bc3 (.bin 5 a u v) 0 u++sgS 5) (Bc3 (.bin 5 a u v) 1 v) (by rw[List.length_append,show(sgS 5).length=3 from rfl];omega) (by omega)
     simp only[Bc5,En,Aa,Ac,k0,k1,Tc]
     repeat rw[if_neg (by decide)]
     rw[if_pos (by decide)]
     refine Aw rfl (h39 5) ?_;simp only[Aa,c1,c2,Ab];rw[show Asz (.bin 5 a u v)=Bc3 (.bin 5 a u v) 0 u++sgS 5++Bc3 (.bin 5 a u v) 1 v from by simp[Asz,Bc3,Aud,Bmf,sgS,sgB]]
     exact Bf rfl
    ·have e0:Bc3 (.bin 8 a u v) 0 u=Asz u:=rfl;have e1:Bc3 (.bin 8 a u v) 1 v=Asz v:=rfl;rw[e0]at k0;rw[e1]at k1;have c1:=hb [115,111,109,101,112,97,116,104,40] (Asz u) (by simp) (by omega)
     have c2:=hb ([115,111,109,101,112,97,116,104,40]++Asz u) [44,32] (by simp only[List.length_append,List.length_cons,List.length_nil];omega) (by simp)
     have c3:=hb ([115,111,109,101,112,97,116,104,40]++Asz u++ [44,32]) (Asz v) (by simp only[List.length_append,List.length_cons,List.length_nil];omega) (by omega)
     have c4:=hb ([115,111,109,101,112,97,116,104,40]++Asz u++ [44,32]++Asz v) [41] (by simp only[List.length_append,List.length_cons,List.length_nil];omega) (by simp)
     simp only[Bc5,En,Aa,Ac,k0,k1,Tc,c1,c2,c3,c4]
     repeat rw[if_neg (by decide)]
     rw[if_pos (by decide)]
     simp only[Ab];rw[show Asz (.bin 8 a u v)= [115,111,109,101,112,97,116,104,40]++Asz u++ [44,32]++Asz v++ [41]from by simp[Asz,Bmf,Afo]]
     exact Bf rfl
    ·have e0:Bc3 (.bin 9 a u v) 0 u=Asz u:=rfl;have e1:Bc3 (.bin 9 a u v) 1 v=Asz v:=rfl;rw[e0]at k0;rw[e1]at k1;have c1:=hb [97,108,108,112,97,116,104,115,40] (Asz u) (by simp) (by omega)
     have c2:=hb ([97,108,108,112,97,116,104,115,40]++Asz u) [44,32] (by simp only[List.length_append,List.length_cons,List.length_nil];omega) (by simp)
     have c3:=hb ([97,108,108,112,97,116,104,115,40]++Asz u++ [44,32]) (Asz v) (by simp only[List.length_append,List.length_cons,List.length_nil];omega) (by omega)
     have c4:=hb ([97,108,108,112,97,116,104,115,40]++Asz u++ [44,32]++Asz v) [41] (by simp only[List.length_append,List.length_cons,List.length_nil];omega) (by simp)
     simp only[Bc5,En,Aa,Ac,k0,k1,Tc,c1,c2,c3,c4]
     repeat rw[if_neg (by decide)]
     rw[if_pos (by decide)]
     simp only[Ab];rw[show Asz (.bin 9 a u v)= [97,108,108,112,97,116,104,115,40]++Asz u++ [44,32]++Asz v++ [41]from by simp[Asz,Bmf,Zq]]
     exact Bf rfl
end
theorem Bs1{cf:Ah}{N:Nat}{f:FuncId}{fn:Func}{c:Code}{args:List D}{st:St}{t:List UInt8}(hfn:prog.funcs[f]?=some fn)(hb:fn.body=some c)(hh:C1.hnd.contains f=false)(hk:C1.keepArr.contains f=false)(hk2:C1.keepNil.contains f=false)
  (h:ExO C1 false (C1.ords f) cf N (fun id=>st.length≤id) c (args++List.replicate (fn.ntmps - args.length) .undef) st (fun y e' st'=>y= .ret∧Gm C1.P e' st' fn.results.toList=some [.str t]∧∃more,st'=st++more)):run C1 cf N f args st=some (.str t,st,[]):=by
 obtain⟨y,e',st',V,h1,h2,rfl,h3,more,rfl⟩:=h.ex;have hfil:V.filter (· <st.length)= []:=by rw[List.filter_eq_nil_iff];intro id hid;have:=h2 id hid;simp;omega
 have hfin:finish st.length (.str t) (st++more) V=some (.str t,st,[]):=by rw[Rm rfl hfil];simp
 unfold run;have hP:C1.P=prog:=rfl;rw[hP,hfn];dsimp only;rw[hb];dsimp only;rw[hh,h1];dsimp only;rw[hP]at h3;rw[h3];dsimp only;have hz:Ls C1 f [.str t] (st++more)=some ([.str t],st++more):=by unfold Ls;rw[hk,hk2];rfl
 rw[hz];dsimp only;rw[Du];exact hfin
def GrB(n0:Nat)(gr:Gr)(st:St):Prop:=gr= .exact∨∃id gen,gr= .tok id gen∧n0≤id∧st[id]?=some (.tok gen)
theorem Bqf:Cx prog 39=some 5:=by kernel_rfl
theorem Bss:Bw prog 5=some 1:=by kernel_rfl
theorem Byk:Jm prog 5=some 1:=by kernel_rfl
theorem Byh:Kt prog 5 1=true:=by kernel_rfl
theorem Btb:zeroOf prog 5=some [.int .u8 0]:=by kernel_rfl
theorem Bxl:prog.underlying 39=some (.slice 5):=underlying39
theorem Bx1:prog.underlying 9=some .string:=underlying9
theorem Bwq(a b:List UInt8):bR (a++b)=bR a++bR b:=by simp[bR]
theorem Bte(a:List UInt8):(bR a).length=a.length:=by simp[bR]
theorem Byn{st0 st:St}{gr:Gr}(hgr:GrB st0.length gr st)(hst:∃more,st=st0++more){acc new:List UInt8}{x:D}(hx:rowsOf st x=some (bR new))(hnew:new≠ [])(hne:acc≠ [])(hlen:acc.length+new.length<2 ^ 30):
  ∃gr' st1 V,C8 prog false 39 (.sl (bR acc) gr) x st=some (.sl (bR (acc++new)) gr',st1,V)∧GrB st0.length gr' st1∧(∀id∈V,st0.length≤id)∧∃more,st1=st0++more:=by
 obtain⟨more,rfl⟩:=hst;have hall:∀a:List UInt8,(bR a).all (fun r=>r.length == 1)=true:=fun a=>List.all_eq_true.2 fun r hr=>by simp[Avi a r hr]
 have hall2:∀a:List UInt8,(bR a).all (fun r=>r.length == 1 && r.all Al)=true:=fun a=>List.all_eq_true.2 fun r hr=>by obtain⟨b,_,rfl⟩:=List.mem_map.1 hr;rfl
 have hem:(bR new).isEmpty=false:=by
  cases new with
  |nil=>exact absurd rfl hnew
  |cons b l=>rfl
 have hne2:(bR acc).isEmpty=false:=by
  cases acc with
  |nil=>exact absurd rfl hne
  |cons b l=>rfl
 have hb:(!(decide (((bR acc).length+(bR new).length)*1≤Dh) && decide ((bR acc).length+(bR new).length≤Dh) && (bR acc).all (fun r=>r.length == 1)))=false:=by
  rw[hall,Bte,Bte,decide_eq_true (by unfold Dh;omega),decide_eq_true (by unfold Dh;omega)]
  rfl
 rcases hgr with rfl|⟨id,gen,rfl,hid,hs⟩
 ·refine⟨.tok (st0++more).length 0,(st0++more)++ [.tok 0],[],?_,.inr ⟨_,0,rfl,by simp,by simp⟩,by simp,more++ [.tok 0],by simp⟩
  unfold C8;rw[Bqf];dsimp only;rw[Bss,Byk,hx];dsimp only;rw[hall2,Byh];simp only[Bool.and_self,if_true,hem,BF,hb,Bwq]
 ·have hil:id<(st0++more).length:=(List.getElem?_eq_some_iff.1 hs).1;refine⟨.tok id (gen+1),(st0++more).set id (.tok (gen+1)),[id],?_,.inr ⟨id,gen+1,rfl,hid,List.getElem?_set_self hil⟩,fun i hi=>(List.mem_singleton.1 hi).symm ▸ hid,?_⟩
  ·unfold C8;rw[Bqf];dsimp only;rw[Bss,Byk,hx];dsimp only;rw[hall2,Byh];simp only[Bool.and_self,if_true,hem,BF,hb,Bwq,hs,hne2,Bool.not_false,decide_true,Bool.true_and]
  ·exact⟨more.set (id - st0.length) (.tok (gen+1)),by rw[List.set_append_right _ _ hid]⟩
theorem blU{st:St}{ts:Array TypeId}{gr:Gr}{acc new:List UInt8}{x:D}{r:D × St × Cb}(ht:ts= #[39,39]∨ts= #[39,9])(h:C8 prog false 39 (.sl (bR acc) gr) x st=some r):Gn prog false .append ts [.sl (bR acc) gr,x] st=some r:=by
 rcases ht with rfl|rfl
 ·unfold Gn;dsimp only;rw[Bxl];exact h
 ·unfold Gn;dsimp only;rw[Bx1];exact h
theorem Byw:C1.ords 38 14=some (List.range 10,true):=by kernel_rfl
theorem Bxj:∀q:Fin 16,([48,49,50,51,52,53,54,55,56,57,97,98,99,100,101,102]:List UInt8)[q.val]?=some (hxB q.val):=by decide
theorem Bxs{s:List UInt8}{k:IntKind}{i:Nat}{c:UInt8}(h:s[i]?=some c):Qa prog 9 (.str s) (.int k (i:Int))=some (.int .u8 (c.toNat:Int),.pure):=by
 unfold Qa;rw[show E5 (.int k (i:Int))=some i from by simp[E5],Bx1]
 simp[h]
set_option maxHeartbeats 16000000 in
theorem Bzd{cf:Ah}{N:Nat}(s:List UInt8)(hs:s.length≤1000)(hN:1000<N):Ao (run C1 cf N) 38 [.str s] (.str (Bl9 s)):=fun st=>by
 have hP:C1.P=prog:=rfl;refine Bs1 func38 (bdy (by kernel_rfl)) rfl rfl rfl ?_
 generalize he:(([.str s]:List D)++List.replicate (f38.ntmps - ([.str s]:List D).length) .undef)=e;have hl:e.length=61:=by rw[← he];rfl
 have e0:e.getD 0 .undef= .str s:=by rw[← he];rfl
 clear he;refine Bj8 ?_;obtain⟨code,hcode⟩:∃code,code=strip (bd f38):=⟨_,rfl⟩;rw[← hcode];simp only[bd,f38,strip,Dl,List.map_toArray,MC]at hcode;subst hcode;have lnS:∀st,Ny prog 9 (.str s) st=some (.int .i64 (s.length:Int),.pure):=fun st=>rfl;have sp1:∀(st:St) (a:Int),Fs st [(0,.int .u8 a)]=some [(0,.int .u8 a)]:=fun _ _=>rfl;have sp2:∀(st:St) (a b:Int),Fs st [(0,.int .u8 a),(1,.int .u8 b)]=some [(0,.int .u8 a),(1,.int .u8 b)]:=fun _ _ _=>rfl;have sp4:∀(st:St) (a b c d:Int),Fs st [(0,.int .u8 a),(1,.int .u8 b),(2,.int .u8 c),(3,.int .u8 d)]=some [(0,.int .u8 a),(1,.int .u8 b),(2,.int .u8 c),(3,.int .u8 d)]:=fun _ _ _ _ _=>rfl
 repeat (first
  |refine A00 ?_|refine Asu ?_|refine Bkx ?_|refine Awr ?_|refine Avq ?_|refine Ay7 ?_|refine Bq (by decide) ?_|refine Eg rfl rfl ?_|refine Zc (by first|(simp;done)) ?_
  |((first|refine Ei rfl rfl rfl rfl ?_|refine Ee rfl rfl ?_|refine Ed rfl rfl ?_|refine Bni ?_);refine⟨_,by simp only[Bj,BB,Af,ev,Am,Ak,Ag,Gc,Ai,↓reduceIte,Nat.reduceEqDiff,Nat.reduceLT,Aj,hP,hl,e0,lnS,Bqf,Bss,Btb,sp1];first|done|rfl,?_⟩)
  |dsimp only)
 refine Awv (fun j e' st'=>∃(i:Nat) (gr:Gr),i≤s.length∧j=s.length - i∧(∃more,st'=st++more)∧GrB st.length gr st'∧e'.length=61∧e'.getD 0 .undef= .str s∧e'.getD 8 .undef= .int .i64 (s.length:Int)∧e'.getD 9 .undef= .int .i64 (i:Int)∧e'.getD 3 .undef= .sl (bR (34::qsP (s.take i))) gr) s.length (by omega) ⟨0,.exact,by omega,by omega,⟨[],by simp⟩,.inl rfl,?_,?_,?_,?_,?_⟩ ?_
 rotate_left 5
 rintro j e' st' ⟨i,gr,hi,rfl,hst,hgr,l',g0,g8,g9,g3⟩;have hql:=Bun (s.take i);rw[List.length_take]at hql;by_cases hik:i<s.length
 ·obtain⟨c,hc⟩:∃c,s[i]?=some c:=⟨_,List.getElem?_eq_getElem hik⟩;have htk:s.take (i+1)=s.take i++ [c]:=by rw[List.take_add_one,hc];rfl
  have r1:Bo prog .lss 3 (.int .i64 (i:Int)) (.int .i64 (s.length:Int))=some (.bool true):=by show some (D.bool (decide ((i:Int)<(s.length:Int))))=_;rw[decide_eq_true (by omega)]
  have r2:Qa prog 9 (.str s) (.int .i64 (i:Int))=some (.int .u8 (c.toNat:Int),.pure):=Bxs hc;have r3:Bo prog .add 3 (.int .i64 (i:Int)) (.int .i64 1)=some (.int .i64 ((i+1:Nat):Int)):=by
   show some (D.int .i64 (IntKind.i64.wrap ((i:Int)+1)))=_;rw[Go.IntWalk.i64_in _ (by omega)]
   rfl
  have hx:∀d:UInt8,((c.toNat:Int) == (d.toNat:Int))=(c == d):=Be c;have x34:Bo prog .eql 5 (.int .u8 (c.toNat:Int)) (.int .u8 34)=some (.bool (c == 34)):=congrArg (fun b=>some (D.bool b)) (hx 34);have x92:Bo prog .eql 5 (.int .u8 (c.toNat:Int)) (.int .u8 92)=some (.bool (c == 92)):=congrArg (fun b=>some (D.bool b)) (hx 92);have x10:Bo prog .eql 5 (.int .u8 (c.toNat:Int)) (.int .u8 10)=some (.bool (c == 10)):=congrArg (fun b=>some (D.bool b)) (hx 10);have x9:Bo prog .eql 5 (.int .u8 (c.toNat:Int)) (.int .u8 9)=some (.bool (c == 9)):=congrArg (fun b=>some (D.bool b)) (hx 9);have xl:Bo prog .lss 5 (.int .u8 (c.toNat:Int)) (.int .u8 32)=some (.bool (decide ((c.toNat:Int)<32))):=rfl;have xg:Bo prog .gtr 5 (.int .u8 (c.toNat:Int)) (.int .u8 126)=some (.bool (decide (126<(c.toNat:Int)))):=rfl;have hc256:=c.toNat_lt;have xq:Bo prog .quo 5 (.int .u8 (c.toNat:Int)) (.int .u8 16)=some (.int .u8 ((c.toNat / 16:Nat):Int)):=Bwo c;have xr:Bo prog .rem 5 (.int .u8 (c.toNat:Int)) (.int .u8 16)=some (.int .u8 ((c.toNat % 16:Nat):Int)):=Bwm c;have xi1:=Bxs (k:= .u8) (Bxj ⟨c.toNat / 16,by omega⟩)
  have xi2:=Bxs (k:= .u8) (Bxj ⟨c.toNat % 16,by omega⟩)
  dsimp only at xi1 xi2;have hq:qB c=if c == 34 || c == 92 then[92,c]else if c == 10 then[92,110]else if c == 9 then[92,116]else if decide ((c.toNat:Int)<32) || decide (126<(c.toNat:Int))then[92,120,hxB (c.toNat / 16),hxB (c.toNat % 16)]else[c]:=rfl;have hap:∀(new:List UInt8) (x:D),new≠ []→new.length≤4→rowsOf st' x=some (bR new)→∃gr' st1 V,C8 prog false 39 (.sl (bR (34::qsP (s.take i))) gr) x st'=some (.sl (bR (34::qsP (s.take i)++new)) gr',st1,V)∧GrB st.length gr' st1∧(∀id∈V,st.length≤id)∧∃more,st1=st++more:=fun new x hn hn4 hx=>Byn hgr hst hx hn (by simp) (by simp only[List.length_cons];omega)
  have hnew:∀new,qB c=new→bR (34::qsP (s.take i)++new)=bR (34::qsP (s.take (i+1))):=fun new h=>by rw[htk,Br4,h];rfl
  generalize hb1:(c == 34)=b1 at x34 hq;generalize hb2:(c == 92)=b2 at x92 hq;generalize hb3:(c == 10)=b3 at x10 hq;generalize hb4:(c == 9)=b4 at x9 hq;generalize hb5:decide ((c.toNat:Int)<32)=b5 at xl hq;generalize hb6:decide (126<(c.toNat:Int))=b6 at xg hq;have fin:∀(new:List UInt8) (x:D) (ts:Array TypeId),qB c=new→new≠ []→new.length≤4→rowsOf st' x=some (bR new)→(ts= #[39,39]∨ts= #[39,9])→∃gr' st1 V,Gn prog false .append ts [.sl (bR (34::qsP (s.take i))) gr,x] st'=some (.sl (bR (34::qsP (s.take (i+1)))) gr',st1,V)∧GrB st.length gr' st1∧(∀id∈V,st.length≤id)∧∃more,st1=st++more:=fun new x ts h1 h2 h3 h4 h5=>by obtain⟨gr',st1,V,a1,a2,a3,a4⟩:=hap new x h2 h3 h4;rw[hnew new h1]at a1;exact⟨gr',st1,V,blU (new:=new) h5 a1,a2,a3,a4⟩
  by_cases k1:(b1 || b2)=true
  ·obtain⟨gr',st1,V,up,hgr',hV,hst1⟩:=fin [92,c] (.sl [[.int .u8 92],[.int .u8 (c.toNat:Int)]] .exact) #[39,39] (by rw[hq,if_pos k1]) (by simp) (by simp) rfl (.inl rfl)
   cases b1<;>cases b2<;>first|(exact absurd k1 (by decide))|skip
   all_goals
    repeat (first
     |refine A00 ?_|refine Asu ?_|refine Bkx ?_|refine Awr ?_|refine Avq ?_|refine Ay7 ?_|refine Bq (by decide) ?_|refine Eg rfl rfl ?_|refine Zc (by first|exact hV|(simp;done)) ?_
     |((first|refine Ei rfl rfl rfl rfl ?_|refine Ee rfl rfl ?_|refine Ed rfl rfl ?_|refine Bni ?_);refine⟨_,by simp only[Bj,BB,Af,ev,Am,Ak,Ag,Gc,Ai,↓reduceIte,Nat.reduceEqDiff,Nat.reduceLT,Aj,hP,l',g0,g3,g8,g9,Bqf,Bss,Btb,sp1,sp2,r1,r2,r3,x34,x92];first|done|rfl|exact up,?_⟩)
     |dsimp only)
    refine⟨s.length - (i+1),by omega,i+1,gr',by omega,rfl,hst1,hgr',?_,?_,?_,?_,?_⟩
    all_goals simp only[BB,Am,l',Nat.reduceEqDiff,↓reduceIte,Nat.reduceLT,g0,g8]
  obtain⟨rfl,rfl⟩:b1=false∧b2=false:=by cases b1<;>cases b2<;>simp at k1 ⊢
  cases b3 with
  |true=>
   obtain⟨gr',st1,V,up,hgr',hV,hst1⟩:=fin [92,110] (.str [92,110]) #[39,9] hq (by simp) (by simp) rfl (.inr rfl)
   repeat (first
    |refine A00 ?_|refine Asu ?_|refine Bkx ?_|refine Awr ?_|refine Avq ?_|refine Ay7 ?_|refine Bq (by decide) ?_|refine Eg rfl rfl ?_|refine Zc (by first|exact hV|(simp;done)) ?_
    |((first|refine Ei rfl rfl rfl rfl ?_|refine Ee rfl rfl ?_|refine Ed rfl rfl ?_|refine Bni ?_);refine⟨_,by simp only[Bj,BB,Af,ev,Am,Ak,Ag,Gc,Ai,↓reduceIte,Nat.reduceEqDiff,Nat.reduceLT,Aj,hP,l',g0,g3,g8,g9,Bqf,Bss,Btb,sp1,sp2,r1,r2,r3,x34,x92,x10];first|done|rfl|exact up,?_⟩)
    |dsimp only)
   refine⟨s.length - (i+1),by omega,i+1,gr',by omega,rfl,hst1,hgr',?_,?_,?_,?_,?_⟩
   all_goals simp only[BB,Am,l',Nat.reduceEqDiff,↓reduceIte,Nat.reduceLT,g0,g8]
  |false=>
  cases b4 with
  |true=>
   obtain⟨gr',st1,V,up,hgr',hV,hst1⟩:=fin [92,116] (.str [92,116]) #[39,9] hq (by simp) (by simp) rfl (.inr rfl)
   repeat (first
    |refine A00 ?_|refine Asu ?_|refine Bkx ?_|refine Awr ?_|refine Avq ?_|refine Ay7 ?_|refine Bq (by decide) ?_|refine Eg rfl rfl ?_|refine Zc (by first|exact hV|(simp;done)) ?_
    |((first|refine Ei rfl rfl rfl rfl ?_|refine Ee rfl rfl ?_|refine Ed rfl rfl ?_|refine Bni ?_);refine⟨_,by simp only[Bj,BB,Af,ev,Am,Ak,Ag,Gc,Ai,↓reduceIte,Nat.reduceEqDiff,Nat.reduceLT,Aj,hP,l',g0,g3,g8,g9,Bqf,Bss,Btb,sp1,sp2,r1,r2,r3,x34,x92,x10,x9];first|done|rfl|exact up,?_⟩)
    |dsimp only)
   refine⟨s.length - (i+1),by omega,i+1,gr',by omega,rfl,hst1,hgr',?_,?_,?_,?_,?_⟩
   all_goals simp only[BB,Am,l',Nat.reduceEqDiff,↓reduceIte,Nat.reduceLT,g0,g8]
  |false=>
  by_cases k5:(b5 || b6)=true
  ·obtain⟨gr',st1,V,up,hgr',hV,hst1⟩:=fin [92,120,hxB (c.toNat / 16),hxB (c.toNat % 16)] (.sl [[.int .u8 92],[.int .u8 120],[.int .u8 ((hxB (c.toNat / 16)).toNat:Int)],[.int .u8 ((hxB (c.toNat % 16)).toNat:Int)]] .exact) #[39,39] (by rw[hq,if_pos k5];rfl) (by simp) (by simp) rfl (.inl rfl)
   cases b5<;>cases b6<;>first|(exact absurd k5 (by decide))|skip
   all_goals
    repeat (first
     |refine A00 ?_|refine Asu ?_|refine Bkx ?_|refine Awr ?_|refine Avq ?_|refine Ay7 ?_|refine Bq (by decide) ?_|refine Eg rfl rfl ?_|refine Axw ?_|refine Bn3 rfl rfl ?_|refine Blq Byw ?_|refine Zc (by first|exact hV|(simp;done)) ?_
     |((first|refine Ei rfl rfl rfl rfl ?_|refine Ee rfl rfl ?_|refine Ed rfl rfl ?_|refine Bm5 rfl rfl rfl rfl ?_|refine Bnn rfl rfl ?_|refine Bnt rfl rfl ?_|refine Bni ?_);refine⟨_,by simp only[Bj,BB,Af,ev,Am,Ak,Ag,Gc,Ai,↓reduceIte,Nat.reduceEqDiff,Nat.reduceLT,Aj,hP,l',g0,g3,g8,g9,Bqf,Bss,Btb,sp1,sp2,sp4,r1,r2,r3,x34,x92,x10,x9,xl,xg,xq,xr,xi1,xi2];first|done|rfl|exact up,?_⟩)
     |dsimp only)
    refine⟨s.length - (i+1),by omega,i+1,gr',by omega,rfl,hst1,hgr',?_,?_,?_,?_,?_⟩
    all_goals simp only[BB,Am,l',Nat.reduceEqDiff,↓reduceIte,Nat.reduceLT,g0,g8]
  obtain⟨rfl,rfl⟩:b5=false∧b6=false:=by cases b5<;>cases b6<;>simp at k5 ⊢
  obtain⟨gr',st1,V,up,hgr',hV,hst1⟩:=fin [c] (.sl [[.int .u8 (c.toNat:Int)]] .exact) #[39,39] hq (by simp) (by simp) rfl (.inl rfl)
  repeat (first
   |refine A00 ?_|refine Asu ?_|refine Bkx ?_|refine Awr ?_|refine Avq ?_|refine Ay7 ?_|refine Bq (by decide) ?_|refine Eg rfl rfl ?_|refine Zc (by first|exact hV|(simp;done)) ?_
   |((first|refine Ei rfl rfl rfl rfl ?_|refine Ee rfl rfl ?_|refine Ed rfl rfl ?_|refine Bni ?_);refine⟨_,by simp only[Bj,BB,Af,ev,Am,Ak,Ag,Gc,Ai,↓reduceIte,Nat.reduceEqDiff,Nat.reduceLT,Aj,hP,l',g0,g3,g8,g9,Bqf,Bss,Btb,sp1,sp2,r1,r2,r3,x34,x92,x10,x9,xl,xg];first|done|rfl|exact up,?_⟩)
   |dsimp only)
  refine⟨s.length - (i+1),by omega,i+1,gr',by omega,rfl,hst1,hgr',?_,?_,?_,?_,?_⟩
  all_goals simp only[BB,Am,l',Nat.reduceEqDiff,↓reduceIte,Nat.reduceLT,g0,g8]
 ·have hie:i=s.length:=by omega
  subst hie;rw[List.take_length]at g3 hql;have r1:Bo prog .lss 3 (.int .i64 (s.length:Int)) (.int .i64 (s.length:Int))=some (.bool false):=by show some (D.bool (decide ((s.length:Int)<(s.length:Int))))=_;rw[decide_eq_false (by omega)]
  obtain⟨gr',st1,V,a1,hgr',hV,hst1⟩:=Byn hgr hst (acc:=34::qsP s) (new:= [34]) (x:= .sl [[.int .u8 34]] .exact) rfl (by simp) (by simp) (by simp only[List.length_cons,List.length_nil];omega)
  have up:=blU (ts:= #[39,39]) (new:= [34]) (.inl rfl) a1;have cv:∀st,Dr prog 39 9 (.sl (bR (34::qsP s++ [34])) gr') st=some (.str (34::qsP s++ [34]),.pure):=fun st=>by
   have h3:(bR (34::qsP s++ [34])).all (fun r=>r.length == 1)=true:=List.all_eq_true.2 fun r hr=>by simp[Avi _ r hr]
   unfold Dr;simp only[Bxl,show prog.underlying 5=some (.int .u8)from underlying5,Bx1,h3,if_true,Adm,Option.map_some]
  repeat (first
   |refine A00 ?_|refine Asu ?_|refine Bkx ?_|refine Awr ?_|refine Avq ?_|refine Ay7 ?_|refine Bq (by decide) ?_|refine Eg rfl rfl ?_|refine Zc (by first|exact hV|(simp;done)) ?_
   |((first|refine Ei rfl rfl rfl rfl ?_|refine Ee rfl rfl ?_|refine Ed rfl rfl ?_|refine Bni ?_);refine⟨_,by simp only[Bj,BB,Af,ev,Am,Ak,Ag,Gc,Ai,↓reduceIte,Nat.reduceEqDiff,Nat.reduceLT,Aj,hP,l',g0,g3,g8,g9,Bqf,Bss,Btb,sp1,r1,cv];first|done|rfl|exact up,?_⟩)
   |dsimp only)
  refine⟨rfl,?_,hst1⟩;show Gm C1.P _ _ [.tmp 2]=_;simp only[Gm,BB,Am,l',Nat.reduceEqDiff,↓reduceIte,Nat.reduceLT];rfl
 all_goals
  simp only[BB,Am,hl,Nat.reduceEqDiff,↓reduceIte,Nat.reduceLT,e0]
  first|done|rfl
structure Bqx(C:Eo)(hh:Bool)(cf:Ah)(Pw:Nat→Prop)(ops:Array Oper)(B:Array Nat)(l:List Nat)(e:Env)(st:St)(R:Env→St→Prop):Prop where
 ex:∀lg:Rh,As0 C hh cf Pw ops B l lg e st R
structure Bsp(C:Eo)(hh:Bool)(cf:Ah)(Pw:Nat→Prop)(ops:Array Oper)(B:Array Nat)(i:Nat)(l:List Nat)(e:Env)(st:St)(R:Env→St→Prop):Prop where
 ex:(∀o,ops.toList[i]?=some o→Ct o ops e=some true)→Bqx C hh cf Pw ops B (i::l) e st R
section
variable{C:Eo}{hh:Bool}{od:Nat→Option (List Nat × Bool)}{cf:Ah}{N:Nat}{Pw:Nat→Prop}{e:Env}{st st':St}{Q:Ex→Env→St→Prop}{R:Env→St→Prop}{ops:Array Oper}{l:List Nat}{B:Array Nat}
theorem Byd{id:Nat}(hod:od id=some (l,false))(h:∀B,Bqx C hh cf Pw (ops.map Dl) B l e st (fun e' st'=>Q .norm e' st')):ExO C hh od cf N Pw (.region id ops true) e st Q:=
 Blb (F:=fun _=>True) hod trivial fun B _=>(h B).ex []
theorem Byu(h:R e st):Bqx C hh cf Pw ops B [] e st R:=⟨fun lg=>Blh h⟩
theorem Bz0{i:Nat}{o:Oper}(ho':ops.toList[i]?=some o)(hg:o.guard=none)(h:Bsp C hh cf Pw ops B i l e st R):Bqx C hh cf Pw ops B (i::l) e st R:=
 h.ex (fun o' ho=>by obtain rfl:=Option.some.inj (ho'.symm.trans ho);exact H7 hg)
theorem B0i{i:Nat}{o:Oper}(ho':ops.toList[i]?=some o)(hl:loud o=false)(h:∃r,Af C.P hh o (ev e) st=some r∧match r with
   |(v,.rd _)=>Bqx C hh cf Pw ops B l (Am e o.dst v) st R
   |(v,.al ob)=>False):Bsp C hh cf Pw ops B i l e st R:=
 ⟨fun hw=>⟨fun lg=>by
  obtain⟨⟨v,y⟩,hq,h⟩:=h;cases y with
  |rd ids=>exact Bmg ho' (hw o ho') hl hq (h.ex _)
  |al ob=>exact h.elim⟩⟩
theorem Bz2{i:Nat}{o:Oper}(ho':ops.toList[i]?=some o)(hl:loud o=true)(h:∃r,Bj C hh cf o (ev e) st=some r∧match r with
   |(v,st',[])=>Bqx C hh cf Pw ops B l (Am e o.dst v) st' R
   |_=>False):Bsp C hh cf Pw ops B i l e st R:=
 ⟨fun hw=>⟨fun lg=>by
  obtain⟨⟨v,st',V⟩,hs,h⟩:=h;cases V with
  |nil=>exact Bmu ho' (hw o ho') hl hs (fun id hid=>by cases hid) (Awl fun q _ hq=>by cases hq) (h.ex _)
  |cons=>exact h.elim⟩⟩
theorem Bzr{i:Nat}{o:Oper}{j:Nat}{w:Bool}{p:Oper}{t:Tmp}(ho':ops.toList[i]?=some o)(hg:o.guard=some (j,w))(hp':ops.toList[j]?=some p)(ht:p.dst=some t)
  (h:∃d,e.getD t .undef=d∧match d,w with
   | .bool true,true=>Bsp C hh cf Pw ops B i l e st R
   | .bool false,false=>Bsp C hh cf Pw ops B i l e st R
   | .bool true,false=>Bqx C hh cf Pw ops B l (Am e o.dst (.tup [])) st R
   | .bool false,true=>Bqx C hh cf Pw ops B l (Am e o.dst (.tup [])) st R
   | .tup [],_=>Bqx C hh cf Pw ops B l (Am e o.dst (.tup [])) st R
   |_,_=>False):Bqx C hh cf Pw ops B (i::l) e st R:=by
 obtain⟨d,he,h⟩:=h;have hT:∀hw:Ct o ops e=some true,Bsp C hh cf Pw ops B i l e st R→Bqx C hh cf Pw ops B (i::l) e st R:=fun hw hT=>hT.ex (fun o' ho=>by obtain rfl:=Option.some.inj (ho'.symm.trans ho);exact hw)
 cases d with
 |bool b=>cases b<;>cases w<;>first|exact hT (Avv hg hp' ht he) h|exact⟨fun lg=>Bl0 ho' (Avc hg hp' ht he) (h.ex _)⟩
 |tup l=>
  cases l with
  |nil=>exact⟨fun lg=>Bl0 ho' (A9s hg hp' ht he) (h.ex _)⟩
  |cons=>cases w<;>exact h.elim
 |_=>cases w<;>exact h.elim
end
theorem Bqh:∀t:List UInt8,(∀p∈Bd t,∀b∈p,Ig b=true)→Bra t
 | [],_=>fun b hb=>by cases hb
 |c::r,h=>by
  have hs:∀b,Ig b=true→De b=true:=fun b hb=>by unfold Ig at hb;rw[Bool.and_eq_true]at hb;exact hb.1
  unfold Bd at h;by_cases hc:(c == 47)=true
  ·rw[if_pos hc]at h;rw[beq_iff_eq]at hc;subst hc;have ih:=Bqh r fun p hp=>h p (by simp[hp])
   intro b hb;rcases List.mem_cons.1 hb with rfl|hb
   ·decide
   ·exact ih b hb
  ·rw[if_neg hc]at h;have hne:=(Gj r).2;cases hp:Bd r with
   |nil=>exact absurd hp hne
   |cons p ps=>
    rw[hp]at h;have ih:=Bqh r fun q hq b hb=>by
     rw[hp]at hq;rcases List.mem_cons.1 hq with rfl|hq
     ·exact h (c::q) (by simp) b (by simp[hb])
     ·exact h q (by simp[hq]) b hb
    intro b hb;rcases List.mem_cons.1 hb with rfl|hb
    ·exact hs _ (h (b::p) (by simp) b (by simp))
    ·exact ih b hb
theorem Bzt{t:List UInt8}(h:nmP t=true):Bl.contains t=false∧Bkp t:=by
 have h0:nmP []=false:=by kernel_rfl
 have hne:t≠ []:=fun e=>by rw[e,h0]at h;cases h
 unfold nmP Aan at h;simp only[Bool.and_eq_true,Bool.not_eq_true']at h;obtain⟨⟨_,_,h1⟩,_,h2⟩:=h;refine⟨h2,hne,Bqh t fun p hp b hb=>?_⟩;rw[List.any_eq_false]at h1;have h3:=h1 p hp;unfold Cz at h3;simp only[Bool.or_eq_true,not_or,List.any_eq_true,not_exists,not_and,Bool.not_eq_true',Bool.not_eq_false]at h3;exact h3.2 b hb
theorem Bx4:(List.range 1001).all (fun n=>!(P7 n).isEmpty && (P7 n).all De)=true:=by kernel_rfl
theorem Btr{t:List UInt8}{n:Int}(h:gnP t=(n,true)):(0≤n∧n≤1000)∧P7 n.toNat=t∧Bkp t:=by
 unfold gnP at h;rw[← Aw6 t 1000 (by decide)]at h
 unfold Rb at h;split at h
 ·rename_i v _;split at h
  ·cases h
  split at h
  ·cases h
  split at h
  ·rename_i h1 h2 h3;cases h;refine⟨⟨by omega,by omega⟩,h3,?_⟩
   have h4:=List.all_eq_true.1 Bx4 n.toNat (List.mem_range.2 (by omega))
   rw[h3]at h4;exact Bix h4
  ·cases h
 ·cases h
theorem B0c(t:List UInt8)(n:Int)(h:gnP t=(n,true)):0≤n∧P7 n.toNat=t∧Bkp t:=⟨(Btr h).1.1,(Btr h).2⟩
theorem B0v{x:Qy}(h:Aem (Bj7 nmP gnP) x):Aem Brq x:=Aem.mono (fun q hq=>by
 cases q with
 |label a r ln=>trivial
 |var a nm=>trivial
 |whole a=>trivial
 |lt a nm x y=>trivial
 |bin k a x y=>exact hq
 |un k a nm n x=>
  rcases hq with⟨h1,_,h3⟩|hq|hq|hq
  ·refine .inl ⟨h1,?_⟩;rcases h3 with h3|⟨t,h3⟩
   ·exact .inl h3
   ·exact .inr (Btr h3).1
  ·exact .inr (.inl hq.1)
  ·exact .inr (.inr (.inl hq.1))
  ·exact .inr (.inr (.inr hq.1))) h
section
variable(hK:∀n f,Ba (CF n f))
theorem a37(n:Nat)(k:Nat)(hk:k≤1000):Ao (CF (n+1)) 37 [.int .i64 (k:Int)] (.str (P7 k)):=Ark rfl fun cf st=>by show(if k<2 ^ 62 then some (D.str (P7 k),st,([]:Cb))else none)=_;rw[if_pos (by omega)]
include hK
theorem Bxw:∀(k n m:Nat),n<k→n≤1000→Ao (CF (m+k)) 41 [.int .i64 (n:Int)] (.str (P7 n))
 |0,n,m,h,_=>absurd h (Nat.not_lt_zero n)
 |k+1,n,m,h,h2=>pS rfl (Bys (hK _) n h2 fun j hj=>Bxw k j m (by omega) (by omega))
theorem Byz:∀(n m:Nat) (x:Qy),Df x≤n→Aem Brq x→plQ 4 30 x≤13600→plQ 1 0 x≤400→Ao (CF (m+2*n+3)) 13 [.agg (Br x)] (.str (Asz x))
 |0,m,x,h,_,_,_=>absurd (Xv x) (by omega)
 |n+1,m,x,h,hx,hl,hl1=>by
  have ih:∀y∈L9 x,Brq y∧(Asz y).length<1000000∧Ao (CF (m+2*n+3)) 13 [.agg (Br y)] (.str (Asz y)):=fun y hy=>by have hd:=Ms x;have h1:Df y≤dmax (L9 x):=Ah4 hy;have h2:=Bxk (A:=4) (B:=30) hy;have h3:=Bxk (A:=1) (B:=0) hy;have h4:=Bmj y;exact⟨(Bwp hy hx).top,by omega,Byz n m y (by omega) (Bwp hy hx) (by omega) (by omega)⟩
  rw[show m+2*(n+1)+3=m+2*n+4+1 from by omega]
  exact pS rfl (Bym (hK _) x hx.top hl hl1 (fun r ln h=>pS rfl (Bu7 (hK _) r ln h)) (fun y hy=>pS rfl (Bu2 (hK _) y (ih y hy).1 (ih y hy).2.1 (ih y hy).2.2))
   (fun y hy=>pS rfl (Bul (hK _) y (ih y hy).1 (ih y hy).2.1 (pS rfl (Buy (hK _) y (ih y hy).1)) (ih y hy).2.2)) (fun w l h1 h2 h3=>pS rfl (Bup (hK _) w l h1 h2 h3 (by decide)))
   (fun i y hy=>pS rfl (Bvb (hK _) x y i hy (ih y (List.mem_of_getElem? hy)).2.2)) (fun k hk=>a37 _ k hk) (fun t ht=>pS rfl (Bzd t ht (by decide))))
theorem By4:∀(n m:Nat) (x:Qy),Df x≤n→Aem Brq x→plQ 4 30 x≤13600→plQ 1 0 x≤400→Ao (CF (m+n+1001)) 14 [.agg (Br x)] (.str (Asz x))
 |0,m,x,h,_,_,_=>absurd (Xv x) (by omega)
 |n+1,m,x,h,hx,hl,hl1=>by
  have ih:∀y∈L9 x,Ao (CF (m+n+1001)) 14 [.agg (Br y)] (.str (Asz y)):=fun y hy=>by have hd:=Ms x;have h1:Df y≤dmax (L9 x):=Ah4 hy;have h2:=Bxk (A:=4) (B:=30) hy;have h3:=Bxk (A:=1) (B:=0) hy;exact By4 n m y (by omega) (Bwp hy hx) (by omega) (by omega)
  rw[show m+(n+1)+1001=m+n+1001+1 from by omega]
  exact pS rfl (By9 (hK _) x hx hl hl1 (by decide) ih (fun k=>pS rfl (Bua (hK _) k)) (fun r ln h=>pS rfl (Bu0 (hK _) r ln h)) (fun k hk=>Bxw hK 1001 k (m+n) (by omega) hk) (fun t ht=>pS rfl (Byv (hK _) t ht (by decide))))
theorem Bzv:∀(n m:Nat) (x y:Qy),Df x≤n→Ao (CF (m+n)) 18 [.agg (Br x),.agg (Br y)] (.bool (eqQ x y))
 |0,m,x,y,h=>absurd (Xv x) (by omega)
 |n+1,m,x,y,h=>pS rfl (Buo (hK _) x y (by decide) fun a ha b hb=>by have hd:=Ms x;have:Df a≤dmax (L9 x):=Ah4 ha;exact Bzv n m a b (by omega))
end
section
variable{st:St}
theorem Bzw(a b c d:Obj):(st++ [a,b,c,d]).length=st.length+4:=by simp
theorem Bzk(a b c d e:Obj):(st++ [a,b,c,d,e]).length=st.length+5:=by simp
theorem Bzf(a b c d e:Obj):st++ [a,b,c,d]++ [e]=st++ [a,b,c,d,e]:=by simp
theorem Bzn(a b c d e f:Obj):st++ [a,b,c,d,e]++ [f]=st++ [a,b,c,d,e,f]:=by simp
theorem Bzj{cs z:List D}{o p q r:Obj}{os:List Obj}(hz:z.length=7)(h:cs.length=7)(h2:cs.all Al=true):I4 prog 29 (.ptr (st.length+4) 0) (.agg cs) (st++o::p::q::r:: .cells z::os)=some (.undef,st++o::p::q::r:: .cells cs::os,[st.length+4]):=by unfold I4;simp[Wp,h,h2,hz,D.cells,List.getElem?_append_right,List.set_append_right]
theorem Bzi{c a:Int}{z:List D}{o p q r u:Obj}{os:List Obj}(hz:z.length=2):I4 prog 32 (.ptr (st.length+5) 0) (.agg [.int .i64 c,.int .i64 a]) (st++o::p::q::r::u:: .cells z::os)=some (.undef,st++o::p::q::r::u:: .cells [.int .i64 c,.int .i64 a]::os,[st.length+5]):=by unfold I4;simp[Boc,hz,D.cells,Al,List.getElem?_append_right,List.set_append_right]
theorem Byc{c a:Int}{o p q r u:Obj}{os:List Obj}:Fp prog 30 (.ptr (st.length+5) 0) (st++o::p::q::r::u:: .cells [.int .i64 c,.int .i64 a]::os)=some (.int .i64 c,.rd [st.length+5]):=by unfold Fp Dk;simp[Bo2,Bpj,List.getElem?_append_right]
theorem Bze{cs:List D}{o p q r:Obj}{os:List Obj}(h:cs.length=7):Fp prog 29 (.ptr (st.length+4) 0) (st++o::p::q::r:: .cells cs::os)=some (.agg cs,.rd [st.length+4]):=by unfold Fp Dk;simp[Wp,Bb3,h,List.getElem?_append_right];rw[List.take_of_length_le (by omega)]
end
theorem Btc(x:Qy)(st:St):Cw st [.agg (Br x)]=some ([.agg (Br x)],st):=by have h1:frz Gu st (.agg (Br x))=some (.agg (Br x),st):=Ait (Md x);unfold Cw;simp[Eu,h1]
theorem Bxm:C1.ords 4 9=some ([0,1,2,3,4,5,7,6,8,9,10,11,12,13,14,15,16,17,19,20,18,21,22,23,24],false):=by kernel_rfl
theorem Byj(t:List UInt8):Bo prog .neq 9 (.str t) (.str t)=some (.bool false):=by show some (D.bool (!(t == t)))=_;simp
theorem Byq(t:List UInt8):Bo prog .eql 9 (.str t) (.str t)=some (.bool true):=by show some (D.bool (t == t))=_;simp
theorem Byg(a:Int):Bo prog .neq 3 (.int .i64 a) (.int .i64 a)=some (.bool false):=by show some (D.bool (a !=a))=_;simp
theorem Bw7(b:Bool):Bo prog .neq 4 (.bool b) (.bool b)=some (.bool false):=by cases b<;>rfl
set_option maxHeartbeats 32000000 in
theorem walk4{cf:Ah}{N:Nat}(h9:Ao cf 9 [] (.bool true))(h11:∀t:List UInt8,Ao cf 11 [.str t,.int .i64 400] (.str (t.take 400)))(h12:∀t:List UInt8,Ao cf 12 [.str t] (Aaw (Qx nmP gnP t)))
  (h13:∀(t:List UInt8) (x:Qy),Qx nmP gnP t= .ok x→Ao cf 13 [.agg (Br x)] (.str (Asz x)))(h14:∀(t:List UInt8) (x:Qy),Qx nmP gnP t= .ok x→Ao cf 14 [.agg (Br x)] (.str (Asz x)))
  (h15:∀(t:List UInt8) (x:Qy),Qx nmP gnP t= .ok x→Ao cf 15 [.agg (Br x)] (.int .i64 (Df x:Int)))(h16:∀(t:List UInt8) (x:Qy),Qx nmP gnP t= .ok x→Ao cf 16 [.agg (Br x)] (.int .i64 (Df x:Int)))
  (h17:∀(t:List UInt8) (x y:Qy),Qx nmP gnP t= .ok x→Ao cf 17 [.agg (Br x),.agg (Br y)] (.bool (eqQ x y)))(h18:∀(t:List UInt8) (x y:Qy),Qx nmP gnP t= .ok x→Ao cf 18 [.agg (Br x),.agg (Br y)] (.bool (eqQ x y)))
  (s t:List UInt8):Ao (run C1 cf N) 4 [.str s,.str t] (.bool true):=fun st=>by
 have hP:C1.P=prog:=rfl;have hc9:∀st,G6 C1 cf 9 [] [] [] st=some (.bool true,st,[]):=fun st=>Amz (by kernel_rfl) rfl rfl (h9 st)
 have hcS:∀st,G6 C1 cf 11 [] [] [.str s,.int .i64 400] st=some (.str (s.take 400),st,[]):=fun st=>Amz (by kernel_rfl) rfl rfl (h11 s st)
 have hcT:∀st,G6 C1 cf 11 [] [] [.str t,.int .i64 400] st=some (.str (t.take 400),st,[]):=fun st=>Amz (by kernel_rfl) rfl rfl (h11 t st)
 generalize s.take 400=a at hcS;generalize t.take 400=b at hcT;have hcA:∀st,G6 C1 cf 12 [] [] [.str a] st=some (Aaw (Qx nmP gnP a),st,[]):=fun st=>Amz (by kernel_rfl) rfl rfl (h12 _ st)
 have hcB:∀st,G6 C1 cf 12 [] [] [.str b] st=some (Aaw (Qx nmP gnP b),st,[]):=fun st=>Amz (by kernel_rfl) rfl rfl (h12 _ st)
 refine Bj9 func4 (bdy (by kernel_rfl)) rfl rfl rfl ?_
 generalize he:(([.str s,.str t]:List D)++List.replicate (Tryz.f4.ntmps - ([.str s,.str t]:List D).length) .undef)=e;have hl:e.length=80:=by rw[← he];rfl
 have e0:e.getD 0 .undef= .str s:=by rw[← he];rfl
 have e1:e.getD 1 .undef= .str t:=by rw[← he];rfl
 clear he;refine Bj8 ?_;obtain⟨code,hcode⟩:∃code,code=strip (bd Tryz.f4):=⟨_,rfl⟩;rw[← hcode];simp only[bd,Tryz.f4,strip,Dl,List.map_toArray,MC]at hcode;subst hcode;have hV1:∀id∈ [st.length],st.length≤id:=by simp
 have hV2:∀id∈ [st.length+1],st.length≤id:=by simp
 have hV3:∀id∈ [st.length+2],st.length≤id:=by simp
 have hV4:∀id∈ [st.length+3],st.length≤id:=by simp
 have hV5:∀id∈ [st.length+4],st.length≤id:=by simp
 have hV6:∀id∈ [st.length+5],st.length≤id:=by simp
 have Z:=fun(cs:List D) os=> @Btk st cs [.int .i64 0,.int .i64 0,.bool false,.str [],.str [],.int .i64 0,.nilsl] os rfl;obtain⟨cb,kb,pb,hcb,hcb1,hcb2,hB⟩:∃(cb:List D) (kb pb:Int),Aaw (Qx nmP gnP b)= .tup [.agg cb,.agg [.int .i64 kb,.int .i64 pb]]∧cb.length=7∧cb.all Al=true∧((kb≠0)∨(kb=0∧∃y,cb=Br y)):=by
  cases ho:Qx nmP gnP b with
  |error ca=>exact⟨Apq,ca.1,ca.2,rfl,rfl,rfl,.inl (Bli (a:=ca.2) ho)⟩
  |ok y=>exact⟨Br y,0,0,rfl,Su y,Kq y,.inr ⟨rfl,y,rfl⟩⟩
 rw[hcb]at hcB;have v2:=fun c p o os=> @Btp st c p [.int .i64 0,.int .i64 0] o os rfl;have v3:=fun o p os=> @Btn st cb [.int .i64 0,.int .i64 0,.bool false,.str [],.str [],.int .i64 0,.nilsl] o p os rfl hcb1 hcb2;have v4:=fun c a o p q os=> @Btq st c a [.int .i64 0,.int .i64 0] o p q os rfl;cases ho:Qx nmP gnP a with
 |error ca=>
  obtain⟨c,p⟩:=ca;have hc:=Bli ho;rw[ho]at hcA;have b3:Bo prog .neq 30 (.int .i64 c) (.int .i64 0)=some (.bool true):=by show some (D.bool (c !=0))=_;simp[hc]
  have v1:=fun os=>Z (qc 0 0 false [] [] 0 (.sl [] .none)) os rfl rfl
  repeat (first
   |refine A00 ?_|refine Asu ?_|refine Bkx ?_|refine Awr ?_|refine Avq ?_|refine Ay7 ?_|refine Bq (by decide) ?_|refine Eg rfl rfl ?_|refine Zc (by first|exact hV1|exact hV2|exact hV3|exact hV4|(simp;done)) ?_
   |((first|refine Ei rfl rfl rfl rfl ?_|refine Ee rfl rfl ?_|refine Ed rfl rfl ?_|refine Bni ?_);refine⟨_,by simp only[Bj,BB,Af,ev,Am,Ak,Ag,Gc,Ai,↓reduceIte,Nat.reduceEqDiff,Nat.reduceLT,Aj,hP,hl,e0,e1,hc9,hcS,hcT,hcA,hcB,Aaw,Apq,Bnh,Bns,ln1,ln2,ln3,ap2,ap3,ap4,v1,v2,v3,v4,Bs4,Bo7,b3];first|done|rfl,?_⟩)
   |dsimp only)
  refine⟨rfl,?_,[_,_,_,_],rfl⟩;show Gm C1.P _ _ [.tmp 4]=_;simp only[Gm,BB,Am,hl,Nat.reduceEqDiff,↓reduceIte,Nat.reduceLT]
 |ok x=>
  obtain⟨ox,odx,ow,ow1⟩:=Bsy ho;have hc13:∀st,G6 C1 cf 13 [] [] [.agg (Br x)] st=some (.str (Asz x),st,[]):=fun st=>Amz (by kernel_rfl) rfl (Btc x st) (h13 a x ho st)
  have hc14:∀st,G6 C1 cf 14 [] [] [.agg (Br x)] st=some (.str (Asz x),st,[]):=fun st=>Amz (by kernel_rfl) rfl (Btc x st) (h14 a x ho st)
  have hc15:∀st,G6 C1 cf 15 [] [] [.agg (Br x)] st=some (.int .i64 (Df x:Int),st,[]):=fun st=>Amz (by kernel_rfl) rfl (Btc x st) (h15 a x ho st)
  have hc16:∀st,G6 C1 cf 16 [] [] [.agg (Br x)] st=some (.int .i64 (Df x:Int),st,[]):=fun st=>Amz (by kernel_rfl) rfl (Btc x st) (h16 a x ho st)
  have h17x:=h17 a x;have h18x:=h18 a x;rw[ho]at hcA;simp only[Aaw]at hcA;have b3:Bo prog .neq 30 (.int .i64 0) (.int .i64 0)=some (.bool false):=rfl;have v1:=fun os=>Z (Br x) os (Su x) (Kq x);have v5:=fun os=> @Bvj st (Br x) os (Su x);have v6:=fun o p os=> @Bu6 st cb o p os hcb1;have hpn:=Byj (Asz x);have hpe:=Byq (Asz x);have hdn:=Byg (Df x:Int);have hb9:∃v:Bool,Bo prog .eql 30 (.int .i64 kb) (.int .i64 0)=some (.bool v)∧(v=true→∃w:Bool,(∀st,G6 C1 cf 17 [] [] [.agg (Br x),.agg cb] st=some (.bool w,st,[]))∧∀st,G6 C1 cf 18 [] [] [.agg (Br x),.agg cb] st=some (.bool w,st,[])):=by
   refine⟨kb == 0,rfl,fun hv=>?_⟩;rcases hB with hB|⟨_,y,rfl⟩
   ·exact absurd (beq_iff_eq.1 hv) hB
   ·exact⟨eqQ x y,fun st=>Amz (by kernel_rfl) rfl (Bvi x y st) (h17x y ho st),fun st=>Amz (by kernel_rfl) rfl (Bvi x y st) (h18x y ho st)⟩
  obtain⟨v,b9,hv⟩:=hb9;have lnp:∀st,Ny prog 9 (.str (Asz x)) st=some (.int .i64 ((Asz x).length:Int),.pure):=fun st=>Boa _ st;by_cases hlong:400<(Asz x).length
  ·have bg:Bo prog .gtr 3 (.int .i64 ((Asz x).length:Int)) (.int .i64 400)=some (.bool true):=by
    show some (D.bool (decide (((Asz x).length:Int)>400)))=_;rw[decide_eq_true (by omega)]
   cases v with
   |false=>
    repeat (first
     |refine A00 ?_|refine Asu ?_|refine Bkx ?_|refine Awr ?_|refine Avq ?_|refine Ay7 ?_|refine Bq (by decide) ?_|refine Eg rfl rfl ?_|refine Byu ?_|refine Bz0 rfl rfl ?_|(refine Byd Bxm (fun B=>?_);simp only[List.map_toArray,MC,Dl])|refine Zc (by first|exact hV1|exact hV2|exact hV3|exact hV4|(simp;done)) ?_
     |((first|refine Ei rfl rfl rfl rfl ?_|refine Ee rfl rfl ?_|refine Ed rfl rfl ?_|refine Bzr rfl rfl rfl rfl ?_|refine B0i rfl rfl ?_|refine Bz2 rfl rfl ?_|refine Bni ?_);refine⟨_,by simp only[Bj,BB,Af,ev,Am,Ak,Ag,Gc,Ai,↓reduceIte,Nat.reduceEqDiff,Nat.reduceLT,Aj,hP,hl,e0,e1,hc9,hcS,hcT,hcA,hcB,hc13,hc14,hc15,hc16,Bnh,Bns,ln1,ln2,ln3,ap2,ap3,ap4,v1,v2,v3,v4,v5,v6,Bs4,Bs5,Bo7,b3,hpn,hdn,b9,lnp,bg];first|done|rfl,?_⟩)
     |dsimp only)
    refine⟨rfl,?_,[_,_,_,_],rfl⟩;show Gm C1.P _ _ [.tmp 4]=_;simp only[Gm,BB,Am,hl,Nat.reduceEqDiff,↓reduceIte,Nat.reduceLT]
   |true=>
    obtain⟨w,hc17,hc18⟩:=hv rfl;have bw:=Bw7 w
    repeat (first
     |refine A00 ?_|refine Asu ?_|refine Bkx ?_|refine Awr ?_|refine Avq ?_|refine Ay7 ?_|refine Bq (by decide) ?_|refine Eg rfl rfl ?_|refine Byu ?_|refine Bz0 rfl rfl ?_|(refine Byd Bxm (fun B=>?_);simp only[List.map_toArray,MC,Dl])|refine Zc (by first|exact hV1|exact hV2|exact hV3|exact hV4|(simp;done)) ?_
     |((first|refine Ei rfl rfl rfl rfl ?_|refine Ee rfl rfl ?_|refine Ed rfl rfl ?_|refine Bzr rfl rfl rfl rfl ?_|refine B0i rfl rfl ?_|refine Bz2 rfl rfl ?_|refine Bni ?_);refine⟨_,by simp only[Bj,BB,Af,ev,Am,Ak,Ag,Gc,Ai,↓reduceIte,Nat.reduceEqDiff,Nat.reduceLT,Aj,hP,hl,e0,e1,hc9,hcS,hcT,hcA,hcB,hc13,hc14,hc15,hc16,hc17,hc18,Bnh,Bns,ln1,ln2,ln3,ap2,ap3,ap4,v1,v2,v3,v4,v5,v6,Bs4,Bs5,Bo7,b3,hpn,hdn,b9,bw,lnp,bg];first|done|rfl,?_⟩)
     |dsimp only)
    refine⟨rfl,?_,[_,_,_,_],rfl⟩;show Gm C1.P _ _ [.tmp 4]=_;simp only[Gm,BB,Am,hl,Nat.reduceEqDiff,↓reduceIte,Nat.reduceLT]
  ·have bg:Bo prog .gtr 3 (.int .i64 ((Asz x).length:Int)) (.int .i64 400)=some (.bool false):=by
    show some (D.bool (decide (((Asz x).length:Int)>400)))=_;rw[decide_eq_false (by omega)]
   obtain⟨z,hz,hzx⟩:=Bo8 (fun t ht=>Bzt ht) B0c ox odx (by omega)
   have hcP:∀st,G6 C1 cf 12 [] [] [.str (Asz x)] st=some (.tup [.agg (Br z),.agg [.int .i64 0,.int .i64 0]],st,[]):=fun st=>by have h:=h12 (Asz x) st;rw[hz]at h;exact Amz (by kernel_rfl) rfl rfl h
   have hc17z:∀st,G6 C1 cf 17 [] [] [.agg (Br z),.agg (Br x)] st=some (.bool true,st,[]):=fun st=>by have h:=h17 (Asz x) z x hz st;rw[Bos hzx]at h;exact Amz (by kernel_rfl) rfl (Bvi z x st) h
   have hpz:Asz z=Asz x:=by rw[← Bld z,hzx,Bld]
   have hc13z:∀st,G6 C1 cf 13 [] [] [.agg (Br z)] st=some (.str (Asz x),st,[]):=fun st=>by have h:=h13 (Asz x) z hz st;rw[hpz]at h;exact Amz (by kernel_rfl) rfl (Btc z st) h
   have b4:Bo prog .eql 30 (.int .i64 0) (.int .i64 0)=some (.bool true):=rfl;have v7:=fun o p q r os=> @Bzj st (Br z) [.int .i64 0,.int .i64 0,.bool false,.str [],.str [],.int .i64 0,.nilsl] o p q r os rfl (Su z) (Kq z);have v8:=fun o p q r u os=> @Bzi st 0 0 [.int .i64 0,.int .i64 0] o p q r u os rfl;have v9:=fun o p q r os=> @Bze st (Br z) o p q r os (Su z);cases v with
   |false=>
    repeat (first
     |refine A00 ?_|refine Asu ?_|refine Bkx ?_|refine Awr ?_|refine Avq ?_|refine Ay7 ?_|refine Bq (by decide) ?_|refine Eg rfl rfl ?_|refine Byu ?_|refine Bz0 rfl rfl ?_|(refine Byd Bxm (fun B=>?_);simp only[List.map_toArray,MC,Dl])|refine Zc (by first|exact hV1|exact hV2|exact hV3|exact hV4|exact hV5|exact hV6|(simp;done)) ?_
     |((first|refine Ei rfl rfl rfl rfl ?_|refine Ee rfl rfl ?_|refine Ed rfl rfl ?_|refine Bzr rfl rfl rfl rfl ?_|refine B0i rfl rfl ?_|refine Bz2 rfl rfl ?_|refine Bni ?_);refine⟨_,by simp only[Bj,BB,Af,ev,Am,Ak,Ag,Gc,Ai,↓reduceIte,Nat.reduceEqDiff,Nat.reduceLT,Aj,hP,hl,e0,e1,hc9,hcS,hcT,hcA,hcB,hc13,hc14,hc15,hc16,hcP,hc17z,hc13z,Bnh,Bns,ln1,ln2,ln3,Bzw,Bzk,ap2,ap3,ap4,Bzf,Bzn,v1,v2,v3,v4,v5,v6,v7,v8,v9,Bs4,Bs5,Byc,Bo7,b3,b4,hpn,hpe,hdn,b9,lnp,bg];first|done|rfl,?_⟩)
     |dsimp only)
    refine⟨rfl,?_,[_,_,_,_,_,_],rfl⟩;show Gm C1.P _ _ [.tmp 4]=_;simp only[Gm,BB,Am,hl,Nat.reduceEqDiff,↓reduceIte,Nat.reduceLT]
   |true=>
    obtain⟨w,hc17,hc18⟩:=hv rfl;have bw:=Bw7 w
    repeat (first
     |refine A00 ?_|refine Asu ?_|refine Bkx ?_|refine Awr ?_|refine Avq ?_|refine Ay7 ?_|refine Bq (by decide) ?_|refine Eg rfl rfl ?_|refine Byu ?_|refine Bz0 rfl rfl ?_|(refine Byd Bxm (fun B=>?_);simp only[List.map_toArray,MC,Dl])|refine Zc (by first|exact hV1|exact hV2|exact hV3|exact hV4|exact hV5|exact hV6|(simp;done)) ?_
     |((first|refine Ei rfl rfl rfl rfl ?_|refine Ee rfl rfl ?_|refine Ed rfl rfl ?_|refine Bzr rfl rfl rfl rfl ?_|refine B0i rfl rfl ?_|refine Bz2 rfl rfl ?_|refine Bni ?_);refine⟨_,by simp only[Bj,BB,Af,ev,Am,Ak,Ag,Gc,Ai,↓reduceIte,Nat.reduceEqDiff,Nat.reduceLT,Aj,hP,hl,e0,e1,hc9,hcS,hcT,hcA,hcB,hc13,hc14,hc15,hc16,hc17,hc18,hcP,hc17z,hc13z,Bnh,Bns,ln1,ln2,ln3,Bzw,Bzk,ap2,ap3,ap4,Bzf,Bzn,v1,v2,v3,v4,v5,v6,v7,v8,v9,Bs4,Bs5,Byc,Bo7,b3,b4,hpn,hpe,hdn,b9,bw,lnp,bg];first|done|rfl,?_⟩)
     |dsimp only)
    refine⟨rfl,?_,[_,_,_,_,_,_],rfl⟩;show Gm C1.P _ _ [.tmp 4]=_;simp only[Gm,BB,Am,hl,Nat.reduceEqDiff,↓reduceIte,Nat.reduceLT]
theorem Bzx(hK:∀n f,Ba (CF n f))(s t:List UInt8):Ao (CF 4009) 4 [.str s,.str t] (.bool true):=by
 have hp:∀(t:List UInt8) (x:Qy),Qx nmP gnP t= .ok x→Aem Brq x∧Df x≤30∧plQ 4 30 x≤13600∧plQ 1 0 x≤400:=fun t x hx=>by obtain⟨h1,h2,h3,h4⟩:=Bsy hx;exact⟨B0v h1,h2,h3,h4⟩
 exact pS rfl (walk4 (Bdq _) (fun t=>pS rfl (A8a (hK _) t 400)) (A8v hK) (fun t x hx=>Byz hK 30 3945 x (hp t x hx).2.1 (hp t x hx).1 (hp t x hx).2.2.1 (hp t x hx).2.2.2) (fun t x hx=>By4 hK 30 2977 x (hp t x hx).2.1 (hp t x hx).1 (hp t x hx).2.2.1 (hp t x hx).2.2.2)
  (fun t x hx=>A6n hK 30 3978 x (hp t x hx).2.1 (by have:=(hp t x hx).2.1;omega)) (fun t x hx=>A5x hK 30 3978 x (hp t x hx).2.1 (by have:=(hp t x hx).2.1;omega)) (fun t x y hx=>Bvm hK 30 3948 x y (hp t x hx).2.1) (fun t x y hx=>Bzv hK 30 3978 x y (hp t x hx).2.1) s t)
theorem B0u{g:G}(s t:ByteArray):F8 g [.str s.data.toList,.str t.data.toList] #[.string s,.string t]:=⟨rfl,fun j d v h h'=>by
 match j with
 |0=>cases h;cases h';exact VR.str s
 |1=>cases h;cases h';exact VR.str t
 |j+2=>cases h⟩
theorem B0t{W:World}(hL:A6p W)(s t:ByteArray):Calls prog 4 #[.string s,.string t] W fun e W'=>e= .returned (.bool true)∧Aps W W':=by refine(At2 hL (fun hK=>Bzx hK s.data.toList t.data.toList) (B0u s t)).mono ?_;rintro e W' ⟨r,g',rfl,hv,hk⟩;cases hv;exact⟨rfl,hk⟩
end Go.Vam
