/- P. -/
import Derived.Test.YtiobopjhbneieaaGreatDoorVda
set_option linter.unusedSimpArgs false
set_option linter.unusedVariables false
set_option linter.unusedSectionVars false
noncomputable section
set_option maxRecDepth 1000000
namespace Go.Vam
open Go.Proofs Go.Proofs.Tryz
def Bdd:Nat→Nat:=fun _=>0
def Biy(s:List UInt8):Option (List Wd):=match Y8 s with
 | .ok ws=>some (ws.map (shW Bdd))
 | .error _=>none
theorem Bq5{s:List UInt8}{w:Wd}{e:Nat}(h0:Db false s=0)(hs:0<s.length)(hw:Fq s 0=some (w,e)):Y8 s=match shL (· +e) (Y8 (s.drop e))with
  | .ok l=> .ok (w::l)
  | .error j=> .error j:=by
 obtain⟨h1,h2⟩:=Mq hs hw;unfold Y8;rw[h0,M6,if_pos hs,hw];simp only;have hl:(s.take e).length=e:=by rw[List.length_take];omega
 have h4:=Bny (s.take e) (s.drop e) s.length (Db false (s.drop e));rw[List.take_append_drop,hl]at h4;have h5:=O7 false (s.drop e);rw[Nat.add_comm e,h4,Bpd (s.drop e) s.length ((s.drop e).length+1) _ (by rw[List.length_drop];omega) (by omega)]
 generalize shL (fun x=>x+e) (M6 ((s.drop e).length+1) (s.drop e) (Db false (s.drop e)))=o;cases o<;>rfl
theorem Bmd{s:List UInt8}{w:Wd}{e:Nat}(h0:Db false s=0)(hs:0<s.length)(hw:Fq s 0=some (w,e)):Biy s=(Biy (s.drop e)).map (shW Bdd w:: ·):=by
 unfold Biy;rw[Bq5 h0 hs hw];cases Y8 (s.drop e)with
 |error j=>rfl
 |ok l=>simp only[shL,List.map_cons,List.map_map,Option.map_some];rfl
theorem Brp(r:List UInt8):Biy (32::r)=Biy r:=by
 have h:Y8 (32::r)=shL (· +1) (Y8 r):=by
  have h:=Bny [32] r (r.length+2) (Db false r);unfold Y8;show M6 (r.length+1+1) ([32]++r) (1+Db false r)=_;rw[Nat.add_comm 1];refine h.trans ?_;rw[Bpd r (r.length+2) (r.length+1) _ (by omega) (by omega)]
  rfl
 unfold Biy;rw[h];cases Y8 r with
 |error j=>rfl
 |ok l=>simp only[shL,List.map_map];rfl
def nW(t:List UInt8):Wd:=⟨1,0,t⟩
def pW(c:UInt8):Wd:=⟨3,0,[c]⟩
def tW(t:List UInt8):Wd:=⟨2,0,t⟩
def Bra(t:List UInt8):Prop:=∀b∈t,De b=true
theorem Bp8:∀{w r:List UInt8},Bra w→D7 r=0→D7 (w++r)=w.length
 | [],_,_,h=>h
 |b::w,r,h,h2=>by
  show D7 (b::(w++r))=_;rw[D7,if_pos (h b (by simp)),Bp8 (fun c hc=>h c (by simp[hc])) h2,List.length_cons]
  omega
theorem Bp2{b:UInt8}(h:De b=true)(r:List UInt8):Db false (b::r)=0:=by
 have h1:Iw b=false:=by unfold Iw;rw[Bool.eq_false_iff];intro hb;simp only[Bool.or_eq_true,beq_iff_eq]at hb;rcases hb with((hb|hb)|hb)|hb<;>subst hb<;>exact absurd h (by decide)
 have h2:(b == 35)=false:=by rw[beq_eq_false_iff_ne];intro hb;subst hb;exact absurd h (by decide)
 unfold Db;rw[h1,h2];rfl
theorem Bqq{w r:List UInt8}(hne:w≠ [])(hw:Bra w)(hr:D7 r=0):Biy (w++r)=(Biy r).map (nW w:: ·):=by
 have hl:=Bp8 hw hr;have hp:0<w.length:=List.length_pos_iff.2 hne;have h1:Fq (w++r) 0=some (⟨1,0,w⟩,w.length):=by
  unfold Fq;rw[List.drop_zero,hl,if_pos (by omega)]
  simp
 rw[Bmd (w:=⟨1,0,w⟩) (e:=w.length) (by
  cases w with
  |nil=>exact absurd rfl hne
  |cons b w=>exact Bp2 (hw b (by simp)) _) (by rw[List.length_append];omega) h1]
 simp only[List.drop_left];rfl
theorem Bqo{c:UInt8}(r:List UInt8)(h1:De c=false)(h2:(c == 34)=false)(h3:O5.contains c=true)(h4:Iw c=false)(h5:(c == 35)=false):Biy (c::r)=(Biy r).map (pW c:: ·):=by
 have hw:Fq (c::r) 0=some (⟨3,0,[c]⟩,1):=by
  unfold Fq;rw[List.drop_zero];have:D7 (c::r)=0:=by unfold D7;rw[h1];rfl
  rw[this,if_neg (by decide)]
  show(if(c == 34)=true then _ else if O5.contains c=true then some ((⟨3,0,[c]⟩:Wd),0+1)else none)=_;rw[h2,h3];rfl
 exact Bmd (w:=⟨3,0,[c]⟩) (e:=1) (by unfold Db;rw[h4,h5];rfl) (by simp) hw
def hxB(n:Nat):UInt8:=Ic.getD n 0
def qB(c:UInt8):List UInt8:=if c == 34 || c == 92 then[92,c]else if c == 10 then[92,110]else if c == 9 then[92,116]else if decide ((c.toNat:Int)<32) || decide (126<(c.toNat:Int))then[92,120,hxB (c.toNat / 16),hxB (c.toNat % 16)]else[c]
def qsP:List UInt8→List UInt8
 | []=> []
 |c::t=>qB c++qsP t
def Bl9(t:List UInt8):List UInt8:=34::(qsP t++ [34])
def Bs8(n:Nat):Bool:=Ic.contains (hxB (n / 16)) && Ic.contains (hxB (n % 16)) && (UInt8.ofNat (16*Ih (hxB (n / 16))+Ih (hxB (n % 16))) == UInt8.ofNat n)
theorem Btg:(List.range 256).all Bs8=true:=by kernel_rfl
theorem Bty(c:UInt8):Ic.contains (hxB (c.toNat / 16))=true∧Ic.contains (hxB (c.toNat % 16))=true∧UInt8.ofNat (16*Ih (hxB (c.toNat / 16))+Ih (hxB (c.toNat % 16)))=c:=by have h:=List.all_eq_true.1 Btg c.toNat (List.mem_range.2 c.toNat_lt);unfold Bs8 at h;simp only[Bool.and_eq_true,beq_iff_eq]at h;exact⟨h.1.1,h.1.2,h.2.trans UInt8.ofNat_toNat⟩
theorem so2{t:List UInt8}{a b:Nat}(h:a=b):some (t,a)=some (t,b):=by rw[h]
theorem Bkc:∀(t:List UInt8) (n:Nat) (r:List UInt8),(qsP t).length<n→Dv n (qsP t++34::r)=some (t,(qsP t).length+1)
 |_,0,_,h=>by omega
 | [],n+1,r,_=>rfl
 |c::t,n+1,r,h=>by
  have e:qsP (c::t)=qB c++qsP t:=rfl;rw[e]at h ⊢;rw[List.length_append]at h;rw[List.append_assoc,List.length_append];unfold qB at h ⊢;split
  ·rename_i hc;rw[if_pos hc]at h;simp only[List.length_cons,List.length_nil]at h;have hi:=Bkc t n r (by omega)
   simp only[Bool.or_eq_true,beq_iff_eq]at hc;rcases hc with hc|hc<;>subst hc<;>
   ·show((Dv n (qsP t++34::r)).map fun p=>(_::p.1,1+1+p.2))=_;rw[hi];simp only[Option.map_some];exact so2 (by simp only[List.length_cons,List.length_nil];omega)
  split
  ·rename_i hn hc;rw[if_neg hn,if_pos hc]at h;simp only[List.length_cons,List.length_nil]at h;have hi:=Bkc t n r (by omega)
   rw[beq_iff_eq]at hc;subst hc;show((Dv n (qsP t++34::r)).map fun p=>(_::p.1,1+1+p.2))=_;rw[hi];simp only[Option.map_some];exact so2 (by simp only[List.length_cons,List.length_nil];omega)
  split
  ·rename_i hn hm hc;rw[if_neg hn,if_neg hm,if_pos hc]at h;simp only[List.length_cons,List.length_nil]at h;have hi:=Bkc t n r (by omega)
   rw[beq_iff_eq]at hc;subst hc;show((Dv n (qsP t++34::r)).map fun p=>(_::p.1,1+1+p.2))=_;rw[hi];simp only[Option.map_some];exact so2 (by simp only[List.length_cons,List.length_nil];omega)
  split
  ·rename_i hn hm hl hc;rw[if_neg hn,if_neg hm,if_neg hl,if_pos hc]at h;simp only[List.length_cons,List.length_nil]at h;have hi:=Bkc t n r (by omega)
   obtain⟨h1,h2,h3⟩:=Bty c;have he:Ht (120::hxB (c.toNat / 16)::hxB (c.toNat % 16)::(qsP t++34::r))=some (c,3):=by show(if(Ic.contains (hxB (c.toNat / 16)) && Ic.contains (hxB (c.toNat % 16)))=true then some (UInt8.ofNat (16*Ih (hxB (c.toNat / 16))+Ih (hxB (c.toNat % 16))),3)else none)=_;rw[h1,h2,h3];rfl
   show(match Ht (120::hxB (c.toNat / 16)::hxB (c.toNat % 16)::(qsP t++34::r))with
    |none=>none
    |some (d,k)=>(Dv n ((120::hxB (c.toNat / 16)::hxB (c.toNat % 16)::(qsP t++34::r)).drop k)).map fun p:List UInt8 × Nat=>(d::p.1,1+k+p.2))=_
   rw[he];show((Dv n (qsP t++34::r)).map fun p=>(c::p.1,1+3+p.2))=_;rw[hi];simp only[Option.map_some];exact so2 (by simp only[List.length_cons,List.length_nil];omega)
  ·rename_i hn hm hl hc;rw[if_neg hn,if_neg hm,if_neg hl,if_neg hc]at h;simp only[List.length_cons,List.length_nil]at h;have hi:=Bkc t n r (by omega)
   simp only[Bool.or_eq_true,not_or,Bool.not_eq_true]at hn;show(if c == 34 then some ([],1)else if c == 92 then _ else if decide ((c.toNat:Int)<32) || decide (126<(c.toNat:Int))then none else(Dv n (qsP t++34::r)).map fun p=>(c::p.1,1+p.2))=_;rw[hn.1,hn.2,if_neg (by decide),if_neg (by decide),if_neg hc,hi]
   simp only[Option.map_some];exact so2 (by simp only[List.length_cons,List.length_nil];omega)
theorem Bqn(t r:List UInt8):Biy (Bl9 t++r)=(Biy r).map (tW t:: ·):=by
 have e:Bl9 t++r=34::(qsP t++34::r):=by simp[Bl9]
 have hw:Fq (34::(qsP t++34::r)) 0=some (⟨2,0,t⟩,(qsP t).length+2):=by
  unfold Fq;rw[List.drop_zero,if_neg (show ¬ D7 (34::(qsP t++34::r))≠0 from by intro h;exact h rfl)]
  show((Dv ((qsP t++34::r).length+1 - (0+1)+1) (qsP t++34::r)).map fun p=>((⟨2,0,p.1⟩:Wd),0+1+p.2))=_;rw[Bkc t _ r (by rw[List.length_append];omega)]
  simp only[Option.map_some];rw[show 0+1+((qsP t).length+1)=(qsP t).length+2 from by omega]
 rw[e,Bmd (w:=⟨2,0,t⟩) (e:=(qsP t).length+2) rfl (by simp) hw]
 have:(34::(qsP t++34::r)).drop ((qsP t).length+2)=r:=by show(qsP t++34::r).drop ((qsP t).length+1)=r;rw[List.drop_append];simp
 rw[this];rfl
def Asy:Qy→Bool
 | .lt _ _ _ _=>true
 |_=>false
def Bmf(k:Int):Bool:=k == 3 || (k == 4 || k == 5)
def Aud:Qy→Bool
 | .bin k _ _ _=>Bmf k
 |_=>false
def sgB(k:Int):UInt8:=if k=3 then 43 else if k=4 then 94 else 45
def inP(b:Bool)(t:List UInt8):List UInt8:=if b then 40::(t++ [41])else t
def Bqg(r:Bool)(ln:List UInt8):List UInt8:=if r then 58::ln else ln
def Asz:Qy→List UInt8
 | .label _ r ln=>Bqg r ln
 | .var _ nm=>36::nm
 | .bin k _ x y=>if Bmf k then inP (Asy x) (Asz x)++(32::sgB k::32::inP (Asy y || Aud y) (Asz y))else(if k=8 then Afo else Zq)++(40::(Asz x++(44::32::(Asz y++ [41]))))
 | .un k _ nm n x=>if k=6 then Aj1++(40::(Asz x++(if 0≤n then 44::32::(P7 n.toNat++ [41])else[41])))else if k=7 then Abt++(40::(Asz x++ [41]))
  else if k=10 then Ake++(40::(nm++(44::32::(Asz x++ [41]))))else X5++(40::(Bl9 nm++(44::32::(Asz x++ [41]))))
 | .lt _ nm x y=>Ib++(32::(nm++(32::61::32::(Asz x++(32::(Vx++(32::Asz y)))))))
 | .whole _=>A76++ [40,41]
def sgW(k:Int):Wd:=if k=5 then nW [45]else pW (sgB k)
def inW(b:Bool)(t:List Wd):List Wd:=if b then pW 40::(t++ [pW 41])else t
def toks:Qy→List Wd
 | .label _ r ln=>if r then[pW 58,nW ln]else[nW ln]
 | .var _ nm=> [pW 36,nW nm]
 | .bin k _ x y=>if Bmf k then inW (Asy x) (toks x)++(sgW k::inW (Asy y || Aud y) (toks y))else nW (if k=8 then Afo else Zq)::pW 40::(toks x++(pW 44::(toks y++ [pW 41])))
 | .un k _ nm n x=>if k=6 then nW Aj1::pW 40::(toks x++(if 0≤n then[pW 44,nW (P7 n.toNat),pW 41]else[pW 41]))else if k=7 then nW Abt::pW 40::(toks x++ [pW 41])
  else if k=10 then nW Ake::pW 40::nW nm::pW 44::(toks x++ [pW 41])else nW X5::pW 40::tW nm::pW 44::(toks x++ [pW 41])
 | .lt _ nm x y=>nW Ib::nW nm::pW 61::(toks x++(nW Vx::toks y))
 | .whole _=> [nW A76,pW 40,pW 41]
def Bkp(t:List UInt8):Prop:=t≠ []∧Bra t
def Br8:Qy→Prop
 | .label _ _ ln=>Bkp ln
 | .var _ nm=>Bkp nm
 | .bin k _ _ _=>k=3∨k=4∨k=5∨k=8∨k=9
 | .un k _ nm n _=>(k=6∧nm= []∧(n= -1∨(0≤n∧Bkp (P7 n.toNat))))∨(k=7∧nm= []∧n=0)∨(k=10∧n=0∧Bkp nm)∨(k=11∧n=0)
 | .lt _ nm _ _=>Bkp nm
 | .whole _=>True
def Aqf(s r:List UInt8)(ts:List Wd):Prop:=Biy s=(Biy r).map (ts++ ·)
theorem Aqf.nil(r:List UInt8):Aqf r r []:=by unfold Aqf;cases Biy r<;>rfl
theorem Aqf.trans{a b c:List UInt8}{t u:List Wd}(h:Aqf a b t)(h2:Aqf b c u):Aqf a c (t++u):=by unfold Aqf at*;rw[h,h2];cases Biy c<;>simp
theorem Aqf.cons{a b c:List UInt8}{w:Wd}{u:List Wd}(h:Aqf a b [w])(h2:Aqf b c u):Aqf a c (w::u):=h.trans h2
theorem Aqf.sp{a b:List UInt8}{u:List Wd}(h:Aqf a b u):Aqf (32::a) b u:=by unfold Aqf at*;rw[Brp,h]
theorem Aqf.name{w r:List UInt8}(h:Bkp w)(hr:D7 r=0):Aqf (w++r) r [nW w]:=Bqq h.1 h.2 hr
theorem Aqf.sign{c:UInt8}{r:List UInt8}(h1:De c=false)(h2:(c == 34)=false)(h3:O5.contains c=true)(h4:Iw c=false)(h5:(c == 35)=false):Aqf (c::r) r [pW c]:=Bqo r h1 h2 h3 h4 h5
theorem Aqf.text{t r:List UInt8}:Aqf (Bl9 t++r) r [tW t]:=Bqn t r
theorem Bix{t:List UInt8}(h:(!t.isEmpty && t.all De)=true):Bkp t:=by simp only[Bool.and_eq_true,Bool.not_eq_true',List.all_eq_true]at h;exact⟨fun e=>by rw[e]at h;exact absurd h.1 (by decide),h.2⟩
theorem Bog{b:Bool}{t:List UInt8}{u:List Wd}(h:∀r,D7 r=0→Aqf (t++r) r u)(r:List UInt8)(hr:D7 r=0):Aqf (inP b t++r) r (inW b u):=by
 cases b with
 |false=>exact h r hr
 |true=>
  show Aqf (40::(t++ [41])++r) r (pW 40::(u++ [pW 41]));rw[show(40::(t++ [41])++r:List UInt8)=40::(t++(41::r))from by simp]
  exact(Aqf.sign rfl rfl rfl rfl rfl).cons ((h (41::r) rfl).trans (Aqf.sign rfl rfl rfl rfl rfl))
theorem Bjc:∀(x:Qy),Aem Br8 x→∀r,D7 r=0→Aqf (Asz x++r) r (toks x)
 | .label a rl ln,h,r,hr=>by
  cases rl with
  |false=>exact Aqf.name h hr
  |true=>exact(Aqf.sign rfl rfl rfl rfl rfl).cons (Aqf.name h hr)
 | .var a nm,h,r,hr=>(Aqf.sign (c:=36) rfl rfl rfl rfl rfl).cons (Aqf.name h hr)
 | .whole a,h,r,hr=>by show Aqf (A76++(40::41::r)) r _;exact(Aqf.name (Bix rfl) rfl).cons ((Aqf.sign rfl rfl rfl rfl rfl).cons (Aqf.sign rfl rfl rfl rfl rfl))
 | .lt a nm x y,h,r,hr=>by
  have hx:=Bjc x h.2.1;have hy:=Bjc y h.2.2;rw[show Asz (.lt a nm x y)++r=Ib++(32::(nm++(32::61::32::(Asz x++(32::(Vx++(32::(Asz y++r))))))))from by simp[Asz]]
  exact(Aqf.name (Bix rfl) rfl).cons (Aqf.sp ((Aqf.name h.1 rfl).cons (Aqf.sp ((Aqf.sign rfl rfl rfl rfl rfl).cons (Aqf.sp ((hx _ rfl).trans (Aqf.sp ((Aqf.name (Bix rfl) rfl).cons (Aqf.sp (hy r hr))))))))))
 | .un k a nm n x,h,r,hr=>by
  have hx:=Bjc x h.2;rcases h.1 with⟨rfl,_,hn⟩|⟨rfl,_,_⟩|⟨rfl,_,hn⟩|⟨rfl,_⟩
  ·rcases hn with rfl|⟨h0,hn⟩
   ·rw[show Asz (.un 6 a nm (-1) x)++r=Aj1++(40::(Asz x++(41::r)))from by simp[Asz]]
    exact(Aqf.name (Bix rfl) rfl).cons ((Aqf.sign rfl rfl rfl rfl rfl).cons ((hx _ rfl).trans (Aqf.sign rfl rfl rfl rfl rfl)))
   ·rw[show Asz (.un 6 a nm n x)++r=Aj1++(40::(Asz x++(44::32::(P7 n.toNat++(41::r)))))from by simp[Asz,h0]]
    rw[show toks (.un 6 a nm n x)=nW Aj1::pW 40::(toks x++ [pW 44,nW (P7 n.toNat),pW 41])from by simp[toks,h0]]
    exact(Aqf.name (Bix rfl) rfl).cons ((Aqf.sign rfl rfl rfl rfl rfl).cons ((hx _ rfl).trans ((Aqf.sign rfl rfl rfl rfl rfl).cons (Aqf.sp ((Aqf.name hn rfl).cons (Aqf.sign rfl rfl rfl rfl rfl))))))
  ·rw[show Asz (.un 7 a nm n x)++r=Abt++(40::(Asz x++(41::r)))from by simp[Asz]]
   exact(Aqf.name (Bix rfl) rfl).cons ((Aqf.sign rfl rfl rfl rfl rfl).cons ((hx _ rfl).trans (Aqf.sign rfl rfl rfl rfl rfl)))
  ·rw[show Asz (.un 10 a nm n x)++r=Ake++(40::(nm++(44::32::(Asz x++(41::r)))))from by simp[Asz]]
   exact(Aqf.name (Bix rfl) rfl).cons ((Aqf.sign rfl rfl rfl rfl rfl).cons ((Aqf.name hn rfl).cons ((Aqf.sign rfl rfl rfl rfl rfl).cons (Aqf.sp ((hx _ rfl).trans (Aqf.sign rfl rfl rfl rfl rfl))))))
  ·rw[show Asz (.un 11 a nm n x)++r=X5++(40::(Bl9 nm++(44::32::(Asz x++(41::r)))))from by simp[Asz]]
   exact(Aqf.name (Bix rfl) rfl).cons ((Aqf.sign rfl rfl rfl rfl rfl).cons (Aqf.text.cons ((Aqf.sign rfl rfl rfl rfl rfl).cons (Aqf.sp ((hx _ rfl).trans (Aqf.sign rfl rfl rfl rfl rfl))))))
 | .bin k a x y,h,r,hr=>by
  have hx:=Bjc x h.2.1;have hy:=Bjc y h.2.2;have hs:∀(b:List UInt8) (k:Int),k=3∨k=4∨k=5→Aqf (sgB k::32::b) (32::b) [sgW k]:=fun b k hk=>by
   rcases hk with rfl|rfl|rfl
   ·exact Aqf.sign rfl rfl rfl rfl rfl
   ·exact Aqf.sign rfl rfl rfl rfl rfl
   ·exact Aqf.name (w:= [45]) (Bix rfl) rfl
  have hS:k=3∨k=4∨k=5→Aqf (Asz (.bin k a x y)++r) r (toks (.bin k a x y)):=fun hk=>by
   have hb:Bmf k=true:=by rcases hk with rfl|rfl|rfl<;>rfl
   rw[show Asz (.bin k a x y)++r=inP (Asy x) (Asz x)++(32::sgB k::32::(inP (Asy y || Aud y) (Asz y)++r))from by simp[Asz,hb]]
   rw[show toks (.bin k a x y)=inW (Asy x) (toks x)++(sgW k::inW (Asy y || Aud y) (toks y))from by simp[toks,hb]]
   exact(Bog hx _ rfl).trans (Aqf.sp ((hs _ k hk).cons (Aqf.sp (Bog hy r hr))))
  rcases h.1 with hk|hk|hk|rfl|rfl
  ·exact hS (.inl hk)
  ·exact hS (.inr (.inl hk))
  ·exact hS (.inr (.inr hk))
  ·rw[show Asz (.bin 8 a x y)++r=Afo++(40::(Asz x++(44::32::(Asz y++(41::r)))))from by simp[Asz,Bmf]]
   exact(Aqf.name (Bix rfl) rfl).cons ((Aqf.sign rfl rfl rfl rfl rfl).cons ((hx _ rfl).trans ((Aqf.sign rfl rfl rfl rfl rfl).cons (Aqf.sp ((hy _ rfl).trans (Aqf.sign rfl rfl rfl rfl rfl))))))
  ·rw[show Asz (.bin 9 a x y)++r=Zq++(40::(Asz x++(44::32::(Asz y++(41::r)))))from by simp[Asz,Bmf]]
   exact(Aqf.name (Bix rfl) rfl).cons ((Aqf.sign rfl rfl rfl rfl rfl).cons ((hx _ rfl).trans ((Aqf.sign rfl rfl rfl rfl rfl).cons (Aqf.sp ((hy _ rfl).trans (Aqf.sign rfl rfl rfl rfl rfl))))))
def Bj7(may:List UInt8→Bool)(gn:List UInt8→Int × Bool):Qy→Prop
 | .label _ _ ln=>may ln=true
 | .var _ nm=>may nm=true
 | .bin k _ _ _=>k=3∨k=4∨k=5∨k=8∨k=9
 | .un k _ nm n _=>(k=6∧nm= []∧(n= -1∨∃t,gn t=(n,true)))∨(k=7∧nm= []∧n=0)∨(k=10∧n=0∧Jd nm=true)∨(k=11∧n=0)
 | .lt _ nm _ _=>may nm=true
 | .whole _=>True
section
variable{L:Nat}{may:List UInt8→Bool}{gn:List UInt8→Int × Bool}
theorem Aze(c:UInt8)(ws:List Wd):A8 L ⟨pW c::ws,none⟩ 3 [c]=⟨ws,none⟩:=by
 unfold A8;rw[if_pos (by simp[Ry,pW,Cn])]
 rfl
theorem Brj(t:List UInt8)(ws:List Wd):A8 L ⟨nW t::ws,none⟩ 1 t=⟨ws,none⟩:=by
 unfold A8;rw[if_pos (by simp[Ry,nW,Cn])]
 rfl
theorem Bme{m:List UInt8→Bool}{t:List UInt8}(ws:List Wd)(h:m t=true):Bb L ⟨nW t::ws,none⟩ 1 m=(t,⟨ws,none⟩):=by
 unfold Bb;rw[if_pos (by simp[M9,nW,Cn,h])]
 rfl
theorem Bse{t:List UInt8}(ws:List Wd):Bb L ⟨tW t::ws,none⟩ 2 (fun _=>true)=(t,⟨ws,none⟩):=by
 unfold Bb;rw[if_pos (by simp[M9,tW,Cn])]
 rfl
theorem Bjs(t u:List UInt8)(ws:List Wd):Ry L ⟨nW t::ws,none⟩ 1 u=(t == u):=by simp[Ry,nW,Cn]
theorem Bgl(t u:List UInt8)(ws:List Wd):Ry L ⟨nW t::ws,none⟩ 3 u=false:=by simp[Ry,nW,Cn]
theorem Bjo(c d:UInt8)(ws:List Wd):Ry L ⟨pW c::ws,none⟩ 3 [d]=(c == d):=by simp[Ry,pW,Cn]
theorem Boq(c:UInt8)(u:List UInt8)(ws:List Wd):Ry L ⟨pW c::ws,none⟩ 1 u=false:=by simp[Ry,pW,Cn]
theorem Bqm(t:List UInt8)(ws:List Wd):Ij L ⟨nW t::ws,none⟩=Bl.tail.contains t:=by simp[Ij,nW,Cn]
theorem Bgz{c:UInt8}(ws:List Wd)(h:(c == 43)=false)(h2:(c == 94)=false):Hz L ⟨pW c::ws,none⟩=0:=by unfold Hz;simp only[Bjo,Boq,h,h2,BF]
theorem Brz(ws:List Wd):Hz L ⟨nW Vx::ws,none⟩=0:=by unfold Hz;rw[Bgl,Bgl,Bjs];rfl
theorem Bp9:Hz L ⟨[],none⟩=0:=by simp[Hz,Ry,Cn,Nq]
theorem Bri{k:Int}(ws:List Wd)(h:k=3∨k=4∨k=5):Hz L ⟨sgW k::ws,none⟩=k:=by
 rcases h with rfl|rfl|rfl
 ·show Hz L ⟨pW 43::ws,none⟩=3;unfold Hz;rw[Bjo];rfl
 ·show Hz L ⟨pW 94::ws,none⟩=4;unfold Hz;rw[Bjo,Bjo];rfl
 ·show Hz L ⟨nW [45]::ws,none⟩=5;unfold Hz;rw[Bgl,Bgl,Bjs];rfl
theorem Brf(k:Int):(sgW k).at_=0:=by unfold sgW;split<;>rfl
theorem A31{t:List UInt8}{ws:List Wd}{n:Nat}(ht:Bl.tail.contains t=true):Jv L may gn (n+2) ⟨nW t::pW 40::ws,none⟩=match Q7 L gn (Fe L may gn n) 0 t ⟨ws,none⟩with
  |none=>none
  |some (x,s1)=>some (x,A8 L s1 3 [41]):=by
 unfold Jv;rw[Bgl,Bgl,Bgl,Bqm,ht];simp only[BF,if_true];unfold Py;show(match Q7 L gn (Fe L may gn n) 0 t (A8 L ⟨pW 40::ws,none⟩ 3 [40])with
  |none=>none
  |some (x,s1)=>some (x,A8 L s1 3 [41]))=_
 rw[Aze]
def bnd(L:Nat)(item:PS→Option (Qy × PS))(m:Nat)(s:PS):Option (Qy × PS):=match item s with
 |none=>none
 |some (x,s1)=>Kw L item m x s1
structure Boz(L:Nat)(may:List UInt8→Bool)(gn:List UInt8→Int × Bool)(q:Qy):Prop where
 it:Df q≤1000→Asy q=false→Aud q=false→∀n ws,4*Df q≤n+2→Jv L may gn n ⟨toks q++ws,none⟩=some (shQ Bdd q,⟨ws,none⟩)
 su:Df q≤1000→Asy q=false→∀n m ws,4*Df q≤n+2→Df q≤m→∃m',m≤m'+Df q∧bnd L (Jv L may gn n) m ⟨toks q++ws,none⟩=Kw L (Jv L may gn n) m' (shQ Bdd q) ⟨ws,none⟩
 qu:Df q≤1000→∀n ws,4*Df q≤n→Hz L ⟨ws,none⟩=0→Fe L may gn n ⟨toks q++ws,none⟩=some (shQ Bdd q,⟨ws,none⟩)
theorem Boi(hM:∀t,may t=true→Bl.contains t=false):∀(q:Qy),Aem (Bj7 may gn) q→Asy q=false→∀ws,Ry L ⟨toks q++ws,none⟩ 1 Ib=false
 | .label a r ln,h,_,ws=>by
  cases r with
  |true=>exact Boq _ _ _
  |false=>show Ry L ⟨nW ln::ws,none⟩ 1 Ib=false;rw[Bjs,beq_eq_false_iff_ne];intro e;have:=hM _ h;rw[e]at this;exact absurd this (by decide)
 | .var a nm,h,_,ws=>Boq _ _ _
 | .whole a,h,_,ws=>by show Ry L ⟨nW A76::_,none⟩ 1 Ib=false;rw[Bjs];rfl
 | .lt a nm x y,h,hl,ws=>by cases hl
 | .un k a nm n x,h,_,ws=>by
  rcases h.1 with⟨rfl,_⟩|⟨rfl,_⟩|⟨rfl,_⟩|⟨rfl,_⟩
  ·exact(Bjs Aj1 Ib _).trans rfl
  ·exact(Bjs Abt Ib _).trans rfl
  ·exact(Bjs Ake Ib _).trans rfl
  ·exact(Bjs X5 Ib _).trans rfl
 | .bin k a x y,h,_,ws=>by
  have hS:Bmf k=true→Ry L ⟨toks (.bin k a x y)++ws,none⟩ 1 Ib=false:=fun hb=>by
   rw[show toks (.bin k a x y)++ws=inW (Asy x) (toks x)++(sgW k::inW (Asy y || Aud y) (toks y)++ws)from by simp[toks,hb]]
   cases hx:Asy x with
   |true=>exact Boq _ _ _
   |false=>exact Boi hM x h.2.1 hx _
  rcases h.1 with rfl|rfl|rfl|rfl|rfl
  ·exact hS rfl
  ·exact hS rfl
  ·exact hS rfl
  ·exact(Bjs Afo Ib _).trans rfl
  ·exact(Bjs Zq Ib _).trans rfl
theorem Bm3{x:Qy}(hx:Boz L may gn x)(hd:Df x≤1000){b:Bool}(hb:b=false→Asy x=false∧Aud x=false){n:Nat}{ws:List Wd}(hn:4*Df x+2≤n):
  Jv L may gn n ⟨inW b (toks x)++ws,none⟩=some (shQ Bdd x,⟨ws,none⟩):=by
 cases b with
 |false=>exact hx.it hd (hb rfl).1 (hb rfl).2 n ws (by omega)
 |true=>
  obtain⟨n,rfl⟩:∃m,n=m+1:=⟨n - 1,by omega⟩
  rw[show inW true (toks x)++ws=pW 40::(toks x++(pW 41::ws))from by simp[inW]]
  unfold Jv;rw[Bjo,Bjo,Bjo,Aze,hx.qu hd n (pW 41::ws) (by omega) (Bgz ws rfl rfl)]
  simp only[show((40:UInt8) == 58)=false from rfl,show((40:UInt8) == 36)=false from rfl,show((40:UInt8) == 40)=true from rfl,BF,if_true,Aze]
theorem Boz.of_item(hM:∀t,may t=true→Bl.contains t=false){q:Qy}(h:Aem (Bj7 may gn) q)(hl:Asy q=false)
  (su:Df q≤1000→∀n m ws,4*Df q≤n+2→Df q≤m→∃m',m≤m'+Df q∧bnd L (Jv L may gn n) m ⟨toks q++ws,none⟩=Kw L (Jv L may gn n) m' (shQ Bdd q) ⟨ws,none⟩)
  (it:Df q≤1000→Aud q=false→∀n ws,4*Df q≤n+2→Jv L may gn n ⟨toks q++ws,none⟩=some (shQ Bdd q,⟨ws,none⟩)):Boz L may gn q:=
 ⟨fun hd _ hs=>it hd hs,fun hd _=>su hd,fun hd n ws hn hsg=>by
  have hp:=Xv q;obtain⟨n,rfl⟩:∃m,n=m+2:=⟨n - 2,by omega⟩
  obtain⟨m',h1,h2⟩:=su hd n 1900 ws (by omega) (by omega)
  obtain⟨j,rfl⟩:∃j,m'=j+1:=⟨m' - 1,by omega⟩
  unfold Fe;rw[Boi hM q h hl];simp only[BF];unfold Uv;refine Eq.trans ?_ (h2.trans ?_)
  ·unfold bnd;rfl
  ·unfold Kw;rw[if_pos hsg]⟩
theorem Boz.item(hM:∀t,may t=true→Bl.contains t=false){q:Qy}(h:Aem (Bj7 may gn) q)(hl:Asy q=false)(it:Df q≤1000→∀n ws,4*Df q≤n+2→Jv L may gn n ⟨toks q++ws,none⟩=some (shQ Bdd q,⟨ws,none⟩)):Boz L may gn q:=
 Boz.of_item hM h hl (fun hd n m ws hn hm=>⟨m,by omega,by unfold bnd;rw[it hd n ws hn]⟩) (fun hd _=>it hd)
theorem Bj4(hM:∀t,may t=true→Bl.contains t=false)(hG:∀t n,gn t=(n,true)→0≤n∧P7 n.toNat=t):∀q:Qy,Aem (Bj7 may gn) q→Boz L may gn q
 | .label a r ln,h=>Boz.item hM h rfl fun _ n ws hn=>by
  obtain⟨n,rfl⟩:∃m,n=m+1:=⟨n - 1,by simp[Df]at hn;omega⟩
  have hc:=hM _ h;have hm:may ln=true:=h;cases r with
  |true=>show Jv L may gn (n+1) ⟨pW 58::nW ln::ws,none⟩=_;unfold Jv;rw[Bjo,Aze,Bme ws hm];rfl
  |false=>
   show Jv L may gn (n+1) ⟨nW ln::ws,none⟩=_;have hc2:Bl.tail.contains ln=false:=by simp only[Bl,List.tail_cons,List.contains_cons,Bool.or_eq_false_iff]at hc ⊢;exact hc.2
   unfold Jv;rw[Bgl,Bgl,Bgl,Bqm,hc2,Bme ws hm];rfl
 | .var a nm,h=>Boz.item hM h rfl fun _ n ws hn=>by
  obtain⟨n,rfl⟩:∃m,n=m+1:=⟨n - 1,by simp[Df]at hn;omega⟩
  have hm:may nm=true:=h;show Jv L may gn (n+1) ⟨pW 36::nW nm::ws,none⟩=_;unfold Jv;rw[Bjo,Bjo,Aze,Bme ws hm];rfl
 | .whole a,h=>Boz.item hM h rfl fun _ n ws hn=>by
  obtain⟨n,rfl⟩:∃m,n=m+2:=⟨n - 2,by simp[Df]at hn;omega⟩
  show Jv L may gn (n+2) ⟨nW A76::pW 40::pW 41::ws,none⟩=_;rw[A31 rfl];unfold Q7;rw[if_neg (by decide),if_neg (by decide),if_neg (by decide),if_neg (by decide),if_neg (by decide)]
  simp only[Aze];rfl
 | .lt a nm x y,h=>by
  have hx:=Bj4 hM hG x h.2.1;have hy:=Bj4 hM hG y h.2.2;have hm:may nm=true:=h.1;refine⟨fun _ hl=>absurd (show true=false from hl) (by decide),fun _ hl=>absurd (show true=false from hl) (by decide),fun hd n ws hn hsg=>?_⟩
  have hdx:Df (.lt a nm x y)=1+max (Df x) (Df y):=rfl;obtain⟨n,rfl⟩:∃m,n=m+1:=⟨n - 1,by omega⟩
  rw[show toks (.lt a nm x y)++ws=nW Ib::nW nm::pW 61::(toks x++(nW Vx::(toks y++ws)))from by simp[toks]]
  unfold Fe;rw[Bjs,Brj,Bme _ hm,Aze,hx.qu (by omega) n _ (by omega) (Brz _)]
  simp only[show(Ib == Ib)=true from rfl,if_true,Brj];rw[hy.qu (by omega) n ws (by omega) hsg]
  rfl
 | .un k a nm n0 x,h=>by
  have hx:=Bj4 hM hG x h.2;have hdx:Df (.un k a nm n0 x)=1+Df x:=rfl;refine Boz.item hM h rfl fun hd n ws hn=>?_;obtain⟨n,rfl⟩:∃m,n=m+2:=⟨n - 2,by omega⟩
  rcases h.1 with⟨rfl,rfl,hn0⟩|⟨rfl,rfl,rfl⟩|⟨rfl,rfl,hk⟩|⟨rfl,rfl⟩
  ·have hq:∀ws',Hz L ⟨ws',none⟩=0→Fe L may gn n ⟨toks x++ws',none⟩=some (shQ Bdd x,⟨ws',none⟩):=fun ws'=>hx.qu (by omega) n ws' (by omega)
   rcases hn0 with rfl|⟨t,ht⟩
   ·rw[show toks (.un 6 a [] (-1) x)++ws=nW Aj1::pW 40::(toks x++(pW 41::ws))from by simp[toks]]
    rw[A31 rfl];unfold Q7;rw[if_pos rfl,hq _ (Bgz ws rfl rfl)];simp only[Bjo,show((41:UInt8) == 44)=false from rfl,BF,Aze];rfl
   ·obtain⟨h0,h1⟩:=hG _ _ ht;rw[show toks (.un 6 a [] n0 x)++ws=nW Aj1::pW 40::(toks x++(pW 44::nW t::pW 41::ws))from by simp[toks,h0,h1]]
    rw[A31 rfl];unfold Q7;rw[if_pos rfl,hq _ (Bgz _ rfl rfl)];simp only[Bjo,show((44:UInt8) == 44)=true from rfl,if_true,Aze,Zk,Bme (m:=fun t=>(gn t).2) (t:=t) (pW 41::ws) (by rw[ht]),ht]
    rfl
  ·rw[show toks (.un 7 a [] 0 x)++ws=nW Abt::pW 40::(toks x++(pW 41::ws))from by simp[toks]]
   rw[A31 rfl];unfold Q7;rw[if_neg (by decide),if_pos rfl,hx.qu (by omega) n _ (by omega) (Bgz ws rfl rfl)]
   simp only[Aze];rfl
  ·rw[show toks (.un 10 a nm 0 x)++ws=nW Ake::pW 40::nW nm::pW 44::(toks x++(pW 41::ws))from by simp[toks]]
   rw[A31 rfl];unfold Q7;rw[if_neg (by decide),if_neg (by decide),if_neg (by decide),if_pos rfl,Bme (m:=Jd) _ hk]
   simp only[Aze];rw[hx.qu (by omega) n _ (by omega) (Bgz ws rfl rfl)]
   simp only[Aze];rfl
  ·rw[show toks (.un 11 a nm 0 x)++ws=nW X5::pW 40::tW nm::pW 44::(toks x++(pW 41::ws))from by simp[toks]]
   rw[A31 rfl];unfold Q7;rw[if_neg (by decide),if_neg (by decide),if_neg (by decide),if_neg (by decide),if_pos rfl,Bse]
   simp only[Aze];rw[hx.qu (by omega) n _ (by omega) (Bgz ws rfl rfl)]
   simp only[Aze];rfl
 | .bin k a x y,h=>by
  have hx:=Bj4 hM hG x h.2.1;have hy:=Bj4 hM hG y h.2.2;have hdx:Df (.bin k a x y)=1+max (Df x) (Df y):=rfl;have hS:(k=3∨k=4∨k=5)→Boz L may gn (.bin k a x y):=fun hk=>by
   have hb:Bmf k=true:=by rcases hk with rfl|rfl|rfl<;>rfl
   refine Boz.of_item hM h rfl (fun hd n m ws hn hm=>?_) (fun _ hs=>by rw[show Aud (.bin k a x y)=Bmf k from rfl,hb]at hs;cases hs)
   rw[show toks (.bin k a x y)++ws=inW (Asy x) (toks x)++(sgW k::(inW (Asy y || Aud y) (toks y)++ws))from by simp[toks,hb]]
   have hfin:∀j,Kw L (Jv L may gn n) (j+1) (shQ Bdd x) ⟨sgW k::(inW (Asy y || Aud y) (toks y)++ws),none⟩=Kw L (Jv L may gn n) j (shQ Bdd (.bin k a x y)) ⟨ws,none⟩:=fun j=>by
    rw[Kw,Bri _ hk,if_neg (by omega)]
    show(match Jv L may gn n ⟨inW (Asy y || Aud y) (toks y)++ws,none⟩with
     |none=>none
     |some (y',s2)=>Kw L (Jv L may gn n) j (.bin k (sgW k).at_ (shQ Bdd x) y') s2)=_
    rw[Bm3 hy (by omega) (by simp) (by omega),Brf]
    rfl
   cases hlx:Asy x with
   |true=>
    refine⟨m - 1,by omega,?_⟩
    obtain⟨j,rfl⟩:∃j,m=j+1:=⟨m - 1,by omega⟩
    unfold bnd;rw[Bm3 hx (by omega) (by simp) (by omega)]
    exact hfin j
   |false=>
    obtain⟨m',h1,h2⟩:=hx.su (by omega) hlx n m (sgW k::(inW (Asy y || Aud y) (toks y)++ws)) (by omega) (by omega)
    obtain⟨j,rfl⟩:∃j,m'=j+1:=⟨m' - 1,by omega⟩
    exact⟨j,by omega,h2.trans (hfin j)⟩
  have hC:∀k',(k'=8∨k'=9)→k=k'→Boz L may gn (.bin k a x y):=fun k' hk e=>by
   refine Boz.item hM h rfl fun hd n ws hn=>?_;obtain⟨n,rfl⟩:∃m,n=m+2:=⟨n - 2,by omega⟩
   rcases hk with rfl|rfl<;>subst e
   ·rw[show toks (.bin 8 a x y)++ws=nW Afo::pW 40::(toks x++(pW 44::(toks y++(pW 41::ws))))from by simp[toks,Bmf]]
    rw[A31 rfl];unfold Q7;rw[if_neg (by decide),if_neg (by decide),if_pos (by decide),hx.qu (by omega) n _ (by omega) (Bgz _ rfl rfl)]
    simp only[Aze];rw[hy.qu (by omega) n _ (by omega) (Bgz _ rfl rfl)]
    simp only[Aze];rfl
   ·rw[show toks (.bin 9 a x y)++ws=nW Zq::pW 40::(toks x++(pW 44::(toks y++(pW 41::ws))))from by simp[toks,Bmf]]
    rw[A31 rfl];unfold Q7;rw[if_neg (by decide),if_neg (by decide),if_pos (by decide),hx.qu (by omega) n _ (by omega) (Bgz _ rfl rfl)]
    simp only[Aze];rw[hy.qu (by omega) n _ (by omega) (Bgz _ rfl rfl)]
    simp only[Aze];rfl
  rcases h.1 with hk|hk|hk|hk|hk
  ·exact hS (.inl hk)
  ·exact hS (.inr (.inl hk))
  ·exact hS (.inr (.inr hk))
  ·exact hC 8 (.inl rfl) hk
  ·exact hC 9 (.inr rfl) hk
theorem Bgf:∀q:Qy,Aem (Bj7 may gn) q→Df q≤(toks q).length
 | .label _ r _,_=>by cases r<;>simp[toks,Df]
 | .var _ _,_=>by simp[toks,Df]
 | .whole _,_=>by simp[toks,Df]
 | .lt a nm x y,h=>by have hx:=Bgf x h.2.1;have hy:=Bgf y h.2.2;simp only[toks,Df,List.length_cons,List.length_append];omega
 | .un k a nm n x,h=>by
  have hx:=Bgf x h.2;have e:Df (.un k a nm n x)=1+Df x:=rfl;unfold toks;split
  ·simp only[List.length_cons,List.length_append];omega
  split
  ·simp only[List.length_cons,List.length_append];omega
  split
  ·simp only[List.length_cons,List.length_append];omega
  ·simp only[List.length_cons,List.length_append];omega
 | .bin k a x y,h=>by
  have hx:=Bgf x h.2.1;have hy:=Bgf y h.2.2;have e:Df (.bin k a x y)=1+max (Df x) (Df y):=rfl;have hi:∀(b:Bool) (t:List Wd),t.length≤(inW b t).length:=fun b t=>by
   cases b with
   |false=>exact Nat.le_refl _
   |true=>simp only[inW,if_true,List.length_cons,List.length_append,List.length_nil];omega
  unfold toks;split
  ·have h1:=hi (Asy x) (toks x);have h2:=hi (Asy y || Aud y) (toks y);simp only[List.length_cons,List.length_append];omega
  ·simp only[List.length_cons,List.length_append];omega
end
section
variable{L:Nat}{may:List UInt8→Bool}{gn:List UInt8→Int × Bool}
variable{A B:Nat}
theorem Aem.imp{p q:Qy→Prop}(hp:∀x,p x→q x){x:Qy}(h:Aem p x):Aem q x:=Aem.mono hp h
theorem Brm{t:List UInt8}(h:Jd t=true):Bkp t:=by unfold Jd at h;simp only[Bool.or_eq_true,beq_iff_eq]at h;rcases h with h|h|h<;>subst h<;>exact Bix rfl
theorem Bkj{s:List UInt8}{ts:List Wd}{x':Qy}(hs:s.length≤400)(hlx:Biy s=some ts)(hq':∀L,Fe L may gn (4*ts.length+4) ⟨ts,none⟩=some (x',⟨[],none⟩))(hd:Df x'≤30):
  ∃y,Qx may gn s= .ok y∧shQ Bdd y=x':=by
 unfold Biy at hlx;unfold Qx;rw[if_neg (by omega)]
 cases hw:Y8 s with
 |error i=>rw[hw]at hlx;cases hlx
 |ok ws=>
  rw[hw]at hlx;simp only[Option.some.injEq]at hlx;obtain⟨y,s1,hq,_⟩:=Aae may gn s.length (ws:=ws) (by have:=(Awq (by omega) hw).1;omega)
  simp only[hq];have h1:=(Bqc (L:=s.length) (may:=may) (gn:=gn) (k:=Bdd) (4*ws.length+4)).1 ⟨ws,none⟩;rw[hq,show shS Bdd ⟨ws,none⟩=⟨ts,none⟩from by unfold shS;rw[hlx];rfl]at h1
  have hlen:ws.length=ts.length:=by rw[← hlx,List.length_map]
  rw[hlen,hq']at h1;simp only[shO,Option.map_some,Option.some.injEq,Prod.mk.injEq]at h1;obtain⟨h3,h4⟩:=h1;refine⟨y,?_,h3.symm⟩;have h5:s1.ws= []∧s1.bad=none:=by unfold shS at h4;have h6:=congrArg PS.ws h4;have h7:=congrArg PS.bad h4;simp only at h6 h7;exact⟨List.map_eq_nil_iff.1 h6.symm,Option.map_eq_none_iff.1 h7.symm⟩
  obtain⟨ws1,b1⟩:=s1;simp only at h5;obtain⟨rfl,rfl⟩:=h5;have hdy:Df y=Df x':=by rw[h3,Bjr]
  show(if 30<Df y then .error (4,-1)else .ok y:Except (Int × Int) Qy)=_;rw[if_neg (by omega)]
theorem Bp6(hM:∀t,may t=true→Bkp t)(hG:∀t n,gn t=(n,true)→0≤n∧P7 n.toNat=t∧Bkp t){x:Qy}(ho:Aem (Bj7 may gn) x):Aem Br8 x:=Aem.mono (fun q hq=>by
  cases q with
  |label a r ln=>exact hM _ hq
  |var a nm=>exact hM _ hq
  |bin k a x y=>exact hq
  |un k a nm n x=>
   rcases hq with⟨h1,h2,h3⟩|hq|⟨h1,h2,h3⟩|hq
   ·refine .inl ⟨h1,h2,?_⟩;rcases h3 with h3|⟨t,h3⟩
    ·exact .inl h3
    ·obtain⟨g1,g2,g3⟩:=hG _ _ h3;exact .inr ⟨g1,by rw[g2];exact g3⟩
   ·exact .inr (.inl hq)
   ·exact .inr (.inr (.inl ⟨h1,h2,Brm h3⟩))
   ·exact .inr (.inr (.inr hq))
  |lt a nm x y=>exact hM _ hq
  |whole a=>trivial) ho
theorem Brd{x:Qy}(h:Aem Br8 x):Biy (Asz x)=some (toks x):=by have hlex:=Bjc x h [] rfl;unfold Aqf at hlex;rw[List.append_nil]at hlex;rw[hlex];show some (toks x++ [])=_;rw[List.append_nil]
theorem Bo8(hM:∀t,may t=true→Bl.contains t=false∧Bkp t)(hG:∀t n,gn t=(n,true)→0≤n∧P7 n.toNat=t∧Bkp t){x:Qy}(ho:Aem (Bj7 may gn) x)(hd:Df x≤30)(hl:(Asz x).length≤400):
  ∃y,Qx may gn (Asz x)= .ok y∧shQ Bdd y=shQ Bdd x:=by
 refine Bkj hl (Brd (Bp6 (fun t ht=>(hM t ht).2) hG ho)) (fun L=>?_) (by rw[Bjr];exact hd)
 have h2:=(Bj4 (L:=L) (fun t ht=>(hM t ht).1) (fun t n ht=>⟨(hG t n ht).1,(hG t n ht).2.1⟩) x ho).qu (by omega) (4*(toks x).length+4) [] (by have:=Bgf x ho;omega) Bp9
 rw[List.append_nil]at h2;exact h2
end
section
variable{C:Eo}{hh:Bool}{od:Nat→Option (List Nat × Bool)}{cf:Ah}{N:Nat}{Pw:Nat→Prop}{e:Env}{st st':St}{Q:Ex→Env→St→Prop}{R:Env→St→Prop}{ops:Array Oper}{l:List Nat}{B:Array Nat}
end
theorem Bqh:∀t:List UInt8,(∀p∈Bd t,∀b∈p,Ig b=true)→Bra t
 | [],_=>fun b hb=>by cases hb
 |c::r,h=>by
  have hs:∀b,Ig b=true→De b=true:=fun b hb=>by unfold Ig at hb;rw[Bool.and_eq_true]at hb;exact hb.1
  unfold Bd at h;by_cases hc:(c == 47)=true
  ·rw[if_pos hc]at h;rw[beq_iff_eq]at hc;subst hc;have ih:=Bqh r fun p hp=>h p (by simp[hp])
   intro b hb;rcases List.mem_cons.1 hb with rfl|hb
   ·decide
   ·exact ih b hb
  ·rw[if_neg hc]at h;have hne:=(Gj r).2;cases hp:Bd r with
   |nil=>exact absurd hp hne
   |cons p ps=>
    rw[hp]at h;have ih:=Bqh r fun q hq b hb=>by
     rw[hp]at hq;rcases List.mem_cons.1 hq with rfl|hq
     ·exact h (c::q) (by simp) b (by simp[hb])
     ·exact h q (by simp[hq]) b hb
    intro b hb;rcases List.mem_cons.1 hb with rfl|hb
    ·exact hs _ (h (b::p) (by simp) b (by simp))
    ·exact ih b hb
theorem Bzt{t:List UInt8}(h:nmP t=true):Bl.contains t=false∧Bkp t:=by
 have h0:nmP []=false:=by kernel_rfl
 have hne:t≠ []:=fun e=>by rw[e,h0]at h;cases h
 unfold nmP Aan at h;simp only[Bool.and_eq_true,Bool.not_eq_true']at h;obtain⟨⟨_,_,h1⟩,_,h2⟩:=h;refine⟨h2,hne,Bqh t fun p hp b hb=>?_⟩;rw[List.any_eq_false]at h1;have h3:=h1 p hp;unfold Cz at h3;simp only[Bool.or_eq_true,not_or,List.any_eq_true,not_exists,not_and,Bool.not_eq_true',Bool.not_eq_false]at h3;exact h3.2 b hb
theorem Bx4:(List.range 1001).all (fun n=>!(P7 n).isEmpty && (P7 n).all De)=true:=by kernel_rfl
theorem Btr{t:List UInt8}{n:Int}(h:gnP t=(n,true)):(0≤n∧n≤1000)∧P7 n.toNat=t∧Bkp t:=by
 unfold gnP at h;rw[← Aw6 t 1000 (by decide)]at h
 unfold Rb at h;split at h
 ·rename_i v _;split at h
  ·cases h
  split at h
  ·cases h
  split at h
  ·rename_i h1 h2 h3;cases h;refine⟨⟨by omega,by omega⟩,h3,?_⟩
   have h4:=List.all_eq_true.1 Bx4 n.toNat (List.mem_range.2 (by omega))
   rw[h3]at h4;exact Bix h4
  ·cases h
 ·cases h
theorem B0c(t:List UInt8)(n:Int)(h:gnP t=(n,true)):0≤n∧P7 n.toNat=t∧Bkp t:=⟨(Btr h).1.1,(Btr h).2⟩
theorem B4l{s l r:List UInt8}{a:Nat}{nm:List UInt8}(hs:s=l++36::r)(hl:(36:UInt8) ∉ l)(hr:(36:UInt8) ∉ r)(h:Bgc s (.var a nm)):a=l.length:=by
 obtain⟨h1,h2,_⟩:=h;replace h1:a+1≤s.length:=h1;replace h2:(s.drop a).take 1= [36]:=h2;have h3:s[a]?=some 36:=by
  have h:((s.drop a).take 1)[0]?=s[a]?:=by simp[List.getElem?_take,List.getElem?_drop]
  rw[h2]at h;exact h.symm
 subst hs;rcases Nat.lt_trichotomy a l.length with h|h|h
 ·rw[List.getElem?_append_left h]at h3;exact absurd (List.mem_of_getElem? h3) hl
 ·exact h
 ·rw[List.getElem?_append_right (by omega)]at h3
  obtain⟨k,hk⟩:∃k,a - l.length=k+1:=⟨a - l.length - 1,by omega⟩
  rw[hk,List.getElem?_cons_succ]at h3;exact absurd (List.mem_of_getElem? h3) hr
theorem B5w{y:Qy}{a:Nat}{nm:List UInt8}{X Y:Qy}(h:shQ Bdd y= .lt a nm X Y):∃p x' y',y= .lt p nm x' y'∧shQ Bdd x'=X∧shQ Bdd y'=Y:=by
 cases y with
 |lt p n x' y'=>simp only[shQ,Qy.lt.injEq]at h;obtain⟨_,rfl,h1,h2⟩:=h;exact⟨p,x',y',rfl,h1,h2⟩
 |_=>simp[shQ]at h
theorem B8b{y:Qy}{k:Int}{a:Nat}{X Y:Qy}(h:shQ Bdd y= .bin k a X Y):∃p x' y',y= .bin k p x' y'∧shQ Bdd x'=X∧shQ Bdd y'=Y:=by
 cases y with
 |bin c p x' y'=>simp only[shQ,Qy.bin.injEq]at h;obtain⟨rfl,_,h1,h2⟩:=h;exact⟨p,x',y',rfl,h1,h2⟩
 |_=>simp[shQ]at h
theorem B2q{y:Qy}{a:Nat}{nm:List UInt8}(h:shQ Bdd y= .var a nm):∃p,y= .var p nm:=by
 cases y with
 |var p n=>simp only[shQ,Qy.var.injEq]at h;obtain⟨_,rfl⟩:=h;exact⟨p,rfl⟩
 |_=>simp[shQ]at h
theorem Bxc{y:Qy}{a:Nat}(h:shQ Bdd y= .whole a):∃p,y= .whole p:=by
 cases y with
 |whole p=>exact⟨p,rfl⟩
 |_=>simp[shQ]at h
theorem B6k{t:List UInt8}(h:Bkp t):(36:UInt8) ∉ t:=fun h'=>absurd (h.2 36 h') (by decide)
def Byf:List UInt8:= [32,61,32,97,108,108,40,41,32,105,110,32,36]
def B4r:List UInt8:= [32,61,32,36]
def B3w:List UInt8:= [32,105,110,32,97,108,108,40,41]
def Bkd:List UInt8:= [108,101,116,32]
section
variable{may:List UInt8→Bool}{gn:List UInt8→Int × Bool}(hM:∀t,may t=true→Bl.contains t=false∧Bkp t)(hG:∀t n,gn t=(n,true)→0≤n∧P7 n.toNat=t∧Bkp t)
include hM hG
theorem B59{v w:List UInt8}(hv:may v=true)(hw:may w=true)(lv:v.length≤20)(lw:w.length≤20):
  (∃p0 p1,Qx may gn (Bkd++v++Byf++w)= .ok (.lt p0 v (.whole p1) (.var (v.length+16) w)))∧
  (∃p0 p1,Qx may gn (Bkd++v++B4r++v++B3w)= .ok (.lt p0 v (.var (v.length+7) v) (.whole p1)))∧
  ∃p0 p1 p2 p3 p4,Qx may gn (40::Bkd++v++Byf++v++ [41,32,43,32,36]++w)= .ok (.bin 3 p0 (.lt p1 v (.whole p2) (.var p3 v)) (.var p4 w)):=by
 have nv:=(hM v hv).2;have nw:=(hM w hw).2;have m0:may []=false:=by
  cases h:may []with
  |false=>rfl
  |true=>exact absurd rfl (hM _ h).2.1
 refine⟨?_,?_,?_⟩
 ·have e:Asz (.lt 0 v (.whole 0) (.var 0 w))=Bkd++v++Byf++w:=by simp[Asz,Ib,Vx,A76,Bkd,Byf]
  obtain⟨y,h1,h2⟩:=Bo8 hM hG (x:= .lt 0 v (.whole 0) (.var 0 w)) ⟨hv,trivial,hw⟩ (by simp[Df]) (by rw[e];simp only[List.length_append,Bkd,Byf,List.length_cons,List.length_nil];omega)
  obtain⟨p,x',y',rfl,h3,h4⟩:=B5w h2;obtain⟨q,rfl⟩:=Bxc h3;obtain⟨r,rfl⟩:=B2q h4;rw[e]at h1;have hp:=Bi0 m0 h1;have:=B4l (l:=Bkd++v++ [32,61,32,97,108,108,40,41,32,105,110,32]) (r:=w) (by simp[Byf]) (by simp[Bkd,B6k nv]) (B6k nw) hp.2.2
  rw[show r=v.length+16 from by rw[this];simp only[List.length_append,Bkd,List.length_cons,List.length_nil];omega]at h1
  exact⟨_,_,h1⟩
 ·have e:Asz (.lt 0 v (.var 0 v) (.whole 0))=Bkd++v++B4r++v++B3w:=by simp[Asz,Ib,Vx,A76,Bkd,B4r,B3w]
  obtain⟨y,h1,h2⟩:=Bo8 hM hG (x:= .lt 0 v (.var 0 v) (.whole 0)) ⟨hv,hv,trivial⟩ (by simp[Df]) (by rw[e];simp only[List.length_append,Bkd,B4r,B3w,List.length_cons,List.length_nil];omega)
  obtain⟨p,x',y',rfl,h3,h4⟩:=B5w h2;obtain⟨q,rfl⟩:=Bxc h4;obtain⟨r,rfl⟩:=B2q h3;rw[e]at h1;have hp:=Bi0 m0 h1;have:=B4l (l:=Bkd++v++ [32,61,32]) (r:=v++B3w) (by simp[B4r]) (by simp[Bkd,B6k nv]) (by simp[B3w,B6k nv]) hp.2.1
  rw[show r=v.length+7 from by rw[this];simp only[List.length_append,Bkd,List.length_cons,List.length_nil];omega]at h1
  exact⟨_,_,h1⟩
 ·have e:Asz (.bin 3 0 (.lt 0 v (.whole 0) (.var 0 v)) (.var 0 w))=40::Bkd++v++Byf++v++ [41,32,43,32,36]++w:=by
   simp[Asz,Ib,Vx,A76,Bkd,Byf,Bmf,inP,Asy,Aud,sgB]
  obtain⟨y,h1,h2⟩:=Bo8 hM hG (x:= .bin 3 0 (.lt 0 v (.whole 0) (.var 0 v)) (.var 0 w)) ⟨.inl rfl,⟨hv,trivial,hv⟩,hw⟩ (by simp[Df]) (by rw[e];simp only[List.length_append,Bkd,Byf,List.length_cons,List.length_nil];omega)
  obtain⟨p,x',y',rfl,h3,h4⟩:=B8b h2;obtain⟨p1,x2,y2,rfl,h5,h6⟩:=B5w h3;obtain⟨p2,rfl⟩:=Bxc h5;obtain⟨p3,rfl⟩:=B2q h6;obtain⟨p4,rfl⟩:=B2q h4;rw[e]at h1;exact⟨_,_,_,_,_,h1⟩
end
structure B3z(C:Eo)(hh:Bool)(cf:Ah)(Pw:Nat→Prop)(n0:Nat)(ops:Array Oper)(B:Array Nat)(l:List Nat)(e:Env)(st:St)(R:Env→St→Prop):Prop where
 ex:∀lg:Rh,(∀q∈lg,n0≤q.2)→As0 C hh cf Pw ops B l lg e st R
structure B5u(C:Eo)(hh:Bool)(cf:Ah)(Pw:Nat→Prop)(n0:Nat)(ops:Array Oper)(B:Array Nat)(i:Nat)(l:List Nat)(e:Env)(st:St)(R:Env→St→Prop):Prop where
 ex:(∀o,ops.toList[i]?=some o→Ct o ops e=some true)→B3z C hh cf Pw n0 ops B (i::l) e st R
section
variable{C:Eo}{hh:Bool}{od:Nat→Option (List Nat × Bool)}{cf:Ah}{N n0:Nat}{Pw:Nat→Prop}{e:Env}{st st':St}{Q:Ex→Env→St→Prop}{R:Env→St→Prop}{ops:Array Oper}{l:List Nat}{B:Array Nat}
theorem B4n{id:Nat}(n0:Nat)(hod:od id=some (l,false))(h:∀B,B3z C hh cf Pw n0 (ops.map Dl) B l e st (fun e' st'=>Q .norm e' st')):ExO C hh od cf N Pw (.region id ops true) e st Q:=
 Blb (F:=fun _=>True) hod trivial fun B _=>(h B).ex [] (by simp)
theorem B5t(h:R e st):B3z C hh cf Pw n0 ops B [] e st R:=⟨fun lg _=>Blh h⟩
theorem B7v{i:Nat}{o:Oper}(ho':ops.toList[i]?=some o)(hg:o.guard=none)(h:B5u C hh cf Pw n0 ops B i l e st R):B3z C hh cf Pw n0 ops B (i::l) e st R:=
 h.ex (fun o' ho=>by obtain rfl:=Option.some.inj (ho'.symm.trans ho);exact H7 hg)
theorem B8g{i:Nat}{o:Oper}(ho':ops.toList[i]?=some o)(hl:loud o=false)(h:∃r,Af C.P hh o (ev e) st=some r∧match r with
   |(v,.rd ids)=>VOk (n0≤ ·) ids (B3z C hh cf Pw n0 ops B l (Am e o.dst v) st R)
   |(v,.al ob)=>VOk (n0≤ ·) [st.length] (B3z C hh cf Pw n0 ops B l (Am e o.dst v) (st++ [ob]) R)):B5u C hh cf Pw n0 ops B i l e st R:=
 ⟨fun hw=>⟨fun lg hlg=>by
  obtain⟨⟨v,y⟩,hq,h⟩:=h;cases y with
  |rd ids=>
   refine Bmg ho' (hw o ho') hl hq (h.2.ex _ fun q hq=>?_);rcases List.mem_append.1 hq with h1|h1
   ·obtain⟨id,hid,rfl⟩:=List.mem_map.1 h1;exact h.1 id hid
   ·exact hlg q h1
  |al ob=>
   refine Bmr ho' (hw o ho') hl hq (h.2.ex _ fun q hq=>?_);rcases List.mem_cons.1 hq with rfl|h1
   ·exact h.1 _ (by simp)
   ·exact hlg q h1⟩⟩
theorem B7s{i:Nat}{o:Oper}(ho':ops.toList[i]?=some o)(hl:loud o=true)(h:∃r,Bj C hh cf o (ev e) st=some r∧match r with
   |(v,st',V)=>VOk (fun id=>Pw id∧id<n0) V (B3z C hh cf Pw n0 ops B l (Am e o.dst v) st' R)):B5u C hh cf Pw n0 ops B i l e st R:=
 ⟨fun hw=>⟨fun lg hlg=>by obtain⟨⟨v,st',V⟩,hs,h⟩:=h;exact Bmu ho' (hw o ho') hl hs (fun id hid=>(h.1 id hid).1) (Awl fun q hq hV=>absurd (hlg q hq) (by have:=(h.1 _ hV).2;omega)) (h.2.ex lg hlg)⟩⟩
end
structure B2k{σ:Type}(Inv:St→σ→Prop)(id:Nat):Prop where
 lt:∀S s,Inv S s→id<S.length
 fr:∀S S' s,Inv S s→S.length≤S'.length→(∀i,i<S.length→S'[i]?=S[i]?)→Inv S' s
 low:∀S s,Inv S s→∀o,S[id]?=some o→Zl S.length o=false
 cut:∀S' s n0,Inv S' s→n0≤S'.length→id<n0→(∀o,S'[id]?=some o→Zl n0 o=false)→Inv (S'.take n0) s
def Bqk(cf:Ah)(f:FuncId)(args:List D){σ:Type}(Inv:St→σ→Prop)(id:Nat)(s s':σ):Prop:=
 ∀S,Inv S s→∃S' W,cf f args S=some (.tup [],S',W)∧(∀i∈W,i=id)∧Inv S' s'
theorem Brb{σ:Type}{Inv:St→σ→Prop}{id:Nat}{cf:Ah}{N:Nat}{f:FuncId}{fn:Func}{c:Code}{args:List D}{s s':σ}{st:St}(hK:∀f,Ba (cf f))(hI:B2k Inv id)(hfn:prog.funcs[f]?=some fn)(hb:fn.body=some c)(hk:C1.keepArr.contains f=false)(hk2:C1.keepNil.contains f=false)
  (hres:fn.results.toList= [])(h0:Inv st s)(h:ExO C1 (C1.hnd.contains f) (C1.ords f) cf N (fun i=>i=id∨st.length≤i) c (args++List.replicate (fn.ntmps - args.length) .undef) st (fun y e' st'=>(y= .norm∨y= .ret)∧Inv st' s')):
  ∃S' W,run C1 cf N f args st=some (.tup [],S',W)∧(∀i∈W,i=id)∧Inv S' s':=by
 obtain⟨y,e',st',V,h1,h2,h3,h4⟩:=h.ex;have hlt:=hI.lt _ _ h0;have hkk:=Ahg hK N (od:=C1.ords f) (C:=C1) (h:=C1.hnd.contains f) c _ _ _ _ _ _ h1;have hV:∀i∈V.filter (· <st.length),i=id:=fun i hi=>by
  rw[List.mem_filter]at hi;rcases h2 i hi.1 with h|h
  ·exact h
  ·have:=of_decide_eq_true hi.2;omega
 have hrun:run C1 cf N f args st=finish st.length (.tup []) st' V:=by
  unfold run;have hP:C1.P=prog:=rfl;rw[hP,hfn];dsimp only;rw[hb];dsimp only;rw[h1];have hz:Ls C1 f [] st'=some ([],st'):=by unfold Ls;rw[hk,hk2];rfl
  have hr:Gm prog e' st' fn.results.toList=some []:=by rw[hres];rfl
  rcases h3 with rfl|rfl
  all_goals
   dsimp only;rw[hr];dsimp only;rw[hz];dsimp only;rw[Du];rfl
 rw[hrun];unfold finish;dsimp only;have h5:∀o,st'[id]?=some o→(V.filter (· <st.length)).any (fun id=>match st'[id]? with|some o=>Zl st.length o|none=>true)=false→Zl st.length o=false:=fun o ho ha=>by
  by_cases hm:id∈V.filter (· <st.length)
  ·rw[List.any_eq_false]at ha;have:=ha id hm;rw[ho]at this;dsimp only at this;simpa using this
  ·have hnV:id ∉ V:=fun hv=>hm (List.mem_filter.2 ⟨hv,by simpa using hlt⟩)
   rw[hkk.2 id hlt hnV]at ho;exact hI.low _ _ h0 o ho
 split
 ·exact⟨_,_,rfl,hV,h4⟩
 ·rename_i hn;simp only[D8,F6,Bool.false_or,Bool.not_eq_true]at hn;exact⟨_,_,rfl,hV,hI.cut _ _ _ h4 hkk.1 hlt fun o ho=>h5 o ho hn⟩
theorem Btv{σ:Type}{Inv:St→σ→Prop}{id:Nat}{cf:Ah}{f:FuncId}{a as_ bs c:List D}{s s':σ}{S:St}(hK:∀f,Ba (cf f))(hI:B2k Inv id)(hb:Dm C1.P f=true)(hr:C1.byRef.contains f=false)(hz:Cw S as_=some (bs,S))(hc:Bqk cf f (a++bs++c) Inv id s s')(h0:Inv S s):
  ∃S' V,G6 C1 cf f a c as_ S=some (.tup [],S',V)∧(∀i∈V,i=id)∧Inv S' s'∧S.length≤S'.length∧∀i,i<S.length→i≠id→S'[i]?=S[i]?:=by
 obtain⟨S',W,h1,h2,h3⟩:=hc S h0;have hk:=hK f _ _ _ _ _ h1;unfold G6;rw[hb,hr];simp only[Bool.not_true,BF,hz,h1];have hlt:=hI.lt _ _ h0;cases W with
 |nil=>
  refine⟨S,[],by simp[Sn],by simp,?_,Nat.le_refl _,fun _ _ _=>rfl⟩
  have:S'.take S.length=S:=by
   apply List.ext_getElem?;intro i;rw[List.getElem?_take];split
   ·rename_i hi;exact hk.2 i hi (by simp)
   ·rename_i hi;rw[List.getElem?_eq_none (by omega)]
  rw[← this];exact hI.cut _ _ _ h3 hk.1 hlt fun o ho=>by
   rw[hk.2 id hlt (by simp)]at ho
   exact hI.low _ _ h0 o ho
 |cons w W=>
  refine⟨S',Dj (Dn S S) (w::W),by simp,fun i hi=>?_,h3,hk.1,fun i hi hne=>hk.2 i hi fun hm=>hne (h2 i hm)⟩
  rw[Du]at hi;exact h2 i hi
def Buj:Qy→Bool
 | .lt _ _ _ _=>true
 |_=>false
def B54:Qy→List UInt8
 | .lt _ nm _ _=>nm
 |_=> []
def knK(x:Qy)(kn:List (List UInt8))(i:Nat):List (List UInt8):=if Buj x && i == 1 then kn++ [B54 x]else kn
section
variable{σ:Type}(upd:Qy→List (List UInt8)→σ→σ)
def goQ:Qy→List (List UInt8)→σ→σ
 | .bin k a x y,kn,s=>goQ y kn (goQ x kn (upd (.bin k a x y) kn s))
 | .un k a nm n x,kn,s=>goQ x kn (upd (.un k a nm n x) kn s)
 | .lt a nm x y,kn,s=>goQ y (kn++ [nm]) (goQ x kn (upd (.lt a nm x y) kn s))
 |x,kn,s=>upd x kn s
def goI(x:Qy)(kn:List (List UInt8))(s:σ):Nat→σ
 |0=>upd x kn s
 |i+1=>match(L9 x)[i]? with
  |some y=>goQ upd y (knK x kn i) (goI x kn s i)
  |none=>goI x kn s i
theorem B6j(x:Qy)(kn:List (List UInt8))(s:σ):goI upd x kn s (L9 x).length=goQ upd x kn s:=by cases x<;>rfl
end
def goV{σ:Type}(upd:Qy→List (List UInt8)→σ→σ)(V:Qy→List (List UInt8)→σ→Prop):Qy→List (List UInt8)→σ→Prop
 | .bin k a x y,kn,s=>(k≠12∧V (.bin k a x y) kn s)∧goV upd V x kn (upd (.bin k a x y) kn s)∧goV upd V y kn (goQ upd x kn (upd (.bin k a x y) kn s))
 | .un k a nm n x,kn,s=>(k≠12∧V (.un k a nm n x) kn s)∧goV upd V x kn (upd (.un k a nm n x) kn s)
 | .lt a nm x y,kn,s=>(kn= []∧V (.lt a nm x y) kn s)∧goV upd V x kn (upd (.lt a nm x y) kn s)∧goV upd V y (kn++ [nm]) (goQ upd x kn (upd (.lt a nm x y) kn s))
 |x,kn,s=>V x kn s
section
variable{σ:Type}{upd:Qy→List (List UInt8)→σ→σ}{V:Qy→List (List UInt8)→σ→Prop}{x:Qy}{kn:List (List UInt8)}{s:σ}
theorem B6m(h:goV upd V x kn s):((Bc5 x).1 == 12)=Buj x:=by
 cases x with
 |bin k a x y=>simpa[Bc5,Buj]using h.1.1
 |un k a nm n x=>simpa[Bc5,Buj]using h.1.1
 |_=>rfl
theorem B6r(h:goV upd V x kn s):V x kn s:=by cases x<;>first|exact h|exact h.1.2
theorem B6s{y:Qy}{i:Nat}(h:goV upd V x kn s)(hy:(L9 x)[i]?=some y):goV upd V y (knK x kn i) (goI upd x kn s i):=by
 have h2:=(List.getElem?_eq_some_iff.1 hy).1;cases x with
 |bin k a x z=>
  rcases i with _|_|i
  ·cases hy;exact h.2.1
  ·cases hy;exact h.2.2
  ·exact absurd h2 (by simp only[L9,List.length_cons,List.length_nil];omega)
 |un k a nm n x=>
  rcases i with _|i
  ·cases hy;exact h.2
  ·exact absurd h2 (by simp only[L9,List.length_cons,List.length_nil];omega)
 |lt a nm x z=>
  rcases i with _|_|i
  ·cases hy;exact h.2.1
  ·cases hy;exact h.2.2
  ·exact absurd h2 (by simp only[L9,List.length_cons,List.length_nil];omega)
 |_=>cases hy
theorem B6f{i:Nat}(h:goV upd V x kn s)(hb:Buj x=true):kn= []∧(Bc5 x).2.2.2.1=B54 x:=by
 cases x with
 |lt a nm x z=>exact⟨h.1.1,rfl⟩
 |_=>simp[Buj]at hb
end
theorem Cbl{l:List Qy}{i:Nat}{y:Qy}(hy:l[i]?=some y):Cf prog 28 (.sl (l.map Br) .none) (.int .i64 (i:Int))=some (.eptr (Br y),.pure):=by unfold Cf;rw[Ash,Bm0];dsimp only;rw[List.getElem?_map,hy];simp[Wp,Su]
theorem B4e{P:Program}{t:TypeId}{cs:List D}{off n:Nat}(hn:Bw P t=some n)(hu:(P.underlying t).isSome=true)(ha:Jg P t=true)(hle:off+n≤cs.length):Dk P t cs off=some (.agg ((cs.drop off).take n)):=by unfold Dk;rw[hn];dsimp only;rw[hu,ha,decide_eq_true hle];rfl
theorem Br0{P:Program}{t:TypeId}{cs:List D}{off:Nat}(hn:Bw P t=some 1)(hu:(P.underlying t).isSome=true)(ha:Jg P t=false)(hle:off+1≤cs.length):Dk P t cs off=cs[off]?:=by unfold Dk;rw[hn];dsimp only;rw[hu,ha,decide_eq_true hle];rfl
theorem ldp{P:Program}{t:TypeId}{S:St}{b off:Nat}{cs:List D}(h:S[b]?=some (.cells cs)):Fp P t (.ptr b off) S=(Dk P t cs off).map fun v=>(v,.rd [b]):=by unfold Fp;dsimp only;rw[h]
theorem B9a:(prog.underlying 30).isSome=true:=by kernel_rfl
theorem us3:(prog.underlying 3).isSome=true:=by kernel_rfl
theorem us9:(prog.underlying 9).isSome=true:=by kernel_rfl
theorem Cbj:(prog.underlying 28).isSome=true:=by kernel_rfl
theorem B96(y:Qy)(st:St):Fp prog 30 (.eptr (Br y)) st=some (.agg (Br y),.pure):=by
 unfold Fp;dsimp only;rw[B4e Wp B9a Bb3 (by simp[Su]),List.drop_zero,List.take_of_length_le (by simp[Su])]
 rfl
section
variable{S:St}{b:Nat}{x:Qy}(hb:S[b]?=some (.cells (Br x)))
include hb
theorem Bxp:Fp prog 30 (.ptr b 0) S=some (.agg (Br x),.rd [b]):=by
 rw[ldp hb,B4e Wp B9a Bb3 (by simp[Su]),List.drop_zero,List.take_of_length_le (by simp[Su])]
 rfl
theorem B5y:Fp prog 3 (.ptr b 0) S=some (.int .i64 (Bc5 x).1,.rd [b]):=by
 rw[ldp hb,Bs2,Br0 Auu us3 A59 (by simp[qc])]
 rfl
theorem B5n:Fp prog 9 (.ptr b 4) S=some (.str (Bc5 x).2.2.2.1,.rd [b]):=by
 rw[ldp hb,Bs2,Br0 Ami us9 A6c (by simp[qc])]
 rfl
theorem B97:Fp prog 3 (.ptr b 1) S=some (.int .i64 (atQ x:Int),.rd [b]):=by
 rw[ldp hb,Bs2,Br0 Auu us3 A59 (by simp[qc])]
 rfl
theorem B9b:Fp prog 28 (.ptr b 6) S=some (.sl ((L9 x).map Br) .none,.rd [b]):=by
 rw[ldp hb,Bs2,Br0 Blo Cbj Bml (by simp[qc])]
 rfl
end
theorem Bot(b:Nat):Eh prog 30 (.ptr b 0) 0=some (.ptr b 0,.pure):=by kernel_rfl
theorem B3m(b:Nat):Eh prog 30 (.ptr b 0) 1=some (.ptr b 1,.pure):=by kernel_rfl
theorem Brk(b:Nat):Eh prog 30 (.ptr b 0) 3=some (.ptr b 4,.pure):=by kernel_rfl
theorem B7a(b:Nat):Eh prog 30 (.ptr b 0) 5=some (.ptr b 6,.pure):=by kernel_rfl
theorem Cay(l:List Qy)(st:St):Ny prog 28 (.sl (l.map Br) .none) st=some (.int .i64 (l.length:Int),.pure):=by unfold Ny;rw[Bm0];simp
theorem B6z(x:Qy)(rows:List (List D))(g:Gr)(f:FuncId)(caps:List D)(S:St):Cw S [.agg (Br x),.sl rows g,.func f [] caps]=some ([.agg (Br x),.sl rows .none,.func f [] caps],S):=
 Ag6 (Ait (Md x)) (Ag6 rfl (Ag6 rfl Ale))
theorem B88(x:Qy)(rows:List (List D))(g:Gr)(S:St):Cw S [.agg (Br x),.sl rows g]=some ([.agg (Br x),.sl rows .none],S):=
 Ag6 (Ait (Md x)) (Ag6 rfl Ale)
theorem B9d(t:List UInt8)(S:St):Gn prog false .append #[23,23] [.sl [] .exact,.sl [[.str t]] .exact] S=some (.sl [[.str t]] (.tok S.length 0),S++ [.tok 0],[]):=by kernel_rfl
theorem B7q(t:List UInt8)(S:St):C8 prog false 23 (.sl [] .exact) (.sl [[.str t]] .exact) S=some (.sl [[.str t]] (.tok S.length 0),S++ [.tok 0],[]):=by kernel_rfl
theorem B90:C1.ords 34 6=some ([0,1,3,4,5,7,2,6,8],false):=by kernel_rfl
theorem B33:Cx prog 23=some 9:=by kernel_rfl
theorem B7u:Bw prog 9=some 1:=by kernel_rfl
theorem B9z:zeroOf prog 9=some [.str []]:=by kernel_rfl
theorem Cbh(t:List UInt8):chunk 1 1 (List.take (0*1) (rep [D.str []] 1)++(D.str t).cells++List.drop (0*1+1) (rep [D.str []] 1))= [[.str t]]:=rfl
theorem Ca2(st:St)(t:List UInt8):Fs st [(0,.str t)]=some [(0,.str t)]:=rfl
section
variable{cf:Ah}{N:Nat}(hK:∀f,Ba (cf f))
include hK
set_option maxHeartbeats 8000000 in
theorem Bul{σ:Type}{Inv:St→σ→Prop}{id:Nat}(hI:B2k Inv id){upd:Qy→List (List UInt8)→σ→σ}{V:Qy→List (List UInt8)→σ→Prop}{vf:FuncId}{caps:List D}(hvb:Dm C1.P vf=true)(hvr:C1.byRef.contains vf=false)
  (hclone:∀S,G6 C1 cf 62 [] [] [.sl [] .none] S=some (.sl [] .exact,S,[]))(x:Qy)(kn:List (List UInt8))(s:σ)(hx:goV upd V x kn s)(hN:10<N)
  (hv:Bqk cf vf ([.agg (Br x),.sl (Lf kn) .none]++caps) Inv id s (upd x kn s))
  (hk:∀i y,(L9 x)[i]?=some y→Bqk cf 34 [.agg (Br y),.sl (Lf (knK x kn i)) .none,.func vf [] caps] Inv id (goI upd x kn s i) (goI upd x kn s (i+1))):
  Bqk (run C1 cf N) 34 [.agg (Br x),.sl (Lf kn) .none,.func vf [] caps] Inv id s (goQ upd x kn s):=by
 intro S h0;have hP:C1.P=prog:=rfl;have hid:=hI.lt _ _ h0;refine Brb hK hI func34 (bdy (by kernel_rfl)) rfl rfl rfl h0 ?_
 rw[show C1.hnd.contains 34=false from rfl];generalize he:(([.agg (Br x),.sl (Lf kn) .none,.func vf [] caps]:List D)++List.replicate (f34.ntmps - ([.agg (Br x),.sl (Lf kn) .none,.func vf [] caps]:List D).length) .undef)=e;have hl:e.length=41:=by rw[← he];rfl
 have e0:e.getD 0 .undef= .agg (Br x):=by rw[← he];rfl
 have e1:e.getD 1 .undef= .sl (Lf kn) .none:=by rw[← he];rfl
 have e2:e.getD 2 .undef= .func vf [] caps:=by rw[← he];rfl
 clear he;refine Bj8 ?_;obtain⟨code,hcode⟩:∃code,code=strip (bd f34):=⟨_,rfl⟩;rw[← hcode];simp only[bd,f34,strip,Dl,List.map_toArray,MC]at hcode;subst hcode;have hbx:(S++ [.cells (Br x)])[S.length]?=some (.cells (Br x)):=by simp
 have lx:=Bxp hbx;obtain⟨S1,V1,hcV,hV1,hI1,hle1,hfr1⟩:=Btv hK hI hvb hvr (a:= []) (c:=caps) (B88 x (Lf kn) .none (S++ [.cells (Br x)])) hv (hI.fr _ _ _ h0 (by simp) (fun i hi=>List.getElem?_append_left hi))
 have hb1:S1[S.length]?=some (.cells (Br x)):=by
  rw[hfr1 _ (by simp) (by omega)]
  exact hbx
 have lq:=B9b hb1;have lnx:=Cay (L9 x);have hW1:∀i∈V1,i=id∨S.length≤i:=fun i hi=> .inl (hV1 i hi);have hle:S.length<S1.length:=by simp only[List.length_append,List.length_cons,List.length_nil]at hle1;omega
 repeat (first
  |refine A00 ?_|refine Asu ?_|refine Bkx ?_|refine Awr ?_|refine Bq (by decide) ?_|refine Eg rfl rfl ?_|refine Zc hW1 ?_
  |((first|refine Ee rfl rfl ?_|refine Ed rfl rfl ?_);refine⟨_,by simp only[Bj,BB,Af,ev,Am,Ak,Ag,Gc,Ai,↓reduceIte,Nat.reduceEqDiff,Nat.reduceLT,Aj,hP,hl,e0,e1,e2,D.known,D.cells,lx,hcV,B7a,lq,lnx];first|done|rfl,?_⟩)
  |dsimp only)
 refine Awv (fun k e2 S2=>∃i:Nat,i≤(L9 x).length∧k=(L9 x).length - i∧e2.length=41∧e2.getD 1 .undef= .sl (Lf kn) .none∧e2.getD 2 .undef= .func vf [] caps∧e2.getD 3 .undef= .ptr S.length 0∧e2.getD 13 .undef= .sl ((L9 x).map Br) .none∧e2.getD 14 .undef= .int .i64 ((L9 x).length:Int)∧e2.getD 15 .undef= .int .i64 (i:Int)∧S.length<S2.length∧S2[S.length]?=some (.cells (Br x))∧Inv S2 (goI upd x kn s i)) (L9 x).length (by have:=Aco x;omega) ?_ ?_
 ·refine⟨0,Nat.zero_le _,rfl,?_,?_,?_,?_,?_,?_,?_,hle,hb1,hI1⟩
  all_goals first|(simp only[BB,Am,hl,Nat.reduceEqDiff,↓reduceIte,Nat.reduceLT];first|done|exact e1|exact e2|rfl)
 clear hbx lx hcV hV1 hI1 hle1 hfr1 hb1 lq lnx hW1 hle e0 e1 e2 hl e;rintro k e S2 ⟨i,hi,rfl,hl,e1,e2,e3,e13,e14,e15,hlt,hb2,hI2⟩;by_cases hil:i<(L9 x).length
 ·obtain⟨y,hy⟩:∃y,(L9 x)[i]?=some y:=⟨_,List.getElem?_eq_getElem hil⟩;have hi3:i<3:=by have:=Aco x;omega
  have bl:Bo prog .lss 3 (.int .i64 (i:Int)) (.int .i64 ((L9 x).length:Int))=some (.bool true):=by show some (D.bool (decide ((i:Int)<((L9 x).length:Int))))=_;rw[decide_eq_true (by omega)]
  have bk:Bo prog .eql 3 (.int .i64 (Bc5 x).1) (.int .i64 12)=some (.bool (Buj x)):=by show some (D.bool ((Bc5 x).1 == 12))=_;rw[B6m hx]
  have bi:Bo prog .eql 3 (.int .i64 (i:Int)) (.int .i64 1)=some (.bool (i == 1)):=by show some (D.bool ((i:Int) == 1))=_;rw[show((i:Int) == 1)=(i == 1)from by rw[Bool.eq_iff_iff];simp;omega]
  have ba:Bo prog .add 3 (.int .i64 (i:Int)) (.int .i64 1)=some (.int .i64 ((i+1:Nat):Int)):=Br2 (n:=1) (by omega) (by omega) (by omega)
  have iy:=Cbl hy;have ly:=B96 y S2;have v1:= @Btk S2 (Br y) [.int .i64 0,.int .i64 0,.bool false,.str [],.str [],.int .i64 0,.nilsl] [] rfl (Su y) (Kq y);have hb3:(S2++ [.cells (Br y)])[S.length]?=some (.cells (Br x)):=by rw[List.getElem?_append_left hlt];exact hb2
  have hby:(S2++ [.cells (Br y)])[S2.length]?=some (.cells (Br y)):=by simp
  have l1:=B5y hb3;have l2:=Bxp hby;have hW2:∀j∈ [S2.length],j=id∨S.length≤j:=by simp;omega
  have hidS:=hI.lt _ _ hI2;have hIy:Inv (S2++ [.cells (Br y)]) (goI upd x kn s i):=hI.fr _ _ _ hI2 (by simp) (fun j hj=>List.getElem?_append_left hj)
  have hT:=hk i y hy;cases hb:(Buj x && i == 1)with
  |false=>
   have hkn:knK x kn i=kn:=by unfold knK;rw[hb];rfl
   rw[hkn]at hT;obtain⟨S3,V3,hcW,hV3,hI3,hle3,hfr3⟩:=Btv hK hI (f:=34) (by kernel_rfl) rfl (a:= []) (c:= []) (B6z y (Lf kn) .none vf caps (S2++ [.cells (Br y)])) hT hIy
   have hW3:∀j∈V3,j=id∨S.length≤j:=fun j hj=> .inl (hV3 j hj);have hlt3:S.length<S3.length:=by simp only[List.length_append,List.length_cons,List.length_nil]at hle3;omega
   have hb4:S3[S.length]?=some (.cells (Br x)):=by
    rw[hfr3 _ (by simp;omega) (by omega)]
    exact hb3
   cases hq:Buj x with
   |false=>
    rw[hq]at bk
    repeat (first
     |refine A00 ?_|refine Asu ?_|refine Bkx ?_|refine Awr ?_|refine Bq (by decide) ?_|refine Eg rfl rfl ?_|refine Zc hW2 ?_|refine Zc hW3 ?_
     |((first|refine Ei rfl rfl rfl rfl ?_|refine Ee rfl rfl ?_|refine Ed rfl rfl ?_|refine Bni ?_);refine⟨_,by simp only[Bj,BB,Af,ev,Am,Ak,Ag,Gc,Ai,↓reduceIte,Nat.reduceEqDiff,Nat.reduceLT,Aj,hP,hl,e1,e2,e3,e13,e14,e15,bl,bk,bi,ba,iy,ly,Bnh,v1,Bot,l1,l2,hcW];first|done|rfl,?_⟩)
     |dsimp only)
    refine⟨(L9 x).length - (i+1),by omega,i+1,hil,rfl,?_,?_,?_,?_,?_,?_,?_,hlt3,hb4,hI3⟩
    all_goals (simp only[BB,Am,hl,Nat.reduceEqDiff,↓reduceIte,Nat.reduceLT];first|done|exact e1|exact e2|exact e3|exact e13|exact e14|rfl)
   |true=>
    rw[hq]at bk hb;have hi1:(i == 1)=false:=by simpa using hb
    rw[hi1]at bi
    repeat (first
     |refine A00 ?_|refine Asu ?_|refine Bkx ?_|refine Awr ?_|refine Bq (by decide) ?_|refine Eg rfl rfl ?_|refine Zc hW2 ?_|refine Zc hW3 ?_
     |((first|refine Ei rfl rfl rfl rfl ?_|refine Ee rfl rfl ?_|refine Ed rfl rfl ?_|refine Bni ?_);refine⟨_,by simp only[Bj,BB,Af,ev,Am,Ak,Ag,Gc,Ai,↓reduceIte,Nat.reduceEqDiff,Nat.reduceLT,Aj,hP,hl,e1,e2,e3,e13,e14,e15,bl,bk,bi,ba,iy,ly,Bnh,v1,Bot,l1,l2,hcW];first|done|rfl,?_⟩)
     |dsimp only)
    refine⟨(L9 x).length - (i+1),by omega,i+1,hil,rfl,?_,?_,?_,?_,?_,?_,?_,hlt3,hb4,hI3⟩
    all_goals (simp only[BB,Am,hl,Nat.reduceEqDiff,↓reduceIte,Nat.reduceLT];first|done|exact e1|exact e2|exact e3|exact e13|exact e14|rfl)
  |true=>
   have hkn:knK x kn i=kn++ [B54 x]:=by unfold knK;rw[hb];rfl
   rw[Bool.and_eq_true]at hb;obtain⟨hq,hi1⟩:=hb;obtain⟨rfl,hnm⟩:=B6f (i:=i) hx hq;rw[hkn]at hT;have hIt:Inv (S2++ [.cells (Br y)]++ [.tok 0]) (goI upd x [] s i):=hI.fr _ _ _ hIy (by simp) (fun j hj=>List.getElem?_append_left hj)
   obtain⟨S3,V3,hcW,hV3,hI3,hle3,hfr3⟩:=Btv hK hI (f:=34) (by kernel_rfl) rfl (a:= []) (c:= []) (B6z y [[.str (B54 x)]] (.tok (S2++ [Obj.cells (Br y)]).length 0) vf caps (S2++ [.cells (Br y)]++ [.tok 0])) hT hIt
   have hW3:∀j∈V3,(j=id∨S.length≤j)∧j<S.length:=fun j hj=>by rw[hV3 j hj];exact⟨.inl rfl,hid⟩
   have hlt3:S.length<S3.length:=by simp only[List.length_append,List.length_cons,List.length_nil]at hle3;omega
   have hb4:S3[S.length]?=some (.cells (Br x)):=by
    rw[hfr3 _ (by simp;omega) (by omega),List.getElem?_append_left (by simp;omega)]
    exact hb3
   have l3:=B5n hb3;rw[hnm]at l3;rw[hq]at bk;rw[hi1]at bi;have ap:=B7q (B54 x) (S2++ [.cells (Br y)]);have hWa:∀j∈ [S2.length],S.length≤j:=by simp;omega
   have hWb:∀j∈ [S.length],S.length≤j:=by simp
   replace e1:e.getD 1 .undef= .sl [] .none:=e1
   repeat (first
    |refine A00 ?_|refine Asu ?_|refine Bkx ?_|refine Awr ?_|refine Bq (by decide) ?_|refine Eg rfl rfl ?_|refine Zc hW2 ?_|refine Zc hW3 ?_|refine Zc hWa ?_|refine Zc hWb ?_|refine Zc (V:= []) (by simp) ?_|refine B5t ?_|refine B7v rfl rfl ?_
    |(refine B4n S.length B90 (fun B=>?_);simp only[List.map_toArray,MC,Dl])
    |((first|refine Ei rfl rfl rfl rfl ?_|refine Ee rfl rfl ?_|refine Ed rfl rfl ?_|refine B8g rfl rfl ?_|refine B7s rfl rfl ?_|refine Bni ?_);refine⟨_,by simp only[Bj,BB,Af,ev,Am,Ak,Ag,Gc,Ai,↓reduceIte,Nat.reduceEqDiff,Nat.reduceLT,Aj,hP,hl,e1,e2,e3,e13,e14,e15,bl,bk,bi,ba,iy,ly,Bnh,v1,Bot,Brk,l1,l2,l3,B33,B7u,B9z,Ca2,Cbh,hclone,B9d,ap,hcW];first|done|rfl,?_⟩)
    |dsimp only)
   refine⟨(L9 x).length - (i+1),by omega,i+1,hil,rfl,?_,?_,?_,?_,?_,?_,?_,hlt3,hb4,hI3⟩
   all_goals (simp only[BB,Am,hl,Nat.reduceEqDiff,↓reduceIte,Nat.reduceLT];first|done|exact e1|exact e2|exact e3|exact e13|exact e14|rfl)
 ·have hie:i=(L9 x).length:=by omega
  subst hie;have bl:Bo prog .lss 3 (.int .i64 ((L9 x).length:Int)) (.int .i64 ((L9 x).length:Int))=some (.bool false):=by show some (D.bool (decide (((L9 x).length:Int)<((L9 x).length:Int))))=_;rw[decide_eq_false (by omega)]
  repeat (first
   |refine A00 ?_|refine Bkx ?_|refine Avq ?_|refine Bq (by decide) ?_|refine Eg rfl rfl ?_
   |((first|refine Ee rfl rfl ?_|refine Bni ?_);refine⟨_,by simp only[Bj,BB,Af,ev,Am,Ak,Ag,Gc,Ai,↓reduceIte,Nat.reduceEqDiff,Nat.reduceLT,Aj,hP,hl,e1,e2,e3,e13,e14,e15,bl];first|done|rfl,?_⟩)
   |dsimp only)
  rw[B6j]at hI2;exact⟨.inl rfl,hI2⟩
end
def B2v:Option Nat→List D
 |none=> [.int .i64 0,.int .i64 0]
 |some a=> [.int .i64 5,.int .i64 (a:Int)]
def B4p(id:Nat)(S:St)(s:Option Nat):Prop:=S[id]?=some (.cells (B2v s))
theorem Bum(id:Nat):B2k (B4p id) id:= {
 lt S s h:=(List.getElem?_eq_some_iff.1 h).1
 fr S S' s h _ hf:=by unfold B4p at*;rw[hf id (List.getElem?_eq_some_iff.1 h).1];exact h
 low S s h o ho:=by rw[h]at ho;cases ho;cases s<;>rfl
 cut S' s n0 h hn hid _:=by unfold B4p at*;rw[List.getElem?_take,if_pos hid];exact h}
def B5l(a:Nat):Option Nat→Option Nat
 |none=>some a
 |some b=>if a<b then some a else some b
def Bp5:Qy→List (List UInt8)→Option Nat→Option Nat
 | .var a nm,kn,s=>if kn.contains nm then s else B5l a s
 |_,_,s=>s
def B3f:Qy→Prop
 | .label _ _ _=>False
 | .bin k _ _ _=>k≠1∧k≠2
 | .un k _ _ _ _=>k≠1∧k≠2
 |_=>True
def Bpb:Qy→Bool
 | .var _ _=>true
 |_=>false
theorem B66{x:Qy}(h:B3f x):((Bc5 x).1 == 1)=false:=by
 cases x with
 |label a r ln=>exact h.elim
 |bin k a x y=>simpa[Bc5]using h.1
 |un k a nm n x=>simpa[Bc5]using h.1
 |_=>rfl
theorem B75{x:Qy}(h:B3f x):((Bc5 x).1 == 2)=Bpb x:=by
 cases x with
 |label a r ln=>exact h.elim
 |bin k a x y=>simpa[Bc5,Bpb]using h.2
 |un k a nm n x=>simpa[Bc5,Bpb]using h.2
 |_=>rfl
theorem B7g{x:Qy}{kn:List (List UInt8)}{s:Option Nat}(h:Bpb x=false):Bp5 x kn s=s:=by cases x<;>first|rfl|simp[Bpb]at h
theorem B5s{α:Type}{l:List α}{i:Nat}{a:α}(h:l[i]?=some a):l.set i a=l:=by
 apply List.ext_getElem?;intro j;rw[List.getElem?_set];split
 ·rename_i hj;subst hj;rw[h];have:=(List.getElem?_eq_some_iff.1 h).1;simp[this]
 ·rfl
theorem Cbi:(prog.underlying 31).isSome=true:=by kernel_rfl
theorem Ca6:(prog.underlying 33).isSome=true:=by kernel_rfl
theorem Ca7:Jg prog 33=true:=by kernel_rfl
section
variable{S:St}{id:Nat}{c a:Int}(he:S[id]?=some (.cells [.int .i64 c,.int .i64 a]))
include he
theorem B2l:Fp prog 31 (.ptr id 0) S=some (.int .i64 c,.rd [id]):=by
 rw[ldp he,Br0 Bo2 Cbi Bpj (by simp)]
 rfl
theorem B9i:Fp prog 3 (.ptr id 1) S=some (.int .i64 a,.rd [id]):=by
 rw[ldp he,Br0 Auu us3 A59 (by simp)]
 rfl
theorem B4i:Fp prog 33 (.ptr id 0) S=some (.agg [.int .i64 c,.int .i64 a],.rd [id]):=by
 rw[ldp he,B4e Boc Ca6 Ca7 (by simp)]
 rfl
theorem ste(c' a':Int):I4 prog 33 (.ptr id 0) (.agg [.int .i64 c',.int .i64 a']) S=some (.undef,S.set id (.cells [.int .i64 c',.int .i64 a']),[id]):=by unfold I4;dsimp only;rw[he];simp[Boc,D.cells,Al]
end
theorem B2w(b:Nat):Eh prog 33 (.ptr b 0) 0=some (.ptr b 0,.pure):=by kernel_rfl
theorem B3a(b:Nat):Eh prog 33 (.ptr b 0) 1=some (.ptr b 1,.pure):=by kernel_rfl
theorem B52(c a:Int):Adc prog 33 [(0,.int .i64 c),(1,.int .i64 a)]=some (.agg [.int .i64 c,.int .i64 a]):=by kernel_rfl
theorem B5r:Adc prog 33 []=some (.agg [.int .i64 0,.int .i64 0]):=by kernel_rfl
theorem B6y(t:TypeId)(a b:Int):Bo prog .eql t (.int .i64 a) (.int .i64 b)=some (.bool (a == b)):=rfl
theorem B5p(t:TypeId)(a b:Int):Bo prog .lss t (.int .i64 a) (.int .i64 b)=some (.bool (decide (a<b))):=rfl
theorem B95(t:TypeId)(a b:Int):Bo prog .leq t (.int .i64 a) (.int .i64 b)=some (.bool (decide (a≤b))):=rfl
section
variable{cf:Ah}{N:Nat}(hK:∀f,Ba (cf f))
include hK
set_option maxHeartbeats 8000000 in
theorem Bup(hc:∀(kn:List (List UInt8)) (t:List UInt8),kn.length<1000→Ao cf 36 [.sl (Lf kn) .none,.str t] (.bool (kn.contains t)))(gp:D)(id:Nat)(x:Qy)(kn:List (List UInt8))(hkn:kn.length<1000)(hx:B3f x)(s:Option Nat):
  Bqk (run C1 cf N) 35 [.agg (Br x),.sl (Lf kn) .none,gp,.ptr id 0] (B4p id) id s (Bp5 x kn s):=by
 intro S h0;have hP:C1.P=prog:=rfl;have hid:=(Bum id).lt _ _ h0;refine Brb hK (Bum id) func35 (bdy (by kernel_rfl)) rfl rfl rfl h0 ?_
 rw[show C1.hnd.contains 35=false from rfl];generalize he:(([.agg (Br x),.sl (Lf kn) .none,gp,.ptr id 0]:List D)++List.replicate (f35.ntmps - ([.agg (Br x),.sl (Lf kn) .none,gp,.ptr id 0]:List D).length) .undef)=e;have hl:e.length=45:=by rw[← he];rfl
 have e0:e.getD 0 .undef= .agg (Br x):=by rw[← he];rfl
 have e1:e.getD 1 .undef= .sl (Lf kn) .none:=by rw[← he];rfl
 have e3:e.getD 3 .undef= .ptr id 0:=by rw[← he];rfl
 clear he;refine Bj8 ?_;obtain⟨code,hcode⟩:∃code,code=strip (bd f35):=⟨_,rfl⟩;rw[← hcode];simp only[bd,f35,strip,Dl,List.map_toArray,MC]at hcode;subst hcode;have hbx:(S++ [.cells (Br x)])[S.length]?=some (.cells (Br x)):=by simp
 have lk:=B5y hbx;have hI1:B4p id (S++ [.cells (Br x)]) s:=(Bum id).fr _ _ _ h0 (by simp) (fun i hi=>List.getElem?_append_left hi)
 have k1:Bo prog .eql 3 (.int .i64 (Bc5 x).1) (.int .i64 1)=some (.bool false):=by show some (D.bool ((Bc5 x).1 == 1))=_;rw[B66 hx]
 have k2:Bo prog .eql 3 (.int .i64 (Bc5 x).1) (.int .i64 2)=some (.bool (Bpb x)):=by show some (D.bool ((Bc5 x).1 == 2))=_;rw[B75 hx]
 cases hq:Bpb x with
 |false=>
  rw[hq]at k2;rw[B7g hq]
  repeat (first
   |refine A00 ?_|refine Asu ?_|refine Bkx ?_|refine Awr ?_|refine Bq (by decide) ?_|refine Eg rfl rfl ?_
   |((first|refine Ei rfl rfl rfl rfl ?_|refine Ee rfl rfl ?_|refine Ed rfl rfl ?_|refine Bni ?_);refine⟨_,by simp only[Bj,BB,Af,ev,Am,Ak,Ag,Gc,Ai,↓reduceIte,Nat.reduceEqDiff,Nat.reduceLT,Aj,hP,hl,e0,e1,e3,D.known,D.cells,lk,k1,k2,Bot];first|done|rfl,?_⟩)
   |dsimp only)
  exact⟨.inl rfl,hI1⟩
 |true=>
  rw[hq]at k2;obtain⟨a,nm,rfl⟩:∃a nm,x= .var a nm:=by
   cases x with
   |var a nm=>exact⟨a,nm,rfl⟩
   |_=>simp[Bpb]at hq
  have ln:=B5n hbx;replace ln:Fp prog 9 (.ptr S.length 4) (S++ [.cells (Br (.var a nm))])=some (.str nm,.rd [S.length]):=ln;have la:=B97 hbx;replace la:Fp prog 3 (.ptr S.length 1) (S++ [.cells (Br (.var a nm))])=some (.int .i64 (a:Int),.rd [S.length]):=la;have hcc:∀st,G6 C1 cf 36 [] [] [.sl (Lf kn) .none,.str nm] st=some (.bool (kn.contains nm),st,[]):=fun st=>Amz (by kernel_rfl) rfl rfl (hc kn nm hkn st)
  have hu:Bp5 (.var a nm) kn s=if kn.contains nm then s else B5l a s:=rfl;rw[hu];have hWi:∀i∈ [id],i=id∨S.length≤i:=by simp
  cases hb:kn.contains nm with
  |true=>
   rw[hb]at hcc;rw[if_pos rfl]
   repeat (first
    |refine A00 ?_|refine Asu ?_|refine Bkx ?_|refine Awr ?_|refine Bq (by decide) ?_|refine Eg rfl rfl ?_|refine Zc (V:= []) (by simp) ?_
    |((first|refine Ei rfl rfl rfl rfl ?_|refine Ee rfl rfl ?_|refine Ed rfl rfl ?_|refine Bni ?_);refine⟨_,by simp only[Bj,BB,Af,ev,Am,Ak,Ag,Gc,Ai,↓reduceIte,Nat.reduceEqDiff,Nat.reduceLT,Aj,hP,hl,e0,e1,e3,D.known,D.cells,lk,ln,la,k1,k2,Bot,Brk,hcc];first|done|rfl,?_⟩)
    |dsimp only)
   exact⟨.inl rfl,hI1⟩
  |false=>
   rw[hb]at hcc;rw[if_neg (by simp)]
   cases s with
   |none=>
    replace hI1:(S++ [.cells (Br (.var a nm))])[id]?=some (.cells [.int .i64 0,.int .i64 0]):=hI1;have l1:=B2l hI1;have l2:=ste hI1 5 (a:Int);have q0:=B6y 31 0 0;rw[show((0:Int) == 0)=true from rfl]at q0
    repeat (first
     |refine A00 ?_|refine Asu ?_|refine Bkx ?_|refine Awr ?_|refine Bq (by decide) ?_|refine Eg rfl rfl ?_|refine Zc (V:= []) (by simp) ?_|refine Zc hWi ?_
     |((first|refine Ei rfl rfl rfl rfl ?_|refine Ee rfl rfl ?_|refine Ed rfl rfl ?_|refine Bni ?_);refine⟨_,by simp only[Bj,BB,Af,ev,Am,Ak,Ag,Gc,Ai,↓reduceIte,Nat.reduceEqDiff,Nat.reduceLT,Aj,hP,hl,e0,e1,e3,D.known,D.cells,lk,ln,la,k1,k2,Bot,B3m,Brk,hcc,B2w,B3a,l1,l2,q0,B52];first|done|rfl,?_⟩)
     |dsimp only)
    refine⟨.inl rfl,?_⟩;show((S++ [Obj.cells (Br (.var a nm))]).set id (.cells [.int .i64 5,.int .i64 (a:Int)]))[id]?=_;rw[List.getElem?_set,if_pos rfl,if_pos (by simp;omega)]
    rfl
   |some b=>
    replace hI1:(S++ [.cells (Br (.var a nm))])[id]?=some (.cells [.int .i64 5,.int .i64 (b:Int)]):=hI1;have l1:=B2l hI1;have l3:=B9i hI1;have l2:=ste hI1 5 (a:Int);have q0:=B6y 31 5 0;rw[show((5:Int) == 0)=false from rfl]at q0;have q1:=B5p 3 (a:Int) (b:Int);by_cases hab:a<b
    ·rw[decide_eq_true (by omega)]at q1
     repeat (first
      |refine A00 ?_|refine Asu ?_|refine Bkx ?_|refine Awr ?_|refine Bq (by decide) ?_|refine Eg rfl rfl ?_|refine Zc (V:= []) (by simp) ?_|refine Zc hWi ?_
      |((first|refine Ei rfl rfl rfl rfl ?_|refine Ee rfl rfl ?_|refine Ed rfl rfl ?_|refine Bni ?_);refine⟨_,by simp only[Bj,BB,Af,ev,Am,Ak,Ag,Gc,Ai,↓reduceIte,Nat.reduceEqDiff,Nat.reduceLT,Aj,hP,hl,e0,e1,e3,D.known,D.cells,lk,ln,la,k1,k2,Bot,B3m,Brk,hcc,B2w,B3a,l1,l2,l3,q0,q1,B52];first|done|rfl,?_⟩)
      |dsimp only)
     refine⟨.inl rfl,?_⟩;show((S++ [Obj.cells (Br (.var a nm))]).set id (.cells [.int .i64 5,.int .i64 (a:Int)]))[id]?=_;rw[List.getElem?_set,if_pos rfl,if_pos (by simp;omega)]
     show _=some (Obj.cells (B2v (if a<b then some a else some b)));rw[if_pos hab];rfl
    ·rw[decide_eq_false (by omega)]at q1
     repeat (first
      |refine A00 ?_|refine Asu ?_|refine Bkx ?_|refine Awr ?_|refine Bq (by decide) ?_|refine Eg rfl rfl ?_|refine Zc (V:= []) (by simp) ?_|refine Zc hWi ?_
      |((first|refine Ei rfl rfl rfl rfl ?_|refine Ee rfl rfl ?_|refine Ed rfl rfl ?_|refine Bni ?_);refine⟨_,by simp only[Bj,BB,Af,ev,Am,Ak,Ag,Gc,Ai,↓reduceIte,Nat.reduceEqDiff,Nat.reduceLT,Aj,hP,hl,e0,e1,e3,D.known,D.cells,lk,ln,la,k1,k2,Bot,B3m,Brk,hcc,B2w,B3a,l1,l2,l3,q0,q1,B52];first|done|rfl,?_⟩)
      |dsimp only)
     refine⟨.inl rfl,?_⟩;show _=some (Obj.cells (B2v (if a<b then some a else some b)));rw[if_neg hab];exact hI1
end
theorem Bbg{cf:Ah}{N:Nat}{f:FuncId}{fn:Func}{c:Code}{args:List D}{st:St}{v:D}(hK:∀f,Ba (cf f))(hfn:prog.funcs[f]?=some fn)(hb:fn.body=some c)
  (h:ExO C1 (C1.hnd.contains f) (C1.ords f) cf N (fun i=>st.length≤i) c (args++List.replicate (fn.ntmps - args.length) .undef) st (fun y e' st'=>(y= .norm∨y= .ret)∧∃vals vs st2,Gm C1.P e' st' fn.results.toList=some vals∧Ls C1 f vals st'=some (vs,st2)∧oneOf vs=v∧(∀i,i<st.length→st2[i]?=st'[i]?)∧(D8 st.length v=false∨st2=st))):
  run C1 cf N f args st=some (v,st,[]):=by
 obtain⟨y,e',st',V,h1,h2,h3,vals,vs,st2,h4,h5,rfl,h6,h7⟩:=h.ex;have hkk:=Ahg hK N (od:=C1.ords f) (C:=C1) (h:=C1.hnd.contains f) c _ _ _ _ _ _ h1;have hfil:(Dj (Dn st' st2) V).filter (· <st.length)= []:=by
  rw[List.filter_eq_nil_iff];intro id hid;rcases Cm.1 hid with h|h
  ·intro hlt;have hlt:=of_decide_eq_true hlt;unfold Dn at h;obtain⟨_,hc⟩:=List.mem_filter.1 h;rw[h6 id hlt]at hc;cases hx:st'[id]? with
   |none=>rw[hx]at hc;simp at hc
   |some o=>rw[hx]at hc;cases o<;>simp at hc
  ·have:=h2 id h;simp;omega
 have htake:st2.take st.length=st:=by
  apply List.ext_getElem?;intro i;rw[List.getElem?_take];split
  ·rename_i hi;rw[h6 i hi];exact hkk.2 i hi fun hn=>by have:=h2 i hn;omega
  ·rename_i hi;rw[List.getElem?_eq_none (by omega)]
 have hrun:run C1 cf N f args st=finish st.length (oneOf vs) st2 (Dj (Dn st' st2) V):=by
  unfold run;have hP:C1.P=prog:=rfl;rw[hP,hfn];dsimp only;rw[hb];dsimp only;rw[h1];rw[hP]at h4;rcases h3 with rfl|rfl
  all_goals
   dsimp only;rw[h4];dsimp only;rw[h5]
 rw[hrun];unfold finish;dsimp only;rw[hfil];simp only[List.any_nil,Bool.or_false];split
 ·rename_i hr;rcases h7 with h7|h7
  ·rw[h7]at hr;cases hr
  ·rw[h7]
 ·rw[htake]
theorem Brh{f:FuncId}{cf:Ah}{args:List D}{v:D}(hb:Dm C1.P f=true)(hr:C1.byRef.contains f=true)(hc:Ao cf f args v)(S:St):G6 C1 cf f [] [] args S=some (v,S,[]):=by unfold G6;rw[hb,hr];have:=hc S;simpa using this
def B6d(id:Nat)(S:St):Option (List UInt8)→Prop
 |none=>S[id]?=some (.cells [.nilsl])
 |some t=>∃k,id<k∧k<S.length∧S[id]?=some (.cells [.arr 1 k 0 1 1])∧S[k]?=some (.cells [.str t])
theorem Bvs(id:Nat):B2k (B6d id) id:= {
 lt S s h:=by
  cases s with
  |none=>exact(List.getElem?_eq_some_iff.1 h).1
  |some t=>obtain⟨k,h1,h2,h3,h4⟩:=h;exact(List.getElem?_eq_some_iff.1 h3).1
 fr S S' s h hle hf:=by
  cases s with
  |none=>show S'[id]?=_;rw[hf id (List.getElem?_eq_some_iff.1 h).1];exact h
  |some t=>obtain⟨k,h1,h2,h3,h4⟩:=h;exact⟨k,h1,by omega,by rw[hf id (List.getElem?_eq_some_iff.1 h3).1];exact h3,by rw[hf k h2];exact h4⟩
 low S s h o ho:=by
  cases s with
  |none=>rw[show S[id]?=_ from h]at ho;cases ho;rfl
  |some t=>obtain⟨k,h1,h2,h3,h4⟩:=h;rw[h3]at ho;cases ho;simp only[Zl,F6,D8,Bool.or_false,decide_eq_false_iff_not];omega
 cut S' s n0 h hn hid ho:=by
  cases s with
  |none=>show(S'.take n0)[id]?=_;rw[List.getElem?_take,if_pos hid];exact h
  |some t=>obtain⟨k,h1,h2,h3,h4⟩:=h;have:=ho _ h3;simp only[Zl,F6,D8,Bool.or_false,decide_eq_false_iff_not]at this;exact⟨k,h1,by rw[List.length_take];omega,by rw[List.getElem?_take,if_pos hid];exact h3,by rw[List.getElem?_take,if_pos (by omega)];exact h4⟩}
def Bng:Qy→List (List UInt8)→Option (List UInt8)→Option (List UInt8)
 | .var a nm,kn,s=>if kn.contains nm then s else some nm
 |_,_,s=>s
def B4g:Qy→Prop
 | .bin k _ _ _=>k≠2
 | .un k _ _ _ _=>k≠2
 |_=>True
def VF(x:Qy)(kn:List (List UInt8))(s:Option (List UInt8)):Prop:=B4g x∧kn.length<1000∧(Bpb x=true→kn.contains (Bc5 x).2.2.2.1=true∨s=none)
theorem B7w{x:Qy}(h:B4g x):((Bc5 x).1 == 2)=Bpb x:=by
 cases x with
 |bin k a x y=>simpa[Bc5,Bpb,B4g]using h
 |un k a nm n x=>simpa[Bc5,Bpb,B4g]using h
 |_=>rfl
theorem B6i{x:Qy}{kn:List (List UInt8)}{s:Option (List UInt8)}(h:Bpb x=false):Bng x kn s=s:=by cases x<;>first|rfl|simp[Bpb]at h
theorem B64:Bw prog 23=some 1:=by kernel_rfl
theorem B91:Jg prog 23=false:=by kernel_rfl
theorem Caq:(prog.underlying 23).isSome=true:=by kernel_rfl
theorem B8j:zeroOf prog 23=some [.nilsl]:=by kernel_rfl
theorem by9:Jm prog 9=some 16:=by kernel_rfl
theorem hz9:Kt prog 9 1=true:=by kernel_rfl
theorem B9g{S:St}{id:Nat}{d:D}(h:S[id]?=some (.cells [d])):Fp prog 23 (.ptr id 0) S=some (d,.rd [id]):=by
 rw[ldp h,Br0 B64 Caq B91 (by simp)]
 rfl
theorem Cax{S:St}{id:Nat}{d d':D}(h:S[id]?=some (.cells [d]))(h1:d'.cells= [d'])(h2:Al d'=true):I4 prog 23 (.ptr id 0) d' S=some (.undef,S.set id (.cells [d']),[id]):=by unfold I4;dsimp only;rw[h];simp[B64,h1,h2]
theorem Ca0(t:List UInt8):List.take (0*1) (rep [D.str []] 1)++(D.str t).cells++List.drop (0*1+1) (rep [D.str []] 1)= [.str t]:=rfl
theorem Cau(t:List UInt8):List.take (0*1) (rep [D.str []] 1)++ [D.str t]++List.drop (0*1+1) (rep [D.str []] 1)= [.str t]:=rfl
theorem B8y(t:List UInt8)(T:St):C8 prog true 23 .nilsl (.arr 1 T.length 0 1 1) (T++ [.cells [.str t]])=some (.arr 1 (T++ [Obj.cells [.str t]]).length 0 1 1,T++ [.cells [.str t]]++ [.cells [.str t]],[]):=by
 unfold C8;rw[B33];dsimp only;rw[B7u,by9];have:rowsOf (T++ [.cells [.str t]]) (.arr 1 T.length 0 1 1)=some [[.str t]]:=by simp[rowsOf,Kr,chunk]
 rw[this];simp[hz9,Al,Dh]
section
variable{cf:Ah}{N:Nat}(hK:∀f,Ba (cf f))
include hK
set_option maxHeartbeats 8000000 in
theorem Bzd(hc:∀(kn:List (List UInt8)) (t:List UInt8),kn.length<1000→Ao cf 36 [.sl (Lf kn) .none,.str t] (.bool (kn.contains t)))(id:Nat)(x:Qy)(kn:List (List UInt8))(s:Option (List UInt8))(hx:VF x kn s):
  Bqk (run C1 cf N) 38 [.agg (Br x),.sl (Lf kn) .none,.ptr id 0] (B6d id) id s (Bng x kn s):=by
 intro S h0;have hP:C1.P=prog:=rfl;have hid:=(Bvs id).lt _ _ h0;refine Brb hK (Bvs id) func38 (bdy (by kernel_rfl)) rfl rfl rfl h0 ?_
 rw[show C1.hnd.contains 38=true from rfl];generalize he:(([.agg (Br x),.sl (Lf kn) .none,.ptr id 0]:List D)++List.replicate (f38.ntmps - ([.agg (Br x),.sl (Lf kn) .none,.ptr id 0]:List D).length) .undef)=e;have hl:e.length=20:=by rw[← he];rfl
 have e0:e.getD 0 .undef= .agg (Br x):=by rw[← he];rfl
 have e1:e.getD 1 .undef= .sl (Lf kn) .none:=by rw[← he];rfl
 have e2:e.getD 2 .undef= .ptr id 0:=by rw[← he];rfl
 clear he;refine Bj8 ?_;obtain⟨code,hcode⟩:∃code,code=strip (bd f38):=⟨_,rfl⟩;rw[← hcode];simp only[bd,f38,strip,Dl,List.map_toArray,MC]at hcode;subst hcode;have hbx:(S++ [.cells (Br x)])[S.length]?=some (.cells (Br x)):=by simp
 have lk:=B5y hbx;have hI1:B6d id (S++ [.cells (Br x)]) s:=(Bvs id).fr _ _ _ h0 (by simp) (fun i hi=>List.getElem?_append_left hi)
 have k2:Bo prog .eql 3 (.int .i64 (Bc5 x).1) (.int .i64 2)=some (.bool (Bpb x)):=by show some (D.bool ((Bc5 x).1 == 2))=_;rw[B7w hx.1]
 cases hq:Bpb x with
 |false=>
  rw[hq]at k2;rw[B6i hq]
  repeat (first
   |refine A00 ?_|refine Asu ?_|refine Bkx ?_|refine Awr ?_|refine Bq (by decide) ?_|refine Eg rfl rfl ?_
   |((first|refine Ei rfl rfl rfl rfl ?_|refine Ee rfl rfl ?_|refine Ed rfl rfl ?_|refine Bni ?_);refine⟨_,by simp only[Bj,BB,Af,ev,Am,Ak,Ag,Gc,Ai,↓reduceIte,Nat.reduceEqDiff,Nat.reduceLT,Aj,hP,hl,e0,e1,e2,D.known,D.cells,lk,k2,Bot];first|done|rfl,?_⟩)
   |dsimp only)
  exact⟨.inl rfl,hI1⟩
 |true=>
  rw[hq]at k2;obtain⟨a,nm,rfl⟩:∃a nm,x= .var a nm:=by
   cases x with
   |var a nm=>exact⟨a,nm,rfl⟩
   |_=>simp[Bpb]at hq
  have ln:=B5n hbx;replace ln:Fp prog 9 (.ptr S.length 4) (S++ [.cells (Br (.var a nm))])=some (.str nm,.rd [S.length]):=ln;have hcc:∀st,G6 C1 cf 36 [] [] [.sl (Lf kn) .none,.str nm] st=some (.bool (kn.contains nm),st,[]):=fun st=>Amz (by kernel_rfl) rfl rfl (hc kn nm hx.2.1 st)
  have hu:Bng (.var a nm) kn s=if kn.contains nm then s else some nm:=rfl;rw[hu];have hWi:∀i∈ [id],i=id∨S.length≤i:=by simp
  cases hb:kn.contains nm with
  |true=>
   rw[hb]at hcc;rw[if_pos rfl]
   repeat (first
    |refine A00 ?_|refine Asu ?_|refine Bkx ?_|refine Awr ?_|refine Bq (by decide) ?_|refine Eg rfl rfl ?_|refine Zc (V:= []) (by simp) ?_
    |((first|refine Ei rfl rfl rfl rfl ?_|refine Ee rfl rfl ?_|refine Ed rfl rfl ?_|refine Bni ?_);refine⟨_,by simp only[Bj,BB,Af,ev,Am,Ak,Ag,Gc,Ai,↓reduceIte,Nat.reduceEqDiff,Nat.reduceLT,Aj,hP,hl,e0,e1,e2,D.known,D.cells,lk,ln,k2,Bot,Brk,hcc];first|done|rfl,?_⟩)
    |dsimp only)
   exact⟨.inl rfl,hI1⟩
  |false=>
   rw[hb]at hcc;rw[if_neg (by simp)]
   have hs:s=none:=by
    rcases hx.2.2 hq with h|h
    ·exact absurd (hb.symm.trans h) (by simp)
    ·exact h
   subst hs;replace hI1:(S++ [.cells (Br (.var a nm))])[id]?=some (.cells [.nilsl]):=hI1;have l1:=B9g hI1;have ap:=B8y nm (S++ [.cells (Br (.var a nm))]);have hI3:(S++ [.cells (Br (.var a nm))]++ [.cells [.str nm]]++ [.cells [.str nm]])[id]?=some (.cells [.nilsl]):=by
    rw[List.getElem?_append_left (by simp;omega),List.getElem?_append_left (by simp;omega)]
    exact hI1
   have l2:=Cax (d':= .arr 1 (S++ [Obj.cells (Br (.var a nm))]++ [Obj.cells [.str nm]]).length 0 1 1) hI3 rfl rfl
   repeat (first
    |refine A00 ?_|refine Asu ?_|refine Bkx ?_|refine Awr ?_|refine Bq (by decide) ?_|refine Eg rfl rfl ?_|refine Zc (V:= []) (by simp) ?_|refine Zc hWi ?_
    |((first|refine Ei rfl rfl rfl rfl ?_|refine Ee rfl rfl ?_|refine Ed rfl rfl ?_|refine Bni ?_);refine⟨_,by simp only[Bj,BB,Af,ev,Am,Ak,Ag,Gc,Ai,↓reduceIte,Nat.reduceEqDiff,Nat.reduceLT,Aj,Gn,hP,hl,e0,e1,e2,D.known,D.cells,lk,ln,k2,Bot,Brk,hcc,l1,B33,B7u,B9z,Ca0,Cau,ap,l2];first|done|rfl,?_⟩)
    |dsimp only)
   refine⟨.inl rfl,(S++ [Obj.cells (Br (.var a nm))]++ [Obj.cells [.str nm]]).length,by simp;omega,by simp,?_,?_⟩
   ·rw[List.getElem?_set,if_pos rfl,if_pos (by simp;omega)]
   ·rw[List.getElem?_set,if_neg (by simp;omega)]
    simp
variable{d:D}{n:Nat}(hd:d= .nilsl∧n=0∨∃k,d= .arr 1 k 0 1 1∧n=1)
include hd
omit hK in
theorem B62(S:St):Ny prog 23 d S=some (.int .i64 (n:Int),.pure):=by unfold Ny;rw[underlying23];rcases hd with⟨rfl,rfl⟩|⟨k,rfl,rfl⟩<;>rfl
set_option maxHeartbeats 8000000 in
theorem B57(hN:0<N):Ao (run C1 cf N) 115 [d,.int .i64 0,.int .i64 (n:Int)] (.tup []):=fun S=>by
 have hP:C1.P=prog:=rfl;refine Bbg hK func115 (bdy (by kernel_rfl)) ?_
 rw[show C1.hnd.contains 115=false from rfl];generalize he:(([d,.int .i64 0,.int .i64 (n:Int)]:List D)++List.replicate (f115.ntmps - ([d,.int .i64 0,.int .i64 (n:Int)]:List D).length) .undef)=e;have hl:e.length=49:=by rw[← he];rfl
 have e1:e.getD 1 .undef= .int .i64 0:=by rw[← he];rfl
 have e2:e.getD 2 .undef= .int .i64 (n:Int):=by rw[← he];rfl
 clear he;refine Bj8 ?_;obtain⟨code,hcode⟩:∃code,code=strip (bd f115):=⟨_,rfl⟩;rw[← hcode];simp only[bd,f115,strip,Dl,List.map_toArray,MC]at hcode;subst hcode;have b1:Bo prog .add 3 (.int .i64 0) (.int .i64 1)=some (.int .i64 1):=by kernel_rfl
 have b2:=B5p 3 1 (n:Int);rw[decide_eq_false (by rcases hd with⟨_,rfl⟩|⟨k,_,rfl⟩<;>omega)]at b2
 repeat (first
  |refine A00 ?_|refine Asu ?_|refine Bkx ?_|refine Awr ?_|refine Bq (by decide) ?_|refine Eg rfl rfl ?_
  |((first|refine Ee rfl rfl ?_|refine Ed rfl rfl ?_);refine⟨_,by simp only[Bj,BB,Af,ev,Am,Ak,Ag,Gc,Ai,↓reduceIte,Nat.reduceEqDiff,Nat.reduceLT,Aj,hP,hl,e1,e2,b1];first|done|rfl,?_⟩)
  |dsimp only)
 refine Awv (fun k e' S'=>k=0∧S'=S∧e'.length=49∧e'.getD 6 .undef= .int .i64 1∧e'.getD 2 .undef= .int .i64 (n:Int)) 0 hN ?_ ?_
 ·refine⟨rfl,rfl,?_,?_,?_⟩
  all_goals (simp only[BB,Am,hl,Nat.reduceEqDiff,↓reduceIte,Nat.reduceLT];first|done|exact e2|rfl)
 clear e1 e2 hl e;rintro k e S' ⟨rfl,rfl,hl,e6,e2⟩
 repeat (first
  |refine A00 ?_|refine Bkx ?_|refine Avq ?_|refine Bq (by decide) ?_|refine Eg rfl rfl ?_
  |((first|refine Ee rfl rfl ?_|refine Bni ?_);refine⟨_,by simp only[Bj,BB,Af,ev,Am,Ak,Ag,Gc,Ai,↓reduceIte,Nat.reduceEqDiff,Nat.reduceLT,Aj,hP,hl,e2,e6,b2];first|done|rfl,?_⟩)
  |dsimp only)
 exact⟨.inl rfl,[],[],S',rfl,rfl,rfl,fun _ _=>rfl,.inl rfl⟩
set_option maxHeartbeats 8000000 in
theorem B6c(hN:0<N)(h115:Ao cf 115 [d,.int .i64 0,.int .i64 (n:Int)] (.tup [])):Ao (run C1 cf N) 66 [d,.int .i64 0,.int .i64 (n:Int),.int .i64 (n:Int)] (.tup []):=fun S=>by
 have hP:C1.P=prog:=rfl;refine Bbg hK func66 (bdy (by kernel_rfl)) ?_
 rw[show C1.hnd.contains 66=false from rfl];generalize he:(([d,.int .i64 0,.int .i64 (n:Int),.int .i64 (n:Int)]:List D)++List.replicate (f66.ntmps - ([d,.int .i64 0,.int .i64 (n:Int),.int .i64 (n:Int)]:List D).length) .undef)=e;have hl:e.length=134:=by rw[← he];rfl
 have e0:e.getD 0 .undef=d:=by rw[← he];rfl
 have e1:e.getD 1 .undef= .int .i64 0:=by rw[← he];rfl
 have e2:e.getD 2 .undef= .int .i64 (n:Int):=by rw[← he];rfl
 clear he;refine Bj8 ?_;obtain⟨code,hcode⟩:∃code,code=strip (bd f66):=⟨_,rfl⟩;rw[← hcode];simp only[bd,f66,strip,Dl,List.map_toArray,MC]at hcode;subst hcode;have hn:n≤1:=by rcases hd with⟨_,rfl⟩|⟨k,_,rfl⟩<;>omega
 have b1:Bo prog .sub 3 (.int .i64 (n:Int)) (.int .i64 0)=some (.int .i64 (n:Int)):=by
  show some (D.int .i64 (IntKind.i64.wrap ((n:Int) - 0)))=_;rw[Go.IntWalk.i64_in _ (by omega)]
  simp
 have b2:=B95 3 (n:Int) 12;rw[decide_eq_true (by omega)]at b2
 have hcc:=Brh (f:=115) (by kernel_rfl) rfl h115
 repeat (first
  |refine A00 ?_|refine Asu ?_|refine Bkx ?_|refine Awr ?_|refine Bq (by decide) ?_|refine Eg rfl rfl ?_
  |((first|refine Ee rfl rfl ?_|refine Ed rfl rfl ?_);refine⟨_,by simp only[Bj,BB,Af,ev,Am,Ak,Ag,Gc,Ai,↓reduceIte,Nat.reduceEqDiff,Nat.reduceLT,Aj,hP,hl,e0,e1,e2];first|done|rfl,?_⟩)
  |dsimp only)
 refine Awv (fun k e' S'=>k=0∧S'=S∧e'.length=134∧e'.getD 0 .undef=d∧e'.getD 1 .undef= .int .i64 0∧e'.getD 2 .undef= .int .i64 (n:Int)) 0 hN ?_ ?_
 ·refine⟨rfl,rfl,?_,?_,?_,?_⟩
  all_goals (simp only[BB,Am,hl,Nat.reduceEqDiff,↓reduceIte,Nat.reduceLT];first|done|exact e0|exact e1|exact e2|rfl)
 clear e0 e1 e2 hl e;rintro k e S' ⟨rfl,rfl,hl,e0,e1,e2⟩
 repeat (first
  |refine A00 ?_|refine Asu ?_|refine Bkx ?_|refine Avq ?_|refine Ay7 ?_|refine Bq (by decide) ?_|refine Eg rfl rfl ?_|refine Zc (V:= []) (by simp) ?_
  |((first|refine Ee rfl rfl ?_|refine Ed rfl rfl ?_|refine Bni ?_);refine⟨_,by simp only[Bj,BB,Af,ev,Am,Ak,Ag,Gc,Ai,↓reduceIte,Nat.reduceEqDiff,Nat.reduceLT,Aj,hP,hl,e0,e1,e2,b1,b2,hcc];first|done|rfl,?_⟩)
  |dsimp only)
 exact⟨.inr rfl,[],[],S',rfl,rfl,rfl,fun _ _=>rfl,.inl rfl⟩
set_option maxHeartbeats 8000000 in
theorem B6u(h67:∀m:Nat,m≤1→Ao cf 67 [.int .u64 (m:Int)] (.int .i64 (m:Int)))(h66:Ao cf 66 [d,.int .i64 0,.int .i64 (n:Int),.int .i64 (n:Int)] (.tup [])):Ao (run C1 cf N) 39 [d] (.tup []):=fun S=>by
 have hP:C1.P=prog:=rfl;refine Bbg hK func39 (bdy (by kernel_rfl)) ?_
 rw[show C1.hnd.contains 39=false from rfl];generalize he:(([d]:List D)++List.replicate (f39.ntmps - ([d]:List D).length) .undef)=e;have hl:e.length=11:=by rw[← he];rfl
 have e0:e.getD 0 .undef=d:=by rw[← he];rfl
 clear he;refine Bj8 ?_;obtain⟨code,hcode⟩:∃code,code=strip (bd f39):=⟨_,rfl⟩;rw[← hcode];simp only[bd,f39,strip,Dl,List.map_toArray,MC]at hcode;subst hcode;have hn:n≤1:=by rcases hd with⟨_,rfl⟩|⟨k,_,rfl⟩<;>omega
 have ld:=B62 hd;have hcv:∀st,Dr prog 3 115 (.int .i64 (n:Int)) st=some (.int .u64 (n:Int),.pure):=fun st=>by rcases hd with⟨_,rfl⟩|⟨k,_,rfl⟩<;>kernel_rfl
 have hcc:=Brh (f:=66) (by kernel_rfl) rfl h66
 have hc67:∀st,G6 C1 cf 67 [] [] [.int .u64 (n:Int)] st=some (.int .i64 (n:Int),st,[]):=fun st=>Amz (by kernel_rfl) rfl rfl (h67 n hn st)
 repeat (first
  |refine A00 ?_|refine Asu ?_|refine Bkx ?_|refine Awr ?_|refine Bq (by decide) ?_|refine Eg rfl rfl ?_|refine Zc (V:= []) (by simp) ?_
  |((first|refine Ee rfl rfl ?_|refine Ed rfl rfl ?_);refine⟨_,by simp only[Bj,BB,Af,ev,Am,Ak,Ag,Gc,Ai,↓reduceIte,Nat.reduceEqDiff,Nat.reduceLT,Aj,hP,hl,e0,ld,hcv,hc67,hcc];first|done|rfl,?_⟩)
  |dsimp only)
 exact⟨.inl rfl,[],[],S,rfl,rfl,rfl,fun _ _=>rfl,.inl rfl⟩
set_option maxHeartbeats 8000000 in
theorem B6e:Ao (run C1 cf N) 40 [d] d:=fun S=>by
 have hP:C1.P=prog:=rfl;refine Bbg hK func40 (bdy (by kernel_rfl)) ?_
 rw[show C1.hnd.contains 40=false from rfl];generalize he:(([d]:List D)++List.replicate (f40.ntmps - ([d]:List D).length) .undef)=e;have hl:e.length=61:=by rw[← he];rfl
 have e0:e.getD 0 .undef=d:=by rw[← he];rfl
 clear he;refine Bj8 ?_;obtain⟨code,hcode⟩:∃code,code=strip (bd f40):=⟨_,rfl⟩;rw[← hcode];simp only[bd,f40,strip,Dl,List.map_toArray,MC]at hcode;subst hcode;have hn:n≤1:=by rcases hd with⟨_,rfl⟩|⟨k,_,rfl⟩<;>omega
 have ld:=B62 hd;have b2:=B5p 3 (n:Int) 2;rw[decide_eq_true (by omega)]at b2
 repeat (first
  |refine A00 ?_|refine Asu ?_|refine Bkx ?_|refine Awr ?_|refine Ay7 ?_|refine Bq (by decide) ?_|refine Eg rfl rfl ?_|refine Zc (V:= []) (by simp) ?_
  |((first|refine Ee rfl rfl ?_|refine Ed rfl rfl ?_|refine Bni ?_);refine⟨_,by simp only[Bj,BB,Af,ev,Am,Ak,Ag,Gc,Ai,↓reduceIte,Nat.reduceEqDiff,Nat.reduceLT,Aj,hP,hl,e0,ld,b2];first|done|rfl,?_⟩)
  |dsimp only)
 refine⟨.inr rfl,[d],[d],S,?_,?_,rfl,fun _ _=>rfl,.inr rfl⟩
 ·show Gm C1.P _ _ [.tmp 2]=_;simp only[Gm,BB,Am,hl,Nat.reduceEqDiff,↓reduceIte,Nat.reduceLT]
 ·unfold Ls;rfl
end
theorem atk(st os:St)(k:Nat):(st++os)[st.length+k]?=os[k]?:=by rw[List.getElem?_append_right (by omega),Nat.add_sub_cancel_left]
theorem B9h(st os:St)(k:Nat)(o:Obj):(st++os).set (st.length+k) o=st++os.set k o:=by rw[List.set_append,if_neg (by omega),Nat.add_sub_cancel_left]
theorem B8h(s:Option Nat):∃c a:Int,B2v s= [.int .i64 c,.int .i64 a]:=by cases s<;>exact⟨_,_,rfl⟩
def frD:Option (List UInt8)→List (List D)
 |none=> []
 |some t=> [[.str t]]
section
variable{cf:Ah}{N:Nat}(hK:∀f,Ba (cf f))
include hK
set_option maxHeartbeats 8000000 in
theorem B7p(x:Qy)(h34:∀gp id,Bqk cf 34 [.agg (Br x),.sl [] .none,.func 35 [] [gp,.ptr id 0]] (B4p id) id none (goQ Bp5 x [] none)):
  Ao (run C1 cf N) 11 [.eptr [],.agg (Br x)] (.agg (B2v (goQ Bp5 x [] none))):=fun S=>by
 have hP:C1.P=prog:=rfl;refine Bbg hK func11 (bdy (by kernel_rfl)) ?_
 rw[show C1.hnd.contains 11=false from rfl];generalize he:(([.eptr [],.agg (Br x)]:List D)++List.replicate (f11.ntmps - ([.eptr [],.agg (Br x)]:List D).length) .undef)=e;have hl:e.length=11:=by rw[← he];rfl
 have e0:e.getD 0 .undef= .eptr []:=by rw[← he];rfl
 have e1:e.getD 1 .undef= .agg (Br x):=by rw[← he];rfl
 clear he;refine Bj8 ?_;obtain⟨code,hcode⟩:∃code,code=strip (bd f11):=⟨_,rfl⟩;rw[← hcode];simp only[bd,f11,strip,Dl,List.map_toArray,MC]at hcode;subst hcode;have a1:S++ [Obj.cells [.eptr []]]++ [.cells (Br x)]=S++ [.cells [.eptr []],.cells (Br x)]:=by simp
 have a2:∀o:Obj,S++ [Obj.cells [.eptr []],.cells (Br x)]++ [o]=S++ [.cells [.eptr []],.cells (Br x),o]:=fun o=>by simp
 have a3:∀o p:Obj,S++ [Obj.cells [.eptr []],.cells (Br x),o]++ [p]=S++ [.cells [.eptr []],.cells (Br x),o,p]:=fun o p=>by simp
 have n1:(S++ [Obj.cells [.eptr []]]).length=S.length+1:=by simp
 have n2:(S++ [Obj.cells [.eptr []],.cells (Br x)]).length=S.length+2:=by simp
 have n3:∀o:Obj,(S++ [Obj.cells [.eptr []],.cells (Br x),o]).length=S.length+3:=fun o=>by simp
 generalize hT:S++ [Obj.cells [.eptr []],.cells (Br x),.cells [.int .i64 0,.int .i64 0],.cells [.int .i64 0,.int .i64 0]]=T at*;have t1:T[S.length+1]?=some (.cells (Br x)):=by rw[← hT,atk];rfl
 have t2:T[S.length+2]?=some (.cells [.int .i64 0,.int .i64 0]):=by rw[← hT,atk];rfl
 have t3:T[S.length+3]?=some (.cells [.int .i64 0,.int .i64 0]):=by rw[← hT,atk];rfl
 have tl:T.length=S.length+4:=by rw[← hT];simp
 have v1:=ste t3 0 0;rw[B5s t3]at v1;have w1:=Bxp t1;have a4:S++ [Obj.cells [.eptr []],.cells (Br x),.cells [.int .i64 0,.int .i64 0]]++ [.cells [.int .i64 0,.int .i64 0]]=T:=by rw[← hT];simp
 obtain⟨S2,V2,hc,hV,hI,hle,hfr⟩:=Btv hK (Bum (S.length+3)) (f:=34) (by kernel_rfl) rfl (a:= []) (c:= []) (as_:= [.agg (Br x),.nilsl,.func 35 [] [.ptr S.length 0,.ptr (S.length+3) 0]]) (Ag6 (Ait (Md x)) (Ag6 rfl (Ag6 rfl Ale))) (h34 (.ptr S.length 0) (S.length+3)) t3
 have u2:S2[S.length+2]?=some (.cells [.int .i64 0,.int .i64 0]):=by
  rw[hfr _ (by omega) (by omega)]
  exact t2
 replace hI:S2[S.length+3]?=some (.cells (B2v (goQ Bp5 x [] none))):=hI;obtain⟨c,a,hca⟩:=B8h (goQ Bp5 x [] none);rw[hca]at hI ⊢;have w2:=B4i hI;have v2:=ste u2 c a;have hW1:∀i∈ [S.length+3],S.length≤i:=by simp
 have hW2:∀i∈V2,S.length≤i:=fun i hi=>by rw[hV i hi];omega
 have hW3:∀i∈ [S.length+2],S.length≤i:=by simp
 repeat (first
  |refine A00 ?_|refine Asu ?_|refine Bkx ?_|refine Awr ?_|refine Ay7 ?_|refine Bq (by decide) ?_|refine Eg rfl rfl ?_|refine Zc hW1 ?_|refine Zc hW2 ?_|refine Zc hW3 ?_
  |((first|refine Ee rfl rfl ?_|refine Ed rfl rfl ?_);refine⟨_,by simp only[Bj,BB,Af,ev,Am,Ak,Ag,Gc,Ai,↓reduceIte,Nat.reduceEqDiff,Nat.reduceLT,Aj,hP,hl,e0,e1,D.known,D.cells,a1,a2,a3,a4,hT,n1,n2,n3,Bns,B5r,v1,w1,hc,w2,v2];first|done|rfl,?_⟩)
  |dsimp only)
 have u3:(S2.set (S.length+2) (Obj.cells [.int .i64 c,.int .i64 a]))[S.length+2]?=some (.cells [.int .i64 c,.int .i64 a]):=by rw[List.getElem?_set,if_pos rfl,if_pos (by omega)]
 have w3:=B4i u3;refine⟨.inr rfl,[.agg [.int .i64 c,.int .i64 a]],[.agg [.int .i64 c,.int .i64 a]],_,?_,?_,rfl,fun _ _=>rfl,.inl rfl⟩
 ·show Gm C1.P _ _ [.cell 4 33]=_;simp only[Gm,BB,Am,hl,Nat.reduceEqDiff,↓reduceIte,Nat.reduceLT,hP,w3]
 ·rfl
set_option maxHeartbeats 8000000 in
theorem B7o(x:Qy)(h34:∀id,Bqk cf 34 [.agg (Br x),.sl [] .none,.func 38 [] [.ptr id 0]] (B6d id) id none (goQ Bng x [] none))
  (h39:∀(d:D),(d= .nilsl∨∃k,d= .arr 1 k 0 1 1)→Ao cf 39 [d] (.tup []))(h40:∀(d:D),(d= .nilsl∨∃k,d= .arr 1 k 0 1 1)→Ao cf 40 [d] d):
  Ao (run C1 cf N) 12 [.agg (Br x)] (.sl (frD (goQ Bng x [] none)) .none):=fun S=>by
 have hP:C1.P=prog:=rfl;refine Bbg hK func12 (bdy (by kernel_rfl)) ?_
 rw[show C1.hnd.contains 12=true from rfl];generalize he:(([.agg (Br x)]:List D)++List.replicate (f12.ntmps - ([.agg (Br x)]:List D).length) .undef)=e;have hl:e.length=11:=by rw[← he];rfl
 have e0:e.getD 0 .undef= .agg (Br x):=by rw[← he];rfl
 clear he;refine Bj8 ?_;obtain⟨code,hcode⟩:∃code,code=strip (bd f12):=⟨_,rfl⟩;rw[← hcode];simp only[bd,f12,strip,Dl,List.map_toArray,MC]at hcode;subst hcode;have n1:(S++ [Obj.cells (Br x)]).length=S.length+1:=by simp
 generalize hT:S++ [Obj.cells (Br x)]++ [.cells [.nilsl]]=T at*;have t0:T[S.length]?=some (.cells (Br x)):=by rw[← hT];simp
 have t1:T[S.length+1]?=some (.cells [.nilsl]):=by rw[← hT,List.append_assoc,atk];rfl
 have tl:T.length=S.length+2:=by rw[← hT];simp
 have w1:=Bxp t0;obtain⟨S2,V2,hc,hV,hI,hle,hfr⟩:=Btv hK (Bvs (S.length+1)) (f:=34) (by kernel_rfl) rfl (a:= []) (c:= []) (as_:= [.agg (Br x),.nilsl,.func 38 [] [.ptr (S.length+1) 0]]) (Ag6 (Ait (Md x)) (Ag6 rfl (Ag6 rfl Ale))) (h34 (S.length+1)) (s:=none) t1
 obtain⟨d,hd,hS2,hz⟩:∃d,(d= .nilsl∨∃k,d= .arr 1 k 0 1 1)∧S2[S.length+1]?=some (.cells [d])∧∃S3,Ls C1 12 [d] S2=some ([.sl (frD (goQ Bng x [] none)) .none],S3)∧∀i,i<S.length→S3[i]?=S2[i]?:=by
  cases hg:goQ Bng x [] none with
  |none=>rw[hg]at hI;exact⟨.nilsl,.inl rfl,hI,S2,rfl,fun _ _=>rfl⟩
  |some t=>
   rw[hg]at hI;obtain⟨k,h1,h2,h3,h4⟩:=hI;refine⟨.arr 1 k 0 1 1,.inr ⟨k,rfl⟩,h3,S2.set k (.fcells [.str t]),?_,fun i hi=>by rw[List.getElem?_set,if_neg (by omega)]⟩
   unfold Ls;rw[show C1.keepArr.contains 12=false from rfl,show C1.keepNil.contains 12=false from rfl];simp only[BF];have:frz Gu S2 (.arr 1 k 0 1 1)=some (.sl [[.str t]] .none,S2.set k (.fcells [.str t])):=by show frz (8+1) S2 (.arr 1 k 0 1 1)=_;simp[frz,h4,Eu,Kr,chunk]
   exact Ag6 this Ale
 obtain⟨S3,hz,hz2⟩:=hz;have l1:=B9g hS2;have c39:G6 C1 cf 39 [] [] [d] S2=some (.tup [],S2,[]):=Brh (by kernel_rfl) rfl (h39 d hd) S2
 have c40:G6 C1 cf 40 [] [] [d] S2=some (d,S2,[]):=Brh (by kernel_rfl) rfl (h40 d hd) S2
 have hW2:∀i∈V2,S.length≤i:=fun i hi=>by rw[hV i hi];omega
 repeat (first
  |refine A00 ?_|refine Asu ?_|refine Bkx ?_|refine Awr ?_|refine Ay7 ?_|refine Bq (by decide) ?_|refine Eg rfl rfl ?_|refine Zc hW2 ?_|refine Zc (V:= []) (by simp) ?_
  |((first|refine Ee rfl rfl ?_|refine Ed rfl rfl ?_);refine⟨_,by simp only[Bj,BB,Af,ev,Am,Ak,Ag,Gc,Ai,↓reduceIte,Nat.reduceEqDiff,Nat.reduceLT,Aj,hP,hl,e0,D.known,D.cells,n1,hT,B8j,w1,hc,l1,c39,c40];first|done|rfl,?_⟩)
  |dsimp only)
 refine⟨.inr rfl,[d],[.sl (frD (goQ Bng x [] none)) .none],S3,?_,hz,rfl,hz2,.inl ?_⟩
 ·show Gm C1.P _ _ [.tmp 2]=_;simp only[Gm,BB,Am,hl,Nat.reduceEqDiff,↓reduceIte,Nat.reduceLT]
 ·cases goQ Bng x [] none<;>rfl
end
section
variable{n:Nat}
theorem tS{f:FuncId}{xs:List D}{σ:Type}{Inv:St→σ→Prop}{id:Nat}{s s':σ}(h:Rv f=none)(hp:Bqk (run C1 (CF n) 2000) f xs Inv id s s'):Bqk (CF (n+1)) f xs Inv id s s':=fun S h0=>by obtain⟨S',W,h1,h2⟩:=hp S h0;exact⟨S',W,(Qd h).trans h1,h2⟩
end
section
variable(hK:∀n f,Ba (CF n f))
include hK
theorem B7h{σ:Type}{Inv:St→σ→Prop}{id:Nat}(hI:B2k Inv id){upd:Qy→List (List UInt8)→σ→σ}{V:Qy→List (List UInt8)→σ→Prop}{vf:FuncId}{caps:List D}(hvb:Dm C1.P vf=true)(hvr:C1.byRef.contains vf=false)
  (hv:∀m x kn s,V x kn s→Bqk (CF (m+4)) vf ([.agg (Br x),.sl (Lf kn) .none]++caps) Inv id s (upd x kn s)):
  ∀(n m:Nat) (x:Qy) (kn:List (List UInt8)) (s:σ),Df x≤n→goV upd V x kn s→Bqk (CF (m+n+4)) 34 [.agg (Br x),.sl (Lf kn) .none,.func vf [] caps] Inv id s (goQ upd x kn s)
 |0,m,x,kn,s,hd,_=>absurd (Xv x) (by omega)
 |n+1,m,x,kn,s,hd,hx=>by
  refine tS rfl (Bul (hK _) hI hvb hvr (fun S=>Amz (by kernel_rfl) rfl rfl (Ark (g:=Kg) rfl (fun cf st=>rfl) S)) x kn s hx (by decide) (hv (m+n) x kn s (B6r hx)) fun i y hy=>?_)
  have hk:=B6s hx hy;have hdy:Df y≤n:=by have h1:=Ms x;have:Df y≤dmax (L9 x):=Ah4 (List.mem_of_getElem? hy);omega
  have h:=B7h hI hvb hvr hv n m y _ _ hdy hk;rw[show goI upd x kn s (i+1)=goQ upd y (knK x kn i) (goI upd x kn s i)from by simp only[goI,hy]]
  exact h
def VE(x:Qy)(kn:List (List UInt8))(s:Option Nat):Prop:=B3f x∧kn.length<1000
theorem B8f(m:Nat)(x:Qy)(hd:Df x≤10)(hx:goV Bp5 VE x [] none):Ao (CF (m+15)) 11 [.eptr [],.agg (Br x)] (.agg (B2v (goQ Bp5 x [] none))):=
 pS rfl (B7p (hK _) x fun gp id=>B7h hK (Bum id) (by kernel_rfl) rfl (V:=VE) (fun m y kn s hv=>tS rfl (Bup (hK _) (fun kn t hkn=>a56 hK (m+1) kn hkn t) gp id y kn hv.2 hv.1 s)) 10 m x [] none hd hx)
theorem B6q(m:Nat)(x:Qy)(hd:Df x≤10)(hx:goV Bng VF x [] none):Ao (CF (m+15)) 12 [.agg (Br x)] (.sl (frD (goQ Bng x [] none)) .none):=by
 have h0:∀d:D,(d= .nilsl∨∃k,d= .arr 1 k 0 1 1)→∃n,d= .nilsl∧n=0∨∃k,d= .arr 1 k 0 1 1∧n=1:=fun d hd=>by
  rcases hd with rfl|⟨k,rfl⟩
  ·exact⟨0,.inl ⟨rfl,rfl⟩⟩
  ·exact⟨1,.inr ⟨k,rfl,rfl⟩⟩
 have h67:∀k:Nat,k≤1→Ao (CF (m+13)) 67 [.int .u64 (k:Int)] (.int .i64 (k:Int)):=fun k hm=>by
  match k,hm with
  |0,_=>exact Ark (g:=Im Bpl) rfl (fun cf st=>rfl)
  |1,_=>exact Ark (g:=Im Bpl) rfl (fun cf st=>rfl)
 refine pS rfl (B7o (hK _) x (fun id=>B7h hK (Bvs id) (by kernel_rfl) rfl (V:=VF) (fun m y kn s hv=>tS rfl (Bzd (hK _) (fun kn t hkn=>a56 hK (m+1) kn hkn t) id y kn s hv)) 10 m x [] none hd hx) (fun d hd=>?_) (fun d hd=>?_))
 ·obtain⟨n,hn⟩:=h0 d hd;exact pS rfl (B6u (hK _) hn h67 (pS rfl (B6c (hK _) hn (by decide) (pS rfl (B57 (hK _) hn (by decide))))))
 ·obtain⟨n,hn⟩:=h0 d hd;exact pS rfl (B6e (hK _) hn)
set_option maxHeartbeats 8000000 in
theorem B6t(m:Nat)(b:Bool):Ao (CF (m+1)) 13 [.bool b] (.int .i64 (if b then 1 else 0)):=pS rfl fun S=>by
 have hP:C1.P=prog:=rfl;refine Bbg (hK _) func13 (bdy (by kernel_rfl)) ?_
 rw[show C1.hnd.contains 13=false from rfl];generalize he:(([.bool b]:List D)++List.replicate (f13.ntmps - ([.bool b]:List D).length) .undef)=e;have hl:e.length=f13.ntmps:=by rw[← he];rfl
 have e0:e.getD 0 .undef= .bool b:=by rw[← he];rfl
 clear he;refine Bj8 ?_;obtain⟨code,hcode⟩:∃code,code=strip (bd f13):=⟨_,rfl⟩;rw[← hcode];simp only[bd,f13,strip,Dl,List.map_toArray,MC]at hcode hl;subst hcode;cases b with
 |true=>
  repeat (first
   |refine A00 ?_|refine Asu ?_|refine Bkx ?_|refine Awr ?_|refine Ay7 ?_|refine Bq (by decide) ?_|refine Eg rfl rfl ?_
   |((first|refine Ee rfl rfl ?_|refine Bni ?_);refine⟨_,by simp only[Bj,BB,Af,ev,Am,Ak,Ag,Gc,Ai,↓reduceIte,Nat.reduceEqDiff,Nat.reduceLT,Aj,hP,hl,e0];first|done|rfl,?_⟩)
   |dsimp only)
  refine⟨.inr rfl,[.int .i64 1],[.int .i64 1],S,?_,rfl,rfl,fun _ _=>rfl,.inl rfl⟩;simp only[f13,Gm,BB,Am,hl,Nat.reduceEqDiff,↓reduceIte,Nat.reduceLT]
 |false=>
  repeat (first
   |refine A00 ?_|refine Asu ?_|refine Bkx ?_|refine Awr ?_|refine Ay7 ?_|refine Bq (by decide) ?_|refine Eg rfl rfl ?_
   |((first|refine Ee rfl rfl ?_|refine Bni ?_);refine⟨_,by simp only[Bj,BB,Af,ev,Am,Ak,Ag,Gc,Ai,↓reduceIte,Nat.reduceEqDiff,Nat.reduceLT,Aj,hP,hl,e0];first|done|rfl,?_⟩)
   |dsimp only)
  refine⟨.inr rfl,[.int .i64 0],[.int .i64 0],S,?_,rfl,rfl,fun _ _=>rfl,.inl rfl⟩;simp only[f13,Gm,BB,Am,hl,Nat.reduceEqDiff,↓reduceIte,Nat.reduceLT]
end
def B82(b c:Bool):Option Bool:=match b with
 |true=>(match c with
  |true=>some true
  |false=>some false)
 |false=>some false
theorem B6p{b c:Bool}:B82 b c=some (b && c):=by cases b<;>cases c<;>rfl
theorem B9j(a b c d:Int):eqD prog 33 (.agg [.int .i64 a,.int .i64 b]) (.agg [.int .i64 c,.int .i64 d])=B82 (a == c) (b == d):=by kernel_rfl
theorem q33(a b c d:Int):Bo prog .eql 33 (.agg [.int .i64 a,.int .i64 b]) (.agg [.int .i64 c,.int .i64 d])=some (.bool (a == c && b == d)):=by simp only[Bo,B9j,B6p,Option.map_some]
theorem B9k{S:St}{id:Nat}{cs z:List D}(h:S[id]?=some (.cells z))(hz:z.length=7)(hc:cs.length=7)(h2:cs.all Al=true):I4 prog 30 (.ptr id 0) (.agg cs) S=some (.undef,S.set id (.cells cs),[id]):=by unfold I4;dsimp only;rw[h,Wp];simp[D.cells,hc,hz,h2,show z.drop 7= []from List.drop_of_length_le (by omega)]
theorem B5x{st:St}(k:Nat)(os:St){cs z:List D}(h:os[k]?=some (.cells z))(hz:z.length=7)(hc:cs.length=7)(h2:cs.all Al=true):I4 prog 30 (.ptr (st.length+k) 0) (.agg cs) (st++os)=some (.undef,st++os.set k (.cells cs),[st.length+k]):=by have h1:=atk st os k;rw[h]at h1;have h3:=B9k h1 hz hc h2;rw[B9h]at h3;exact h3
theorem B2n{st:St}(k:Nat)(os:St){a b:Int}(h:os[k]?=some (.cells [.int .i64 a,.int .i64 b]))(c d:Int):I4 prog 33 (.ptr (st.length+k) 0) (.agg [.int .i64 c,.int .i64 d]) (st++os)=some (.undef,st++os.set k (.cells [.int .i64 c,.int .i64 d]),[st.length+k]):=by have h1:=ste ((atk st os k).trans h) c d;rw[B9h]at h1;exact h1
theorem B98(st:St):Ny prog 23 (.sl [] .none) st=some (.int .i64 0,.pure):=by unfold Ny;rw[underlying23];rfl
theorem B9n(r:List D)(st:St):Ny prog 23 (.sl [r] .none) st=some (.int .i64 1,.pure):=by unfold Ny;rw[underlying23];rfl
theorem sEq(v w:List UInt8):Bo prog .eql 9 (.str v) (.str w)=some (.bool (v == w)):=rfl
theorem sNe(v w:List UInt8):Bo prog .neq 9 (.str v) (.str w)=some (.bool (!(v == w))):=rfl
section
variable{st:St}
theorem lz6(a b c d e f:Obj):(st++ [a,b,c,d,e,f]).length=st.length+6:=by simp
theorem lz7(a b c d e f g:Obj):(st++ [a,b,c,d,e,f,g]).length=st.length+7:=by simp
theorem lz8(a b c d e f g h:Obj):(st++ [a,b,c,d,e,f,g,h]).length=st.length+8:=by simp
theorem lz4(a b c d:Obj):(st++ [a,b,c,d]).length=st.length+4:=by simp
theorem lz5(a b c d e:Obj):(st++ [a,b,c,d,e]).length=st.length+5:=by simp
theorem az5(a b c d e:Obj):st++ [a,b,c,d]++ [e]=st++ [a,b,c,d,e]:=by simp
theorem az6(a b c d e f:Obj):st++ [a,b,c,d,e]++ [f]=st++ [a,b,c,d,e,f]:=by simp
theorem az7(a b c d e f g:Obj):st++ [a,b,c,d,e,f]++ [g]=st++ [a,b,c,d,e,f,g]:=by simp
theorem az8(a b c d e f g h:Obj):st++ [a,b,c,d,e,f,g]++ [h]=st++ [a,b,c,d,e,f,g,h]:=by simp
theorem az9(a b c d e f g h i:Obj):st++ [a,b,c,d,e,f,g,h]++ [i]=st++ [a,b,c,d,e,f,g,h,i]:=by simp
end
theorem Bwr(x y:List UInt8)(h1:x.length≤500)(h2:y.length≤500):Bo prog .add 9 (.str x) (.str y)=some (.str (x++y)):=by show(if x.length+y.length<2 ^ 40 then some (D.str (x++y))else none)=_;rw[if_pos (by omega)]
section
variable{cf:Ah}{N:Nat}(hK:∀f,Ba (cf f))
include hK
set_option maxHeartbeats 32000000 in
theorem B9w(h5:Ao cf 5 [] (.bool true))(h6:∀t:List UInt8,Ao cf 6 [.str t,.int .i64 20] (.str (t.take 20)))(h7:∀t:List UInt8,Ao cf 7 [.str t] (.bool (nmP t)))(h8:∀t:List UInt8,Ao cf 8 [.str t] (Aaw (Qx nmP gnP t)))
  (h10:Ao cf 10 [.sl [] .none] (.eptr []))(h11:∀x,Df x≤10→goV Bp5 VE x [] none→Ao cf 11 [.eptr [],.agg (Br x)] (.agg (B2v (goQ Bp5 x [] none))))
  (h12:∀x,Df x≤10→goV Bng VF x [] none→Ao cf 12 [.agg (Br x)] (.sl (frD (goQ Bng x [] none)) .none))(h13:∀b:Bool,Ao cf 13 [.bool b] (.int .i64 (if b then 1 else 0)))(v w:List UInt8):Ao (run C1 cf N) 4 [.str v,.str w] (.bool true):=fun st=>by
 have hP:C1.P=prog:=rfl;have hc5:∀st,G6 C1 cf 5 [] [] [] st=some (.bool true,st,[]):=fun st=>Amz (by kernel_rfl) rfl rfl (h5 st)
 have hs1:∀st,G6 C1 cf 6 [] [] [.str v,.int .i64 20] st=some (.str (v.take 20),st,[]):=fun st=>Amz (by kernel_rfl) rfl rfl (h6 v st)
 have hs2:∀st,G6 C1 cf 6 [] [] [.str w,.int .i64 20] st=some (.str (w.take 20),st,[]):=fun st=>Amz (by kernel_rfl) rfl rfl (h6 w st)
 have lv:(v.take 20).length≤20:=by rw[List.length_take];omega
 have lw:(w.take 20).length≤20:=by rw[List.length_take];omega
 have hg:∀st,G6 C1 cf 10 [] [] [.nilsl] st=some (.eptr [],st,[]):=fun st=>Amz (by kernel_rfl) rfl rfl (h10 st)
 have hb2i:∀b st,G6 C1 cf 13 [] [] [.bool b] st=some (.int .i64 (if b then 1 else 0),st,[]):=fun b st=>Amz (by kernel_rfl) rfl rfl (h13 b st)
 refine Bbg hK func4 (bdy (by kernel_rfl)) ?_
 rw[show C1.hnd.contains 4=false from rfl];generalize he:(([.str v,.str w]:List D)++List.replicate (f4.ntmps - ([.str v,.str w]:List D).length) .undef)=e;have hl:e.length=144:=by rw[← he];rfl
 have e0:e.getD 0 .undef= .str v:=by rw[← he];rfl
 have e1:e.getD 1 .undef= .str w:=by rw[← he];rfl
 clear he;generalize v.take 20=a at hs1 lv;generalize w.take 20=b at hs2 lw;have n1:∀st,G6 C1 cf 7 [] [] [.str a] st=some (.bool (nmP a),st,[]):=fun st=>Amz (by kernel_rfl) rfl rfl (h7 a st)
 have n2:∀st,G6 C1 cf 7 [] [] [.str b] st=some (.bool (nmP b),st,[]):=fun st=>Amz (by kernel_rfl) rfl rfl (h7 b st)
 refine Bj8 ?_;obtain⟨code,hcode⟩:∃code,code=strip (bd f4):=⟨_,rfl⟩;rw[← hcode];simp only[bd,f4,strip,Dl,List.map_toArray,MC]at hcode;subst hcode;by_cases hn:nmP a=true∧nmP b=true
 ·obtain⟨ha,hb⟩:=hn;rw[ha]at n1;rw[hb]at n2;obtain⟨⟨p0,p1,hpa⟩,⟨q0,q1,hpb⟩,r0,r1,r2,r3,r4,hpc⟩:=B59 (may:=nmP) (gn:=gnP) (fun t ht=>Bzt ht) B0c ha hb lv lw;obtain⟨xa,hxa⟩:∃x:Qy,x= .lt p0 a (.whole p1) (.var (a.length+16) b):=⟨_,rfl⟩;obtain⟨xb,hxb⟩:∃x:Qy,x= .lt q0 a (.var (a.length+7) a) (.whole q1):=⟨_,rfl⟩;obtain⟨xc,hxc⟩:∃x:Qy,x= .bin 3 r0 (.lt r1 a (.whole r2) (.var r3 a)) (.var r4 b):=⟨_,rfl⟩;rw[← hxa]at hpa;rw[← hxb]at hpb;rw[← hxc]at hpc;have ca:∀st,G6 C1 cf 8 [] [] [.str ([108,101,116,32]++a++ [32,61,32,97,108,108,40,41,32,105,110,32,36]++b)] st=some (.tup [.agg (Br xa),.agg [.int .i64 0,.int .i64 0]],st,[]):=fun st=>by
   have h:=h8 (Bkd++a++Byf++b) st;rw[hpa]at h;exact Amz (by kernel_rfl) rfl rfl h
  have cb:∀st,G6 C1 cf 8 [] [] [.str ([108,101,116,32]++a++ [32,61,32,36]++a++ [32,105,110,32,97,108,108,40,41])] st=some (.tup [.agg (Br xb),.agg [.int .i64 0,.int .i64 0]],st,[]):=fun st=>by have h:=h8 (Bkd++a++B4r++a++B3w) st;rw[hpb]at h;exact Amz (by kernel_rfl) rfl rfl h
  have cc:∀st,G6 C1 cf 8 [] [] [.str ([40,108,101,116,32]++a++ [32,61,32,97,108,108,40,41,32,105,110,32,36]++a++ [41,32,43,32,36]++b)] st=some (.tup [.agg (Br xc),.agg [.int .i64 0,.int .i64 0]],st,[]):=fun st=>by have h:=h8 (40::Bkd++a++Byf++a++ [41,32,43,32,36]++b) st;rw[hpc]at h;exact Amz (by kernel_rfl) rfl rfl h
  have a1:=Bwr [108,101,116,32] a (by decide) (by omega)
  have a2:=Bwr ([108,101,116,32]++a) [32,61,32,97,108,108,40,41,32,105,110,32,36] (by simp only[List.length_append,List.length_cons,List.length_nil];omega) (by decide)
  have a3:=Bwr ([108,101,116,32]++a++ [32,61,32,97,108,108,40,41,32,105,110,32,36]) b (by simp only[List.length_append,List.length_cons,List.length_nil];omega) (by omega)
  have b2:=Bwr ([108,101,116,32]++a) [32,61,32,36] (by simp only[List.length_append,List.length_cons,List.length_nil];omega) (by decide)
  have b3:=Bwr ([108,101,116,32]++a++ [32,61,32,36]) a (by simp only[List.length_append,List.length_cons,List.length_nil];omega) (by omega)
  have b4:=Bwr ([108,101,116,32]++a++ [32,61,32,36]++a) [32,105,110,32,97,108,108,40,41] (by simp only[List.length_append,List.length_cons,List.length_nil];omega) (by decide)
  have c1:=Bwr [40,108,101,116,32] a (by decide) (by omega)
  have c2:=Bwr ([40,108,101,116,32]++a) [32,61,32,97,108,108,40,41,32,105,110,32,36] (by simp only[List.length_append,List.length_cons,List.length_nil];omega) (by decide)
  have c3:=Bwr ([40,108,101,116,32]++a++ [32,61,32,97,108,108,40,41,32,105,110,32,36]) a (by simp only[List.length_append,List.length_cons,List.length_nil];omega) (by omega)
  have c4:=Bwr ([40,108,101,116,32]++a++ [32,61,32,97,108,108,40,41,32,105,110,32,36]++a) [41,32,43,32,36] (by simp only[List.length_append,List.length_cons,List.length_nil];omega) (by decide)
  have c5:=Bwr ([40,108,101,116,32]++a++ [32,61,32,97,108,108,40,41,32,105,110,32,36]++a++ [41,32,43,32,36]) b (by simp only[List.length_append,List.length_cons,List.length_nil];omega) (by omega)
  have d2:=Bwr ([108,101,116,32]++a) [32,61,32,97,108,108,40,41,32,105,110,32] (by simp only[List.length_append,List.length_cons,List.length_nil];omega) (by decide)
  have g2:=Bwr ([108,101,116,32]++a) [32,61,32] (by simp only[List.length_append,List.length_cons,List.length_nil];omega) (by decide)
  have m1:∀st,Ny prog 9 (.str ([108,101,116,32]++a++ [32,61,32,97,108,108,40,41,32,105,110,32])) st=some (.int .i64 ((a.length+16:Nat):Int),.pure):=fun st=>by rw[Boa];rw[show([108,101,116,32]++a++ [32,61,32,97,108,108,40,41,32,105,110,32]:List UInt8).length=a.length+16 from by simp only[List.length_append,List.length_cons,List.length_nil];omega]
  have m2:∀st,Ny prog 9 (.str ([108,101,116,32]++a++ [32,61,32])) st=some (.int .i64 ((a.length+7:Nat):Int),.pure):=fun st=>by rw[Boa];rw[show([108,101,116,32]++a++ [32,61,32]:List UInt8).length=a.length+7 from by simp only[List.length_append,List.length_cons,List.length_nil];omega]
  have hV1:∀id∈ [st.length],st.length≤id:=by simp
  have hV2:∀id∈ [st.length+1],st.length≤id:=by simp
  have hV3:∀id∈ [st.length+2],st.length≤id:=by simp
  have hV4:∀id∈ [st.length+3],st.length≤id:=by simp
  have hV5:∀id∈ [st.length+4],st.length≤id:=by simp
  have hV6:∀id∈ [st.length+5],st.length≤id:=by simp
  have hV7:∀id∈ [st.length+6],st.length≤id:=by simp
  have hV8:∀id∈ [st.length+7],st.length≤id:=by simp
  have hV9:∀id∈ [st.length+8],st.length≤id:=by simp
  have v1:∀o,I4 prog 30 (.ptr st.length 0) (.agg (Br xa)) (st++ [.cells [.int .i64 0,.int .i64 0,.bool false,.str [],.str [],.int .i64 0,.nilsl],o])=some (.undef,st++ [.cells (Br xa),o],[st.length]):=fun o=>B5x 0 [_,_] rfl rfl (Su _) (Kq _);have v2:∀o,I4 prog 33 (.ptr (st.length+1) 0) (.agg [.int .i64 0,.int .i64 0]) (st++ [o,.cells [.int .i64 0,.int .i64 0]])=some (.undef,st++ [o,.cells [.int .i64 0,.int .i64 0]],[st.length+1]):=fun o=>B2n 1 [_,_] rfl 0 0;have v3:∀o p q,I4 prog 30 (.ptr (st.length+2) 0) (.agg (Br xb)) (st++ [o,p,.cells [.int .i64 0,.int .i64 0,.bool false,.str [],.str [],.int .i64 0,.nilsl],q])=some (.undef,st++ [o,p,.cells (Br xb),q],[st.length+2]):=fun o p q=>B5x 2 [_,_,_,_] rfl rfl (Su _) (Kq _);have v4:∀o p q,I4 prog 33 (.ptr (st.length+3) 0) (.agg [.int .i64 0,.int .i64 0]) (st++ [o,p,q,.cells [.int .i64 0,.int .i64 0]])=some (.undef,st++ [o,p,q,.cells [.int .i64 0,.int .i64 0]],[st.length+3]):=fun o p q=>B2n 3 [_,_,_,_] rfl 0 0;have v5:∀o p q r s,I4 prog 30 (.ptr (st.length+4) 0) (.agg (Br xc)) (st++ [o,p,q,r,.cells [.int .i64 0,.int .i64 0,.bool false,.str [],.str [],.int .i64 0,.nilsl],s])=some (.undef,st++ [o,p,q,r,.cells (Br xc),s],[st.length+4]):=fun o p q r s=>B5x 4 [_,_,_,_,_,_] rfl rfl (Su _) (Kq _);have v6:∀o p q r s,I4 prog 33 (.ptr (st.length+5) 0) (.agg [.int .i64 0,.int .i64 0]) (st++ [o,p,q,r,s,.cells [.int .i64 0,.int .i64 0]])=some (.undef,st++ [o,p,q,r,s,.cells [.int .i64 0,.int .i64 0]],[st.length+5]):=fun o p q r s=>B2n 5 [_,_,_,_,_,_] rfl 0 0;have v7:∀(c d:Int) o p q r s t,I4 prog 33 (.ptr (st.length+6) 0) (.agg [.int .i64 c,.int .i64 d]) (st++ [o,p,q,r,s,t,.cells [.int .i64 0,.int .i64 0]])=some (.undef,st++ [o,p,q,r,s,t,.cells [.int .i64 c,.int .i64 d]],[st.length+6]):=fun c d o p q r s t=>B2n 6 [_,_,_,_,_,_,_] rfl c d;have v8:∀(c d:Int) o p q r s t u,I4 prog 33 (.ptr (st.length+7) 0) (.agg [.int .i64 c,.int .i64 d]) (st++ [o,p,q,r,s,t,u,.cells [.int .i64 0,.int .i64 0]])=some (.undef,st++ [o,p,q,r,s,t,u,.cells [.int .i64 c,.int .i64 d]],[st.length+7]):=fun c d o p q r s t u=>B2n 7 [_,_,_,_,_,_,_,_] rfl c d;have v9:∀(c d:Int) o p q r s t u y,I4 prog 33 (.ptr (st.length+8) 0) (.agg [.int .i64 c,.int .i64 d]) (st++ [o,p,q,r,s,t,u,y,.cells [.int .i64 0,.int .i64 0]])=some (.undef,st++ [o,p,q,r,s,t,u,y,.cells [.int .i64 c,.int .i64 d]],[st.length+8]):=fun c d o p q r s t u y=>B2n 8 [_,_,_,_,_,_,_,_,_] rfl c d;have w1:∀os,Fp prog 30 (.ptr st.length 0) (st++ .cells (Br xa)::os)=some (.agg (Br xa),.rd [st.length]):=fun os=>Bxp (atk st _ 0);have w2:∀o p os,Fp prog 30 (.ptr (st.length+2) 0) (st++o::p:: .cells (Br xb)::os)=some (.agg (Br xb),.rd [st.length+2]):=fun o p os=>Bxp (atk st _ 2);have w3:∀o p q r os,Fp prog 30 (.ptr (st.length+4) 0) (st++o::p::q::r:: .cells (Br xc)::os)=some (.agg (Br xc),.rd [st.length+4]):=fun o p q r os=>Bxp (atk st _ 4);have w4:∀(c d:Int) o os,Fp prog 31 (.ptr (st.length+1) 0) (st++o:: .cells [.int .i64 c,.int .i64 d]::os)=some (.int .i64 c,.rd [st.length+1]):=fun c d o os=>B2l (atk st _ 1);have w5:∀(c d:Int) o p q os,Fp prog 31 (.ptr (st.length+3) 0) (st++o::p::q:: .cells [.int .i64 c,.int .i64 d]::os)=some (.int .i64 c,.rd [st.length+3]):=fun c d o p q os=>B2l (atk st _ 3);have w6:∀(c d:Int) o p q r s os,Fp prog 31 (.ptr (st.length+5) 0) (st++o::p::q::r::s:: .cells [.int .i64 c,.int .i64 d]::os)=some (.int .i64 c,.rd [st.length+5]):=fun c d o p q r s os=>B2l (atk st _ 5);have w7:∀(c d:Int) o p q r s t os,Fp prog 33 (.ptr (st.length+6) 0) (st++o::p::q::r::s::t:: .cells [.int .i64 c,.int .i64 d]::os)=some (.agg [.int .i64 c,.int .i64 d],.rd [st.length+6]):=fun c d o p q r s t os=>B4i (atk st _ 6);have w8:∀(c d:Int) o p q r s t u os,Fp prog 33 (.ptr (st.length+7) 0) (st++o::p::q::r::s::t::u:: .cells [.int .i64 c,.int .i64 d]::os)=some (.agg [.int .i64 c,.int .i64 d],.rd [st.length+7]):=fun c d o p q r s t u os=>B4i (atk st _ 7);have w9:∀(c d:Int) o p q r s t u y os,Fp prog 31 (.ptr (st.length+8) 0) (st++o::p::q::r::s::t::u::y:: .cells [.int .i64 c,.int .i64 d]::os)=some (.int .i64 c,.rd [st.length+8]):=fun c d o p q r s t u y os=>B2l (atk st _ 8);have z0:Bo prog .neq 31 (.int .i64 0) (.int .i64 0)=some (.bool false):=rfl;have z5:Bo prog .eql 31 (.int .i64 5) (.int .i64 5)=some (.bool true):=rfl;have y0:Bo prog .eql 3 (.int .i64 0) (.int .i64 0)=some (.bool true):=rfl;have y1:Bo prog .eql 3 (.int .i64 1) (.int .i64 1)=some (.bool true):=rfl;have s1:=sEq a b;have s2:=sNe a b;have yq:∀n:Nat,Bo prog .eql 33 (.agg [.int .i64 5,.int .i64 (n:Int)]) (.agg [.int .i64 5,.int .i64 (n:Int)])=some (.bool true):=fun n=>by rw[q33];simp
  have ub:=h11 xb (by rw[hxb];simp[Df]) (by rw[hxb];simp[goV,VE,B3f])
  have uc:=h11 xc (by rw[hxc];simp[Df]) (by rw[hxc];simp[goV,VE,B3f])
  have ua:=h11 xa (by rw[hxa];simp[Df]) (by rw[hxa];simp[goV,VE,B3f])
  have fa:=h12 xa (by rw[hxa];simp[Df]) (by rw[hxa];simp[goV,VF,B4g,goQ,Bng,Bpb])
  have fb:=h12 xb (by rw[hxb];simp[Df]) (by rw[hxb];simp[goV,VF,B4g,goQ,Bng,Bpb])
  have fc:=h12 xc (by rw[hxc];simp[Df]) (by rw[hxc];simp[goV,VF,B4g,goQ,Bng,Bpb])
  rw[show goQ Bp5 xb [] none=some (a.length+7)from by rw[hxb];simp[goQ,Bp5,B5l]]at ub
  rw[show goQ Bng xb [] none=some a from by rw[hxb];simp[goQ,Bng]]at fb
  obtain⟨zc,huc⟩:∃n,goQ Bp5 xc [] none=some n:=by rw[hxc];simp[goQ,Bp5,B5l]
  rw[huc]at uc;rw[show goQ Bng xc [] none=some b from by rw[hxc];simp[goQ,Bng]]at fc
  have frA:∀(x:Qy) st,Cw st [.eptr [],.agg (Br x)]=some ([.eptr [],.agg (Br x)],st):=fun x st=>Ag6 rfl (Ag6 (Ait (Md x)) Ale);have frB:∀(x:Qy) st,Cw st [.agg (Br x)]=some ([.agg (Br x)],st):=fun x st=>Ag6 (Ait (Md x)) Ale;have kb:∀st,G6 C1 cf 11 [] [] [.eptr [],.agg (Br xb)] st=some (.agg [.int .i64 5,.int .i64 ((a.length+7:Nat):Int)],st,[]):=fun st=>Amz (by kernel_rfl) rfl (frA xb st) (ub st)
  have kc:∀st,G6 C1 cf 11 [] [] [.eptr [],.agg (Br xc)] st=some (.agg [.int .i64 5,.int .i64 (zc:Int)],st,[]):=fun st=>Amz (by kernel_rfl) rfl (frA xc st) (uc st)
  have gb:∀st,G6 C1 cf 12 [] [] [.agg (Br xb)] st=some (.sl [[.str a]] .none,st,[]):=fun st=>Amz (by kernel_rfl) rfl (frB xb st) (fb st)
  have gc:∀st,G6 C1 cf 12 [] [] [.agg (Br xc)] st=some (.sl [[.str b]] .none,st,[]):=fun st=>Amz (by kernel_rfl) rfl (frB xc st) (fc st)
  by_cases hab:a=b
  ·subst hab;rw[show goQ Bp5 xa [] none=none from by rw[hxa];simp[goQ,Bp5]]at ua
   rw[show goQ Bng xa [] none=none from by rw[hxa];simp[goQ,Bng]]at fa
   have ka:∀st,G6 C1 cf 11 [] [] [.eptr [],.agg (Br xa)] st=some (.agg [.int .i64 0,.int .i64 0],st,[]):=fun st=>Amz (by kernel_rfl) rfl (frA xa st) (ua st)
   have ga:∀st,G6 C1 cf 12 [] [] [.agg (Br xa)] st=some (.sl [] .none,st,[]):=fun st=>Amz (by kernel_rfl) rfl (frB xa st) (fa st)
   rw[beq_self_eq_true]at s1 s2;have x0:Bo prog .eql 33 (.agg [.int .i64 0,.int .i64 0]) (.agg [.int .i64 0,.int .i64 0])=some (.bool true):=by rw[q33];rfl
   have x1:Bo prog .eql 4 (.bool true) (.bool true)=some (.bool true):=by kernel_rfl
   have bi:∀st,G6 C1 cf 13 [] [] [.bool (!true)] st=some (.int .i64 0,st,[]):=hb2i false;have bi':∀st,G6 C1 cf 13 [] [] [.bool false] st=some (.int .i64 0,st,[]):=hb2i false
   repeat (first
    |refine A00 ?_|refine Asu ?_|refine Bkx ?_|refine Awr ?_|refine Avq ?_|refine Ay7 ?_|refine Bq (by decide) ?_|refine Eg rfl rfl ?_|refine Zc (by first|exact hV1|exact hV2|exact hV3|exact hV4|exact hV5|exact hV6|exact hV7|exact hV8|exact hV9|(simp;done)) ?_
    |((first|refine Ei rfl rfl rfl rfl ?_|refine Ee rfl rfl ?_|refine Ed rfl rfl ?_|refine Bni ?_);refine⟨_,by simp only[Bj,BB,Af,ev,Am,Ak,Ag,Gc,Ai,↓reduceIte,Nat.reduceEqDiff,Nat.reduceLT,Aj,hP,hl,e0,e1,hc5,hs1,hs2,n1,n2,hg,ca,cb,cc,a1,a2,a3,b2,b3,b4,c1,c2,c3,c4,c5,d2,g2,m1,m2,Bnh,Bns,ln1,ln2,ln3,lz4,lz5,lz6,lz7,lz8,ap2,ap3,ap4,az5,az6,az7,az8,az9,v1,v2,v3,v4,v5,v6,v7,v8,v9,w1,w2,w3,w4,w5,w6,w7,w8,w9,B2w,B3a,B52,B5r,z0,z5,y0,y1,s1,s2,yq,ka,kb,kc,ga,gb,gc,x0,x1,bi,bi',B98,B9n];first|done|rfl,?_⟩)
    |dsimp only)
   refine⟨.inr rfl,[.bool true],[.bool true],_,?_,rfl,rfl,fun _ _=>rfl,.inl rfl⟩;show Gm C1.P _ _ [.tmp 4]=_;simp only[Gm,BB,Am,hl,Nat.reduceEqDiff,↓reduceIte,Nat.reduceLT]
  ·have hab2:(a == b)=false:=by simpa using hab
   have hba:¬ b=a:=fun h=>hab h.symm;rw[show goQ Bp5 xa [] none=some (a.length+16)from by rw[hxa];simp[goQ,Bp5,B5l,hba]]at ua
   rw[show goQ Bng xa [] none=some b from by rw[hxa];simp[goQ,Bng,hba]]at fa
   have ka:∀st,G6 C1 cf 11 [] [] [.eptr [],.agg (Br xa)] st=some (.agg [.int .i64 5,.int .i64 ((a.length+16:Nat):Int)],st,[]):=fun st=>Amz (by kernel_rfl) rfl (frA xa st) (ua st)
   have ga:∀st,G6 C1 cf 12 [] [] [.agg (Br xa)] st=some (.sl [[.str b]] .none,st,[]):=fun st=>Amz (by kernel_rfl) rfl (frB xa st) (fa st)
   rw[hab2]at s1 s2;have x0:Bo prog .eql 33 (.agg [.int .i64 5,.int .i64 ((a.length+16:Nat):Int)]) (.agg [.int .i64 0,.int .i64 0])=some (.bool false):=by rw[q33];rfl
   have x1:Bo prog .eql 4 (.bool false) (.bool false)=some (.bool true):=by kernel_rfl
   have bi:∀st,G6 C1 cf 13 [] [] [.bool (!false)] st=some (.int .i64 1,st,[]):=hb2i true;have bi':∀st,G6 C1 cf 13 [] [] [.bool true] st=some (.int .i64 1,st,[]):=hb2i true
   repeat (first
    |refine A00 ?_|refine Asu ?_|refine Bkx ?_|refine Awr ?_|refine Avq ?_|refine Ay7 ?_|refine Bq (by decide) ?_|refine Eg rfl rfl ?_|refine Zc (by first|exact hV1|exact hV2|exact hV3|exact hV4|exact hV5|exact hV6|exact hV7|exact hV8|exact hV9|(simp;done)) ?_
    |((first|refine Ei rfl rfl rfl rfl ?_|refine Ee rfl rfl ?_|refine Ed rfl rfl ?_|refine Bni ?_);refine⟨_,by simp only[Bj,BB,Af,ev,Am,Ak,Ag,Gc,Ai,↓reduceIte,Nat.reduceEqDiff,Nat.reduceLT,Aj,hP,hl,e0,e1,hc5,hs1,hs2,n1,n2,hg,ca,cb,cc,a1,a2,a3,b2,b3,b4,c1,c2,c3,c4,c5,d2,g2,m1,m2,Bnh,Bns,ln1,ln2,ln3,lz4,lz5,lz6,lz7,lz8,ap2,ap3,ap4,az5,az6,az7,az8,az9,v1,v2,v3,v4,v5,v6,v7,v8,v9,w1,w2,w3,w4,w5,w6,w7,w8,w9,B2w,B3a,B52,B5r,z0,z5,y0,y1,s1,s2,yq,ka,kb,kc,ga,gb,gc,x0,x1,bi,bi',B98,B9n];first|done|rfl,?_⟩)
    |dsimp only)
   refine⟨.inr rfl,[.bool true],[.bool true],_,?_,rfl,rfl,fun _ _=>rfl,.inl rfl⟩;show Gm C1.P _ _ [.tmp 4]=_;simp only[Gm,BB,Am,hl,Nat.reduceEqDiff,↓reduceIte,Nat.reduceLT]
 ·generalize nmP a=na at n1 hn;generalize nmP b=nb at n2 hn;cases na<;>cases nb<;>first|(exact absurd ⟨rfl,rfl⟩ hn)|skip
  all_goals
   repeat (first
    |refine A00 ?_|refine Asu ?_|refine Bkx ?_|refine Awr ?_|refine Avq ?_|refine Ay7 ?_|refine Bq (by decide) ?_|refine Eg rfl rfl ?_|refine Zc (by first|(simp;done)) ?_
    |((first|refine Ei rfl rfl rfl rfl ?_|refine Ee rfl rfl ?_|refine Ed rfl rfl ?_|refine Bni ?_);refine⟨_,by simp only[Bj,BB,Af,ev,Am,Ak,Ag,Gc,Ai,↓reduceIte,Nat.reduceEqDiff,Nat.reduceLT,Aj,hP,hl,e0,e1,hc5,hs1,hs2,n1,n2];first|done|rfl,?_⟩)
    |dsimp only)
   refine⟨.inr rfl,[.bool true],[.bool true],_,?_,rfl,rfl,fun _ _=>rfl,.inl rfl⟩;show Gm C1.P _ _ [.tmp 4]=_;simp only[Gm,BB,Am,hl,Nat.reduceEqDiff,↓reduceIte,Nat.reduceLT]
end
theorem B4f(hK:∀n f,Ba (CF n f))(v w:List UInt8):Ao (CF 4009) 4 [.str v,.str w] (.bool true):=
 pS rfl (B9w (hK _) (Bdq _) (fun t=>pS rfl (A8a (hK _) t 20)) (fun t=>Bia hK 4005 t) (A8v hK) (Ark (g:=Im Bta) rfl (fun cf st=>rfl)) (fun x hd hx=>B8f hK 3993 x hd hx) (fun x hd hx=>B6q hK 3993 x hd hx) (fun b=>B6t hK 4007 b) v w)
theorem Caw{g:G}(s t:ByteArray):F8 g [.str s.data.toList,.str t.data.toList] #[.string s,.string t]:=⟨rfl,fun j d v h h'=>by
 match j with
 |0=>cases h;cases h';exact VR.str s
 |1=>cases h;cases h';exact VR.str t
 |j+2=>cases h⟩
theorem B7f{W:World}(hL:A6p W)(s t:ByteArray):Calls prog 4 #[.string s,.string t] W fun e W'=>e= .returned (.bool true)∧Aps W W':=by refine(At2 hL (fun hK=>B4f hK s.data.toList t.data.toList) (Caw s t)).mono ?_;rintro e W' ⟨r,g',rfl,hv,hk⟩;cases hv;exact⟨rfl,hk⟩
end Go.Vam
