/- P. -/
import Derived.Test.YtiobopjhbneieaaGreatDoorVda
set_option linter.unusedSimpArgs false
set_option linter.unusedVariables false
noncomputable section
set_option maxRecDepth 1000000
namespace Go.Vam
open Go.Proofs Go.Proofs.Tryz
def Bdd:Nat→Nat:=fun _=>0
def Biy(s:List UInt8):Option (List Wd):=match Y8 s with
 | .ok ws=>some (ws.map (shW Bdd))
 | .error _=>none
theorem Bq5{s:List UInt8}{w:Wd}{e:Nat}(h0:Db false s=0)(hs:0<s.length)(hw:Fq s 0=some (w,e)):Y8 s=match shL (· +e) (Y8 (s.drop e))with
  | .ok l=> .ok (w::l)
  | .error j=> .error j:=by
 obtain⟨h1,h2⟩:=Mq hs hw;unfold Y8;rw[h0,M6,if_pos hs,hw];simp only;have hl:(s.take e).length=e:=by rw[List.length_take];omega
 have h4:=Bny (s.take e) (s.drop e) s.length (Db false (s.drop e));rw[List.take_append_drop,hl]at h4;have h5:=O7 false (s.drop e);rw[Nat.add_comm e,h4,Bpd (s.drop e) s.length ((s.drop e).length+1) _ (by rw[List.length_drop];omega) (by omega)]
 generalize shL (fun x=>x+e) (M6 ((s.drop e).length+1) (s.drop e) (Db false (s.drop e)))=o;cases o<;>rfl
theorem Bmd{s:List UInt8}{w:Wd}{e:Nat}(h0:Db false s=0)(hs:0<s.length)(hw:Fq s 0=some (w,e)):Biy s=(Biy (s.drop e)).map (shW Bdd w:: ·):=by
 unfold Biy;rw[Bq5 h0 hs hw];cases Y8 (s.drop e)with
 |error j=>rfl
 |ok l=>simp only[shL,List.map_cons,List.map_map,Option.map_some];rfl
theorem Brp(r:List UInt8):Biy (32::r)=Biy r:=by
 have h:Y8 (32::r)=shL (· +1) (Y8 r):=by
  have h:=Bny [32] r (r.length+2) (Db false r);unfold Y8;show M6 (r.length+1+1) ([32]++r) (1+Db false r)=_;rw[Nat.add_comm 1];refine h.trans ?_;rw[Bpd r (r.length+2) (r.length+1) _ (by omega) (by omega)]
  rfl
 unfold Biy;rw[h];cases Y8 r with
 |error j=>rfl
 |ok l=>simp only[shL,List.map_map];rfl
def nW(t:List UInt8):Wd:=⟨1,0,t⟩
def pW(c:UInt8):Wd:=⟨3,0,[c]⟩
def tW(t:List UInt8):Wd:=⟨2,0,t⟩
def Bra(t:List UInt8):Prop:=∀b∈t,De b=true
theorem Bp8:∀{w r:List UInt8},Bra w→D7 r=0→D7 (w++r)=w.length
 | [],_,_,h=>h
 |b::w,r,h,h2=>by
  show D7 (b::(w++r))=_;rw[D7,if_pos (h b (by simp)),Bp8 (fun c hc=>h c (by simp[hc])) h2,List.length_cons]
  omega
theorem Bp2{b:UInt8}(h:De b=true)(r:List UInt8):Db false (b::r)=0:=by
 have h1:Iw b=false:=by unfold Iw;rw[Bool.eq_false_iff];intro hb;simp only[Bool.or_eq_true,beq_iff_eq]at hb;rcases hb with((hb|hb)|hb)|hb<;>subst hb<;>exact absurd h (by decide)
 have h2:(b == 35)=false:=by rw[beq_eq_false_iff_ne];intro hb;subst hb;exact absurd h (by decide)
 unfold Db;rw[h1,h2];rfl
theorem Bqq{w r:List UInt8}(hne:w≠ [])(hw:Bra w)(hr:D7 r=0):Biy (w++r)=(Biy r).map (nW w:: ·):=by
 have hl:=Bp8 hw hr;have hp:0<w.length:=List.length_pos_iff.2 hne;have h1:Fq (w++r) 0=some (⟨1,0,w⟩,w.length):=by
  unfold Fq;rw[List.drop_zero,hl,if_pos (by omega)]
  simp
 rw[Bmd (w:=⟨1,0,w⟩) (e:=w.length) (by
  cases w with
  |nil=>exact absurd rfl hne
  |cons b w=>exact Bp2 (hw b (by simp)) _) (by rw[List.length_append];omega) h1]
 simp only[List.drop_left];rfl
theorem Bqo{c:UInt8}(r:List UInt8)(h1:De c=false)(h2:(c == 34)=false)(h3:O5.contains c=true)(h4:Iw c=false)(h5:(c == 35)=false):Biy (c::r)=(Biy r).map (pW c:: ·):=by
 have hw:Fq (c::r) 0=some (⟨3,0,[c]⟩,1):=by
  unfold Fq;rw[List.drop_zero];have:D7 (c::r)=0:=by unfold D7;rw[h1];rfl
  rw[this,if_neg (by decide)]
  show(if(c == 34)=true then _ else if O5.contains c=true then some ((⟨3,0,[c]⟩:Wd),0+1)else none)=_;rw[h2,h3];rfl
 exact Bmd (w:=⟨3,0,[c]⟩) (e:=1) (by unfold Db;rw[h4,h5];rfl) (by simp) hw
def hxB(n:Nat):UInt8:=Ic.getD n 0
def qB(c:UInt8):List UInt8:=if c == 34 || c == 92 then[92,c]else if c == 10 then[92,110]else if c == 9 then[92,116]else if decide ((c.toNat:Int)<32) || decide (126<(c.toNat:Int))then[92,120,hxB (c.toNat / 16),hxB (c.toNat % 16)]else[c]
def qsP:List UInt8→List UInt8
 | []=> []
 |c::t=>qB c++qsP t
def Bl9(t:List UInt8):List UInt8:=34::(qsP t++ [34])
def Bs8(n:Nat):Bool:=Ic.contains (hxB (n / 16)) && Ic.contains (hxB (n % 16)) && (UInt8.ofNat (16*Ih (hxB (n / 16))+Ih (hxB (n % 16))) == UInt8.ofNat n)
theorem Btg:(List.range 256).all Bs8=true:=by kernel_rfl
theorem Bty(c:UInt8):Ic.contains (hxB (c.toNat / 16))=true∧Ic.contains (hxB (c.toNat % 16))=true∧UInt8.ofNat (16*Ih (hxB (c.toNat / 16))+Ih (hxB (c.toNat % 16)))=c:=by have h:=List.all_eq_true.1 Btg c.toNat (List.mem_range.2 c.toNat_lt);unfold Bs8 at h;simp only[Bool.and_eq_true,beq_iff_eq]at h;exact⟨h.1.1,h.1.2,h.2.trans UInt8.ofNat_toNat⟩
theorem so2{t:List UInt8}{a b:Nat}(h:a=b):some (t,a)=some (t,b):=by rw[h]
theorem Bkc:∀(t:List UInt8) (n:Nat) (r:List UInt8),(qsP t).length<n→Dv n (qsP t++34::r)=some (t,(qsP t).length+1)
 |_,0,_,h=>by omega
 | [],n+1,r,_=>rfl
 |c::t,n+1,r,h=>by
  have e:qsP (c::t)=qB c++qsP t:=rfl;rw[e]at h ⊢;rw[List.length_append]at h;rw[List.append_assoc,List.length_append];unfold qB at h ⊢;split
  ·rename_i hc;rw[if_pos hc]at h;simp only[List.length_cons,List.length_nil]at h;have hi:=Bkc t n r (by omega)
   simp only[Bool.or_eq_true,beq_iff_eq]at hc;rcases hc with hc|hc<;>subst hc<;>
   ·show((Dv n (qsP t++34::r)).map fun p=>(_::p.1,1+1+p.2))=_;rw[hi];simp only[Option.map_some];exact so2 (by simp only[List.length_cons,List.length_nil];omega)
  split
  ·rename_i hn hc;rw[if_neg hn,if_pos hc]at h;simp only[List.length_cons,List.length_nil]at h;have hi:=Bkc t n r (by omega)
   rw[beq_iff_eq]at hc;subst hc;show((Dv n (qsP t++34::r)).map fun p=>(_::p.1,1+1+p.2))=_;rw[hi];simp only[Option.map_some];exact so2 (by simp only[List.length_cons,List.length_nil];omega)
  split
  ·rename_i hn hm hc;rw[if_neg hn,if_neg hm,if_pos hc]at h;simp only[List.length_cons,List.length_nil]at h;have hi:=Bkc t n r (by omega)
   rw[beq_iff_eq]at hc;subst hc;show((Dv n (qsP t++34::r)).map fun p=>(_::p.1,1+1+p.2))=_;rw[hi];simp only[Option.map_some];exact so2 (by simp only[List.length_cons,List.length_nil];omega)
  split
  ·rename_i hn hm hl hc;rw[if_neg hn,if_neg hm,if_neg hl,if_pos hc]at h;simp only[List.length_cons,List.length_nil]at h;have hi:=Bkc t n r (by omega)
   obtain⟨h1,h2,h3⟩:=Bty c;have he:Ht (120::hxB (c.toNat / 16)::hxB (c.toNat % 16)::(qsP t++34::r))=some (c,3):=by show(if(Ic.contains (hxB (c.toNat / 16)) && Ic.contains (hxB (c.toNat % 16)))=true then some (UInt8.ofNat (16*Ih (hxB (c.toNat / 16))+Ih (hxB (c.toNat % 16))),3)else none)=_;rw[h1,h2,h3];rfl
   show(match Ht (120::hxB (c.toNat / 16)::hxB (c.toNat % 16)::(qsP t++34::r))with
    |none=>none
    |some (d,k)=>(Dv n ((120::hxB (c.toNat / 16)::hxB (c.toNat % 16)::(qsP t++34::r)).drop k)).map fun p:List UInt8 × Nat=>(d::p.1,1+k+p.2))=_
   rw[he];show((Dv n (qsP t++34::r)).map fun p=>(c::p.1,1+3+p.2))=_;rw[hi];simp only[Option.map_some];exact so2 (by simp only[List.length_cons,List.length_nil];omega)
  ·rename_i hn hm hl hc;rw[if_neg hn,if_neg hm,if_neg hl,if_neg hc]at h;simp only[List.length_cons,List.length_nil]at h;have hi:=Bkc t n r (by omega)
   simp only[Bool.or_eq_true,not_or,Bool.not_eq_true]at hn;show(if c == 34 then some ([],1)else if c == 92 then _ else if decide ((c.toNat:Int)<32) || decide (126<(c.toNat:Int))then none else(Dv n (qsP t++34::r)).map fun p=>(c::p.1,1+p.2))=_;rw[hn.1,hn.2,if_neg (by decide),if_neg (by decide),if_neg hc,hi]
   simp only[Option.map_some];exact so2 (by simp only[List.length_cons,List.length_nil];omega)
theorem Bqn(t r:List UInt8):Biy (Bl9 t++r)=(Biy r).map (tW t:: ·):=by
 have e:Bl9 t++r=34::(qsP t++34::r):=by simp[Bl9]
 have hw:Fq (34::(qsP t++34::r)) 0=some (⟨2,0,t⟩,(qsP t).length+2):=by
  unfold Fq;rw[List.drop_zero,if_neg (show ¬ D7 (34::(qsP t++34::r))≠0 from by intro h;exact h rfl)]
  show((Dv ((qsP t++34::r).length+1 - (0+1)+1) (qsP t++34::r)).map fun p=>((⟨2,0,p.1⟩:Wd),0+1+p.2))=_;rw[Bkc t _ r (by rw[List.length_append];omega)]
  simp only[Option.map_some];rw[show 0+1+((qsP t).length+1)=(qsP t).length+2 from by omega]
 rw[e,Bmd (w:=⟨2,0,t⟩) (e:=(qsP t).length+2) rfl (by simp) hw]
 have:(34::(qsP t++34::r)).drop ((qsP t).length+2)=r:=by show(qsP t++34::r).drop ((qsP t).length+1)=r;rw[List.drop_append];simp
 rw[this];rfl
def Asy:Qy→Bool
 | .lt _ _ _ _=>true
 |_=>false
def Bmf(k:Int):Bool:=k == 3 || (k == 4 || k == 5)
def Aud:Qy→Bool
 | .bin k _ _ _=>Bmf k
 |_=>false
def sgB(k:Int):UInt8:=if k=3 then 43 else if k=4 then 94 else 45
def inP(b:Bool)(t:List UInt8):List UInt8:=if b then 40::(t++ [41])else t
def Bqg(r:Bool)(ln:List UInt8):List UInt8:=if r then 58::ln else ln
def Asz:Qy→List UInt8
 | .label _ r ln=>Bqg r ln
 | .var _ nm=>36::nm
 | .bin k _ x y=>if Bmf k then inP (Asy x) (Asz x)++(32::sgB k::32::inP (Asy y || Aud y) (Asz y))else(if k=8 then Afo else Zq)++(40::(Asz x++(44::32::(Asz y++ [41]))))
 | .un k _ nm n x=>if k=6 then Aj1++(40::(Asz x++(if 0≤n then 44::32::(P7 n.toNat++ [41])else[41])))else if k=7 then Abt++(40::(Asz x++ [41]))
  else if k=10 then Ake++(40::(nm++(44::32::(Asz x++ [41]))))else X5++(40::(Bl9 nm++(44::32::(Asz x++ [41]))))
 | .lt _ nm x y=>Ib++(32::(nm++(32::61::32::(Asz x++(32::(Vx++(32::Asz y)))))))
 | .whole _=>A76++ [40,41]
def sgW(k:Int):Wd:=if k=5 then nW [45]else pW (sgB k)
def inW(b:Bool)(t:List Wd):List Wd:=if b then pW 40::(t++ [pW 41])else t
def toks:Qy→List Wd
 | .label _ r ln=>if r then[pW 58,nW ln]else[nW ln]
 | .var _ nm=> [pW 36,nW nm]
 | .bin k _ x y=>if Bmf k then inW (Asy x) (toks x)++(sgW k::inW (Asy y || Aud y) (toks y))else nW (if k=8 then Afo else Zq)::pW 40::(toks x++(pW 44::(toks y++ [pW 41])))
 | .un k _ nm n x=>if k=6 then nW Aj1::pW 40::(toks x++(if 0≤n then[pW 44,nW (P7 n.toNat),pW 41]else[pW 41]))else if k=7 then nW Abt::pW 40::(toks x++ [pW 41])
  else if k=10 then nW Ake::pW 40::nW nm::pW 44::(toks x++ [pW 41])else nW X5::pW 40::tW nm::pW 44::(toks x++ [pW 41])
 | .lt _ nm x y=>nW Ib::nW nm::pW 61::(toks x++(nW Vx::toks y))
 | .whole _=> [nW A76,pW 40,pW 41]
def Bkp(t:List UInt8):Prop:=t≠ []∧Bra t
def Br8:Qy→Prop
 | .label _ _ ln=>Bkp ln
 | .var _ nm=>Bkp nm
 | .bin k _ _ _=>k=3∨k=4∨k=5∨k=8∨k=9
 | .un k _ nm n _=>(k=6∧nm= []∧(n= -1∨(0≤n∧Bkp (P7 n.toNat))))∨(k=7∧nm= []∧n=0)∨(k=10∧n=0∧Bkp nm)∨(k=11∧n=0)
 | .lt _ nm _ _=>Bkp nm
 | .whole _=>True
def Aqf(s r:List UInt8)(ts:List Wd):Prop:=Biy s=(Biy r).map (ts++ ·)
theorem Aqf.nil(r:List UInt8):Aqf r r []:=by unfold Aqf;cases Biy r<;>rfl
theorem Aqf.trans{a b c:List UInt8}{t u:List Wd}(h:Aqf a b t)(h2:Aqf b c u):Aqf a c (t++u):=by unfold Aqf at*;rw[h,h2];cases Biy c<;>simp
theorem Aqf.cons{a b c:List UInt8}{w:Wd}{u:List Wd}(h:Aqf a b [w])(h2:Aqf b c u):Aqf a c (w::u):=h.trans h2
theorem Aqf.sp{a b:List UInt8}{u:List Wd}(h:Aqf a b u):Aqf (32::a) b u:=by unfold Aqf at*;rw[Brp,h]
theorem Aqf.name{w r:List UInt8}(h:Bkp w)(hr:D7 r=0):Aqf (w++r) r [nW w]:=Bqq h.1 h.2 hr
theorem Aqf.sign{c:UInt8}{r:List UInt8}(h1:De c=false)(h2:(c == 34)=false)(h3:O5.contains c=true)(h4:Iw c=false)(h5:(c == 35)=false):Aqf (c::r) r [pW c]:=Bqo r h1 h2 h3 h4 h5
theorem Aqf.text{t r:List UInt8}:Aqf (Bl9 t++r) r [tW t]:=Bqn t r
theorem Bix{t:List UInt8}(h:(!t.isEmpty && t.all De)=true):Bkp t:=by simp only[Bool.and_eq_true,Bool.not_eq_true',List.all_eq_true]at h;exact⟨fun e=>by rw[e]at h;exact absurd h.1 (by decide),h.2⟩
theorem Bog{b:Bool}{t:List UInt8}{u:List Wd}(h:∀r,D7 r=0→Aqf (t++r) r u)(r:List UInt8)(hr:D7 r=0):Aqf (inP b t++r) r (inW b u):=by
 cases b with
 |false=>exact h r hr
 |true=>
  show Aqf (40::(t++ [41])++r) r (pW 40::(u++ [pW 41]));rw[show(40::(t++ [41])++r:List UInt8)=40::(t++(41::r))from by simp]
  exact(Aqf.sign rfl rfl rfl rfl rfl).cons ((h (41::r) rfl).trans (Aqf.sign rfl rfl rfl rfl rfl))
theorem Bjc:∀(x:Qy),Aem Br8 x→∀r,D7 r=0→Aqf (Asz x++r) r (toks x)
 | .label a rl ln,h,r,hr=>by
  cases rl with
  |false=>exact Aqf.name h hr
  |true=>exact(Aqf.sign rfl rfl rfl rfl rfl).cons (Aqf.name h hr)
 | .var a nm,h,r,hr=>(Aqf.sign (c:=36) rfl rfl rfl rfl rfl).cons (Aqf.name h hr)
 | .whole a,h,r,hr=>by show Aqf (A76++(40::41::r)) r _;exact(Aqf.name (Bix rfl) rfl).cons ((Aqf.sign rfl rfl rfl rfl rfl).cons (Aqf.sign rfl rfl rfl rfl rfl))
 | .lt a nm x y,h,r,hr=>by
  have hx:=Bjc x h.2.1;have hy:=Bjc y h.2.2;rw[show Asz (.lt a nm x y)++r=Ib++(32::(nm++(32::61::32::(Asz x++(32::(Vx++(32::(Asz y++r))))))))from by simp[Asz]]
  exact(Aqf.name (Bix rfl) rfl).cons (Aqf.sp ((Aqf.name h.1 rfl).cons (Aqf.sp ((Aqf.sign rfl rfl rfl rfl rfl).cons (Aqf.sp ((hx _ rfl).trans (Aqf.sp ((Aqf.name (Bix rfl) rfl).cons (Aqf.sp (hy r hr))))))))))
 | .un k a nm n x,h,r,hr=>by
  have hx:=Bjc x h.2;rcases h.1 with⟨rfl,_,hn⟩|⟨rfl,_,_⟩|⟨rfl,_,hn⟩|⟨rfl,_⟩
  ·rcases hn with rfl|⟨h0,hn⟩
   ·rw[show Asz (.un 6 a nm (-1) x)++r=Aj1++(40::(Asz x++(41::r)))from by simp[Asz]]
    exact(Aqf.name (Bix rfl) rfl).cons ((Aqf.sign rfl rfl rfl rfl rfl).cons ((hx _ rfl).trans (Aqf.sign rfl rfl rfl rfl rfl)))
   ·rw[show Asz (.un 6 a nm n x)++r=Aj1++(40::(Asz x++(44::32::(P7 n.toNat++(41::r)))))from by simp[Asz,h0]]
    rw[show toks (.un 6 a nm n x)=nW Aj1::pW 40::(toks x++ [pW 44,nW (P7 n.toNat),pW 41])from by simp[toks,h0]]
    exact(Aqf.name (Bix rfl) rfl).cons ((Aqf.sign rfl rfl rfl rfl rfl).cons ((hx _ rfl).trans ((Aqf.sign rfl rfl rfl rfl rfl).cons (Aqf.sp ((Aqf.name hn rfl).cons (Aqf.sign rfl rfl rfl rfl rfl))))))
  ·rw[show Asz (.un 7 a nm n x)++r=Abt++(40::(Asz x++(41::r)))from by simp[Asz]]
   exact(Aqf.name (Bix rfl) rfl).cons ((Aqf.sign rfl rfl rfl rfl rfl).cons ((hx _ rfl).trans (Aqf.sign rfl rfl rfl rfl rfl)))
  ·rw[show Asz (.un 10 a nm n x)++r=Ake++(40::(nm++(44::32::(Asz x++(41::r)))))from by simp[Asz]]
   exact(Aqf.name (Bix rfl) rfl).cons ((Aqf.sign rfl rfl rfl rfl rfl).cons ((Aqf.name hn rfl).cons ((Aqf.sign rfl rfl rfl rfl rfl).cons (Aqf.sp ((hx _ rfl).trans (Aqf.sign rfl rfl rfl rfl rfl))))))
  ·rw[show Asz (.un 11 a nm n x)++r=X5++(40::(Bl9 nm++(44::32::(Asz x++(41::r)))))from by simp[Asz]]
   exact(Aqf.name (Bix rfl) rfl).cons ((Aqf.sign rfl rfl rfl rfl rfl).cons (Aqf.text.cons ((Aqf.sign rfl rfl rfl rfl rfl).cons (Aqf.sp ((hx _ rfl).trans (Aqf.sign rfl rfl rfl rfl rfl))))))
 | .bin k a x y,h,r,hr=>by
  have hx:=Bjc x h.2.1;have hy:=Bjc y h.2.2;have hs:∀(b:List UInt8) (k:Int),k=3∨k=4∨k=5→Aqf (sgB k::32::b) (32::b) [sgW k]:=fun b k hk=>by
   rcases hk with rfl|rfl|rfl
   ·exact Aqf.sign rfl rfl rfl rfl rfl
   ·exact Aqf.sign rfl rfl rfl rfl rfl
   ·exact Aqf.name (w:= [45]) (Bix rfl) rfl
  have hS:k=3∨k=4∨k=5→Aqf (Asz (.bin k a x y)++r) r (toks (.bin k a x y)):=fun hk=>by
   have hb:Bmf k=true:=by rcases hk with rfl|rfl|rfl<;>rfl
   rw[show Asz (.bin k a x y)++r=inP (Asy x) (Asz x)++(32::sgB k::32::(inP (Asy y || Aud y) (Asz y)++r))from by simp[Asz,hb]]
   rw[show toks (.bin k a x y)=inW (Asy x) (toks x)++(sgW k::inW (Asy y || Aud y) (toks y))from by simp[toks,hb]]
   exact(Bog hx _ rfl).trans (Aqf.sp ((hs _ k hk).cons (Aqf.sp (Bog hy r hr))))
  rcases h.1 with hk|hk|hk|rfl|rfl
  ·exact hS (.inl hk)
  ·exact hS (.inr (.inl hk))
  ·exact hS (.inr (.inr hk))
  ·rw[show Asz (.bin 8 a x y)++r=Afo++(40::(Asz x++(44::32::(Asz y++(41::r)))))from by simp[Asz,Bmf]]
   exact(Aqf.name (Bix rfl) rfl).cons ((Aqf.sign rfl rfl rfl rfl rfl).cons ((hx _ rfl).trans ((Aqf.sign rfl rfl rfl rfl rfl).cons (Aqf.sp ((hy _ rfl).trans (Aqf.sign rfl rfl rfl rfl rfl))))))
  ·rw[show Asz (.bin 9 a x y)++r=Zq++(40::(Asz x++(44::32::(Asz y++(41::r)))))from by simp[Asz,Bmf]]
   exact(Aqf.name (Bix rfl) rfl).cons ((Aqf.sign rfl rfl rfl rfl rfl).cons ((hx _ rfl).trans ((Aqf.sign rfl rfl rfl rfl rfl).cons (Aqf.sp ((hy _ rfl).trans (Aqf.sign rfl rfl rfl rfl rfl))))))
def Bj7(may:List UInt8→Bool)(gn:List UInt8→Int × Bool):Qy→Prop
 | .label _ _ ln=>may ln=true
 | .var _ nm=>may nm=true
 | .bin k _ _ _=>k=3∨k=4∨k=5∨k=8∨k=9
 | .un k _ nm n _=>(k=6∧nm= []∧(n= -1∨∃t,gn t=(n,true)))∨(k=7∧nm= []∧n=0)∨(k=10∧n=0∧Jd nm=true)∨(k=11∧n=0)
 | .lt _ nm _ _=>may nm=true
 | .whole _=>True
section
variable{L:Nat}{may:List UInt8→Bool}{gn:List UInt8→Int × Bool}
theorem Aze(c:UInt8)(ws:List Wd):A8 L ⟨pW c::ws,none⟩ 3 [c]=⟨ws,none⟩:=by
 unfold A8;rw[if_pos (by simp[Ry,pW,Cn])]
 rfl
theorem Brj(t:List UInt8)(ws:List Wd):A8 L ⟨nW t::ws,none⟩ 1 t=⟨ws,none⟩:=by
 unfold A8;rw[if_pos (by simp[Ry,nW,Cn])]
 rfl
theorem Bme{m:List UInt8→Bool}{t:List UInt8}(ws:List Wd)(h:m t=true):Bb L ⟨nW t::ws,none⟩ 1 m=(t,⟨ws,none⟩):=by
 unfold Bb;rw[if_pos (by simp[M9,nW,Cn,h])]
 rfl
theorem Bse{t:List UInt8}(ws:List Wd):Bb L ⟨tW t::ws,none⟩ 2 (fun _=>true)=(t,⟨ws,none⟩):=by
 unfold Bb;rw[if_pos (by simp[M9,tW,Cn])]
 rfl
theorem Bjs(t u:List UInt8)(ws:List Wd):Ry L ⟨nW t::ws,none⟩ 1 u=(t == u):=by simp[Ry,nW,Cn]
theorem Bgl(t u:List UInt8)(ws:List Wd):Ry L ⟨nW t::ws,none⟩ 3 u=false:=by simp[Ry,nW,Cn]
theorem Bjo(c d:UInt8)(ws:List Wd):Ry L ⟨pW c::ws,none⟩ 3 [d]=(c == d):=by simp[Ry,pW,Cn]
theorem Boq(c:UInt8)(u:List UInt8)(ws:List Wd):Ry L ⟨pW c::ws,none⟩ 1 u=false:=by simp[Ry,pW,Cn]
theorem Bqm(t:List UInt8)(ws:List Wd):Ij L ⟨nW t::ws,none⟩=Bl.tail.contains t:=by simp[Ij,nW,Cn]
theorem Bgz{c:UInt8}(ws:List Wd)(h:(c == 43)=false)(h2:(c == 94)=false):Hz L ⟨pW c::ws,none⟩=0:=by unfold Hz;simp only[Bjo,Boq,h,h2,BF]
theorem Brz(ws:List Wd):Hz L ⟨nW Vx::ws,none⟩=0:=by unfold Hz;rw[Bgl,Bgl,Bjs];rfl
theorem Bp9:Hz L ⟨[],none⟩=0:=by simp[Hz,Ry,Cn,Nq]
theorem Bri{k:Int}(ws:List Wd)(h:k=3∨k=4∨k=5):Hz L ⟨sgW k::ws,none⟩=k:=by
 rcases h with rfl|rfl|rfl
 ·show Hz L ⟨pW 43::ws,none⟩=3;unfold Hz;rw[Bjo];rfl
 ·show Hz L ⟨pW 94::ws,none⟩=4;unfold Hz;rw[Bjo,Bjo];rfl
 ·show Hz L ⟨nW [45]::ws,none⟩=5;unfold Hz;rw[Bgl,Bgl,Bjs];rfl
theorem Brf(k:Int):(sgW k).at_=0:=by unfold sgW;split<;>rfl
theorem A31{t:List UInt8}{ws:List Wd}{n:Nat}(ht:Bl.tail.contains t=true):Jv L may gn (n+2) ⟨nW t::pW 40::ws,none⟩=match Q7 L gn (Fe L may gn n) 0 t ⟨ws,none⟩with
  |none=>none
  |some (x,s1)=>some (x,A8 L s1 3 [41]):=by
 unfold Jv;rw[Bgl,Bgl,Bgl,Bqm,ht];simp only[BF,if_true];unfold Py;show(match Q7 L gn (Fe L may gn n) 0 t (A8 L ⟨pW 40::ws,none⟩ 3 [40])with
  |none=>none
  |some (x,s1)=>some (x,A8 L s1 3 [41]))=_
 rw[Aze]
def bnd(L:Nat)(item:PS→Option (Qy × PS))(m:Nat)(s:PS):Option (Qy × PS):=match item s with
 |none=>none
 |some (x,s1)=>Kw L item m x s1
structure Boz(L:Nat)(may:List UInt8→Bool)(gn:List UInt8→Int × Bool)(q:Qy):Prop where
 it:Df q≤1000→Asy q=false→Aud q=false→∀n ws,4*Df q≤n+2→Jv L may gn n ⟨toks q++ws,none⟩=some (shQ Bdd q,⟨ws,none⟩)
 su:Df q≤1000→Asy q=false→∀n m ws,4*Df q≤n+2→Df q≤m→∃m',m≤m'+Df q∧bnd L (Jv L may gn n) m ⟨toks q++ws,none⟩=Kw L (Jv L may gn n) m' (shQ Bdd q) ⟨ws,none⟩
 qu:Df q≤1000→∀n ws,4*Df q≤n→Hz L ⟨ws,none⟩=0→Fe L may gn n ⟨toks q++ws,none⟩=some (shQ Bdd q,⟨ws,none⟩)
theorem Boi(hM:∀t,may t=true→Bl.contains t=false):∀(q:Qy),Aem (Bj7 may gn) q→Asy q=false→∀ws,Ry L ⟨toks q++ws,none⟩ 1 Ib=false
 | .label a r ln,h,_,ws=>by
  cases r with
  |true=>exact Boq _ _ _
  |false=>show Ry L ⟨nW ln::ws,none⟩ 1 Ib=false;rw[Bjs,beq_eq_false_iff_ne];intro e;have:=hM _ h;rw[e]at this;exact absurd this (by decide)
 | .var a nm,h,_,ws=>Boq _ _ _
 | .whole a,h,_,ws=>by show Ry L ⟨nW A76::_,none⟩ 1 Ib=false;rw[Bjs];rfl
 | .lt a nm x y,h,hl,ws=>by cases hl
 | .un k a nm n x,h,_,ws=>by
  rcases h.1 with⟨rfl,_⟩|⟨rfl,_⟩|⟨rfl,_⟩|⟨rfl,_⟩
  ·exact(Bjs Aj1 Ib _).trans rfl
  ·exact(Bjs Abt Ib _).trans rfl
  ·exact(Bjs Ake Ib _).trans rfl
  ·exact(Bjs X5 Ib _).trans rfl
 | .bin k a x y,h,_,ws=>by
  have hS:Bmf k=true→Ry L ⟨toks (.bin k a x y)++ws,none⟩ 1 Ib=false:=fun hb=>by
   rw[show toks (.bin k a x y)++ws=inW (Asy x) (toks x)++(sgW k::inW (Asy y || Aud y) (toks y)++ws)from by simp[toks,hb]]
   cases hx:Asy x with
   |true=>exact Boq _ _ _
   |false=>exact Boi hM x h.2.1 hx _
  rcases h.1 with rfl|rfl|rfl|rfl|rfl
  ·exact hS rfl
  ·exact hS rfl
  ·exact hS rfl
  ·exact(Bjs Afo Ib _).trans rfl
  ·exact(Bjs Zq Ib _).trans rfl
theorem Bm3{x:Qy}(hx:Boz L may gn x)(hd:Df x≤1000){b:Bool}(hb:b=false→Asy x=false∧Aud x=false){n:Nat}{ws:List Wd}(hn:4*Df x+2≤n):
  Jv L may gn n ⟨inW b (toks x)++ws,none⟩=some (shQ Bdd x,⟨ws,none⟩):=by
 cases b with
 |false=>exact hx.it hd (hb rfl).1 (hb rfl).2 n ws (by omega)
 |true=>
  obtain⟨n,rfl⟩:∃m,n=m+1:=⟨n - 1,by omega⟩
  rw[show inW true (toks x)++ws=pW 40::(toks x++(pW 41::ws))from by simp[inW]]
  unfold Jv;rw[Bjo,Bjo,Bjo,Aze,hx.qu hd n (pW 41::ws) (by omega) (Bgz ws rfl rfl)]
  simp only[show((40:UInt8) == 58)=false from rfl,show((40:UInt8) == 36)=false from rfl,show((40:UInt8) == 40)=true from rfl,BF,if_true,Aze]
theorem Boz.of_item(hM:∀t,may t=true→Bl.contains t=false){q:Qy}(h:Aem (Bj7 may gn) q)(hl:Asy q=false)
  (su:Df q≤1000→∀n m ws,4*Df q≤n+2→Df q≤m→∃m',m≤m'+Df q∧bnd L (Jv L may gn n) m ⟨toks q++ws,none⟩=Kw L (Jv L may gn n) m' (shQ Bdd q) ⟨ws,none⟩)
  (it:Df q≤1000→Aud q=false→∀n ws,4*Df q≤n+2→Jv L may gn n ⟨toks q++ws,none⟩=some (shQ Bdd q,⟨ws,none⟩)):Boz L may gn q:=
 ⟨fun hd _ hs=>it hd hs,fun hd _=>su hd,fun hd n ws hn hsg=>by
  have hp:=Xv q;obtain⟨n,rfl⟩:∃m,n=m+2:=⟨n - 2,by omega⟩
  obtain⟨m',h1,h2⟩:=su hd n 1900 ws (by omega) (by omega)
  obtain⟨j,rfl⟩:∃j,m'=j+1:=⟨m' - 1,by omega⟩
  unfold Fe;rw[Boi hM q h hl];simp only[BF];unfold Uv;refine Eq.trans ?_ (h2.trans ?_)
  ·unfold bnd;rfl
  ·unfold Kw;rw[if_pos hsg]⟩
theorem Boz.item(hM:∀t,may t=true→Bl.contains t=false){q:Qy}(h:Aem (Bj7 may gn) q)(hl:Asy q=false)(it:Df q≤1000→∀n ws,4*Df q≤n+2→Jv L may gn n ⟨toks q++ws,none⟩=some (shQ Bdd q,⟨ws,none⟩)):Boz L may gn q:=
 Boz.of_item hM h hl (fun hd n m ws hn hm=>⟨m,by omega,by unfold bnd;rw[it hd n ws hn]⟩) (fun hd _=>it hd)
theorem Bj4(hM:∀t,may t=true→Bl.contains t=false)(hG:∀t n,gn t=(n,true)→0≤n∧P7 n.toNat=t):∀q:Qy,Aem (Bj7 may gn) q→Boz L may gn q
 | .label a r ln,h=>Boz.item hM h rfl fun _ n ws hn=>by
  obtain⟨n,rfl⟩:∃m,n=m+1:=⟨n - 1,by simp[Df]at hn;omega⟩
  have hc:=hM _ h;have hm:may ln=true:=h;cases r with
  |true=>show Jv L may gn (n+1) ⟨pW 58::nW ln::ws,none⟩=_;unfold Jv;rw[Bjo,Aze,Bme ws hm];rfl
  |false=>
   show Jv L may gn (n+1) ⟨nW ln::ws,none⟩=_;have hc2:Bl.tail.contains ln=false:=by simp only[Bl,List.tail_cons,List.contains_cons,Bool.or_eq_false_iff]at hc ⊢;exact hc.2
   unfold Jv;rw[Bgl,Bgl,Bgl,Bqm,hc2,Bme ws hm];rfl
 | .var a nm,h=>Boz.item hM h rfl fun _ n ws hn=>by
  obtain⟨n,rfl⟩:∃m,n=m+1:=⟨n - 1,by simp[Df]at hn;omega⟩
  have hm:may nm=true:=h;show Jv L may gn (n+1) ⟨pW 36::nW nm::ws,none⟩=_;unfold Jv;rw[Bjo,Bjo,Aze,Bme ws hm];rfl
 | .whole a,h=>Boz.item hM h rfl fun _ n ws hn=>by
  obtain⟨n,rfl⟩:∃m,n=m+2:=⟨n - 2,by simp[Df]at hn;omega⟩
  show Jv L may gn (n+2) ⟨nW A76::pW 40::pW 41::ws,none⟩=_;rw[A31 rfl];unfold Q7;rw[if_neg (by decide),if_neg (by decide),if_neg (by decide),if_neg (by decide),if_neg (by decide)]
  simp only[Aze];rfl
 | .lt a nm x y,h=>by
  have hx:=Bj4 hM hG x h.2.1;have hy:=Bj4 hM hG y h.2.2;have hm:may nm=true:=h.1;refine⟨fun _ hl=>absurd (show true=false from hl) (by decide),fun _ hl=>absurd (show true=false from hl) (by decide),fun hd n ws hn hsg=>?_⟩
  have hdx:Df (.lt a nm x y)=1+max (Df x) (Df y):=rfl;obtain⟨n,rfl⟩:∃m,n=m+1:=⟨n - 1,by omega⟩
  rw[show toks (.lt a nm x y)++ws=nW Ib::nW nm::pW 61::(toks x++(nW Vx::(toks y++ws)))from by simp[toks]]
  unfold Fe;rw[Bjs,Brj,Bme _ hm,Aze,hx.qu (by omega) n _ (by omega) (Brz _)]
  simp only[show(Ib == Ib)=true from rfl,if_true,Brj];rw[hy.qu (by omega) n ws (by omega) hsg]
  rfl
 | .un k a nm n0 x,h=>by
  have hx:=Bj4 hM hG x h.2;have hdx:Df (.un k a nm n0 x)=1+Df x:=rfl;refine Boz.item hM h rfl fun hd n ws hn=>?_;obtain⟨n,rfl⟩:∃m,n=m+2:=⟨n - 2,by omega⟩
  rcases h.1 with⟨rfl,rfl,hn0⟩|⟨rfl,rfl,rfl⟩|⟨rfl,rfl,hk⟩|⟨rfl,rfl⟩
  ·have hq:∀ws',Hz L ⟨ws',none⟩=0→Fe L may gn n ⟨toks x++ws',none⟩=some (shQ Bdd x,⟨ws',none⟩):=fun ws'=>hx.qu (by omega) n ws' (by omega)
   rcases hn0 with rfl|⟨t,ht⟩
   ·rw[show toks (.un 6 a [] (-1) x)++ws=nW Aj1::pW 40::(toks x++(pW 41::ws))from by simp[toks]]
    rw[A31 rfl];unfold Q7;rw[if_pos rfl,hq _ (Bgz ws rfl rfl)];simp only[Bjo,show((41:UInt8) == 44)=false from rfl,BF,Aze];rfl
   ·obtain⟨h0,h1⟩:=hG _ _ ht;rw[show toks (.un 6 a [] n0 x)++ws=nW Aj1::pW 40::(toks x++(pW 44::nW t::pW 41::ws))from by simp[toks,h0,h1]]
    rw[A31 rfl];unfold Q7;rw[if_pos rfl,hq _ (Bgz _ rfl rfl)];simp only[Bjo,show((44:UInt8) == 44)=true from rfl,if_true,Aze,Zk,Bme (m:=fun t=>(gn t).2) (t:=t) (pW 41::ws) (by rw[ht]),ht]
    rfl
  ·rw[show toks (.un 7 a [] 0 x)++ws=nW Abt::pW 40::(toks x++(pW 41::ws))from by simp[toks]]
   rw[A31 rfl];unfold Q7;rw[if_neg (by decide),if_pos rfl,hx.qu (by omega) n _ (by omega) (Bgz ws rfl rfl)]
   simp only[Aze];rfl
  ·rw[show toks (.un 10 a nm 0 x)++ws=nW Ake::pW 40::nW nm::pW 44::(toks x++(pW 41::ws))from by simp[toks]]
   rw[A31 rfl];unfold Q7;rw[if_neg (by decide),if_neg (by decide),if_neg (by decide),if_pos rfl,Bme (m:=Jd) _ hk]
   simp only[Aze];rw[hx.qu (by omega) n _ (by omega) (Bgz ws rfl rfl)]
   simp only[Aze];rfl
  ·rw[show toks (.un 11 a nm 0 x)++ws=nW X5::pW 40::tW nm::pW 44::(toks x++(pW 41::ws))from by simp[toks]]
   rw[A31 rfl];unfold Q7;rw[if_neg (by decide),if_neg (by decide),if_neg (by decide),if_neg (by decide),if_pos rfl,Bse]
   simp only[Aze];rw[hx.qu (by omega) n _ (by omega) (Bgz ws rfl rfl)]
   simp only[Aze];rfl
 | .bin k a x y,h=>by
  have hx:=Bj4 hM hG x h.2.1;have hy:=Bj4 hM hG y h.2.2;have hdx:Df (.bin k a x y)=1+max (Df x) (Df y):=rfl;have hS:(k=3∨k=4∨k=5)→Boz L may gn (.bin k a x y):=fun hk=>by
   have hb:Bmf k=true:=by rcases hk with rfl|rfl|rfl<;>rfl
   refine Boz.of_item hM h rfl (fun hd n m ws hn hm=>?_) (fun _ hs=>by rw[show Aud (.bin k a x y)=Bmf k from rfl,hb]at hs;cases hs)
   rw[show toks (.bin k a x y)++ws=inW (Asy x) (toks x)++(sgW k::(inW (Asy y || Aud y) (toks y)++ws))from by simp[toks,hb]]
   have hfin:∀j,Kw L (Jv L may gn n) (j+1) (shQ Bdd x) ⟨sgW k::(inW (Asy y || Aud y) (toks y)++ws),none⟩=Kw L (Jv L may gn n) j (shQ Bdd (.bin k a x y)) ⟨ws,none⟩:=fun j=>by
    rw[Kw,Bri _ hk,if_neg (by omega)]
    show(match Jv L may gn n ⟨inW (Asy y || Aud y) (toks y)++ws,none⟩with
     |none=>none
     |some (y',s2)=>Kw L (Jv L may gn n) j (.bin k (sgW k).at_ (shQ Bdd x) y') s2)=_
    rw[Bm3 hy (by omega) (by simp) (by omega),Brf]
    rfl
   cases hlx:Asy x with
   |true=>
    refine⟨m - 1,by omega,?_⟩
    obtain⟨j,rfl⟩:∃j,m=j+1:=⟨m - 1,by omega⟩
    unfold bnd;rw[Bm3 hx (by omega) (by simp) (by omega)]
    exact hfin j
   |false=>
    obtain⟨m',h1,h2⟩:=hx.su (by omega) hlx n m (sgW k::(inW (Asy y || Aud y) (toks y)++ws)) (by omega) (by omega)
    obtain⟨j,rfl⟩:∃j,m'=j+1:=⟨m' - 1,by omega⟩
    exact⟨j,by omega,h2.trans (hfin j)⟩
  have hC:∀k',(k'=8∨k'=9)→k=k'→Boz L may gn (.bin k a x y):=fun k' hk e=>by
   refine Boz.item hM h rfl fun hd n ws hn=>?_;obtain⟨n,rfl⟩:∃m,n=m+2:=⟨n - 2,by omega⟩
   rcases hk with rfl|rfl<;>subst e
   ·rw[show toks (.bin 8 a x y)++ws=nW Afo::pW 40::(toks x++(pW 44::(toks y++(pW 41::ws))))from by simp[toks,Bmf]]
    rw[A31 rfl];unfold Q7;rw[if_neg (by decide),if_neg (by decide),if_pos (by decide),hx.qu (by omega) n _ (by omega) (Bgz _ rfl rfl)]
    simp only[Aze];rw[hy.qu (by omega) n _ (by omega) (Bgz _ rfl rfl)]
    simp only[Aze];rfl
   ·rw[show toks (.bin 9 a x y)++ws=nW Zq::pW 40::(toks x++(pW 44::(toks y++(pW 41::ws))))from by simp[toks,Bmf]]
    rw[A31 rfl];unfold Q7;rw[if_neg (by decide),if_neg (by decide),if_pos (by decide),hx.qu (by omega) n _ (by omega) (Bgz _ rfl rfl)]
    simp only[Aze];rw[hy.qu (by omega) n _ (by omega) (Bgz _ rfl rfl)]
    simp only[Aze];rfl
  rcases h.1 with hk|hk|hk|hk|hk
  ·exact hS (.inl hk)
  ·exact hS (.inr (.inl hk))
  ·exact hS (.inr (.inr hk))
  ·exact hC 8 (.inl rfl) hk
  ·exact hC 9 (.inr rfl) hk
theorem Bgf:∀q:Qy,Aem (Bj7 may gn) q→Df q≤(toks q).length
 | .label _ r _,_=>by cases r<;>simp[toks,Df]
 | .var _ _,_=>by simp[toks,Df]
 | .whole _,_=>by simp[toks,Df]
 | .lt a nm x y,h=>by have hx:=Bgf x h.2.1;have hy:=Bgf y h.2.2;simp only[toks,Df,List.length_cons,List.length_append];omega
 | .un k a nm n x,h=>by
  have hx:=Bgf x h.2;have e:Df (.un k a nm n x)=1+Df x:=rfl;unfold toks;split
  ·simp only[List.length_cons,List.length_append];omega
  split
  ·simp only[List.length_cons,List.length_append];omega
  split
  ·simp only[List.length_cons,List.length_append];omega
  ·simp only[List.length_cons,List.length_append];omega
 | .bin k a x y,h=>by
  have hx:=Bgf x h.2.1;have hy:=Bgf y h.2.2;have e:Df (.bin k a x y)=1+max (Df x) (Df y):=rfl;have hi:∀(b:Bool) (t:List Wd),t.length≤(inW b t).length:=fun b t=>by
   cases b with
   |false=>exact Nat.le_refl _
   |true=>simp only[inW,if_true,List.length_cons,List.length_append,List.length_nil];omega
  unfold toks;split
  ·have h1:=hi (Asy x) (toks x);have h2:=hi (Asy y || Aud y) (toks y);simp only[List.length_cons,List.length_append];omega
  ·simp only[List.length_cons,List.length_append];omega
end
section
variable{L:Nat}{may:List UInt8→Bool}{gn:List UInt8→Int × Bool}
variable{A B:Nat}
theorem Aem.imp{p q:Qy→Prop}(hp:∀x,p x→q x){x:Qy}(h:Aem p x):Aem q x:=Aem.mono hp h
theorem Brm{t:List UInt8}(h:Jd t=true):Bkp t:=by unfold Jd at h;simp only[Bool.or_eq_true,beq_iff_eq]at h;rcases h with h|h|h<;>subst h<;>exact Bix rfl
theorem Bkj{s:List UInt8}{ts:List Wd}{x':Qy}(hs:s.length≤400)(hlx:Biy s=some ts)(hq':∀L,Fe L may gn (4*ts.length+4) ⟨ts,none⟩=some (x',⟨[],none⟩))(hd:Df x'≤30):
  ∃y,Qx may gn s= .ok y∧shQ Bdd y=x':=by
 unfold Biy at hlx;unfold Qx;rw[if_neg (by omega)]
 cases hw:Y8 s with
 |error i=>rw[hw]at hlx;cases hlx
 |ok ws=>
  rw[hw]at hlx;simp only[Option.some.injEq]at hlx;obtain⟨y,s1,hq,_⟩:=Aae may gn s.length (ws:=ws) (by have:=(Awq (by omega) hw).1;omega)
  simp only[hq];have h1:=(Bqc (L:=s.length) (may:=may) (gn:=gn) (k:=Bdd) (4*ws.length+4)).1 ⟨ws,none⟩;rw[hq,show shS Bdd ⟨ws,none⟩=⟨ts,none⟩from by unfold shS;rw[hlx];rfl]at h1
  have hlen:ws.length=ts.length:=by rw[← hlx,List.length_map]
  rw[hlen,hq']at h1;simp only[shO,Option.map_some,Option.some.injEq,Prod.mk.injEq]at h1;obtain⟨h3,h4⟩:=h1;refine⟨y,?_,h3.symm⟩;have h5:s1.ws= []∧s1.bad=none:=by unfold shS at h4;have h6:=congrArg PS.ws h4;have h7:=congrArg PS.bad h4;simp only at h6 h7;exact⟨List.map_eq_nil_iff.1 h6.symm,Option.map_eq_none_iff.1 h7.symm⟩
  obtain⟨ws1,b1⟩:=s1;simp only at h5;obtain⟨rfl,rfl⟩:=h5;have hdy:Df y=Df x':=by rw[h3,Bjr]
  show(if 30<Df y then .error (4,-1)else .ok y:Except (Int × Int) Qy)=_;rw[if_neg (by omega)]
theorem Bp6(hM:∀t,may t=true→Bkp t)(hG:∀t n,gn t=(n,true)→0≤n∧P7 n.toNat=t∧Bkp t){x:Qy}(ho:Aem (Bj7 may gn) x):Aem Br8 x:=Aem.mono (fun q hq=>by
  cases q with
  |label a r ln=>exact hM _ hq
  |var a nm=>exact hM _ hq
  |bin k a x y=>exact hq
  |un k a nm n x=>
   rcases hq with⟨h1,h2,h3⟩|hq|⟨h1,h2,h3⟩|hq
   ·refine .inl ⟨h1,h2,?_⟩;rcases h3 with h3|⟨t,h3⟩
    ·exact .inl h3
    ·obtain⟨g1,g2,g3⟩:=hG _ _ h3;exact .inr ⟨g1,by rw[g2];exact g3⟩
   ·exact .inr (.inl hq)
   ·exact .inr (.inr (.inl ⟨h1,h2,Brm h3⟩))
   ·exact .inr (.inr (.inr hq))
  |lt a nm x y=>exact hM _ hq
  |whole a=>trivial) ho
theorem Brd{x:Qy}(h:Aem Br8 x):Biy (Asz x)=some (toks x):=by have hlex:=Bjc x h [] rfl;unfold Aqf at hlex;rw[List.append_nil]at hlex;rw[hlex];show some (toks x++ [])=_;rw[List.append_nil]
theorem Bo8(hM:∀t,may t=true→Bl.contains t=false∧Bkp t)(hG:∀t n,gn t=(n,true)→0≤n∧P7 n.toNat=t∧Bkp t){x:Qy}(ho:Aem (Bj7 may gn) x)(hd:Df x≤30)(hl:(Asz x).length≤400):
  ∃y,Qx may gn (Asz x)= .ok y∧shQ Bdd y=shQ Bdd x:=by
 refine Bkj hl (Brd (Bp6 (fun t ht=>(hM t ht).2) hG ho)) (fun L=>?_) (by rw[Bjr];exact hd)
 have h2:=(Bj4 (L:=L) (fun t ht=>(hM t ht).1) (fun t n ht=>⟨(hG t n ht).1,(hG t n ht).2.1⟩) x ho).qu (by omega) (4*(toks x).length+4) [] (by have:=Bgf x ho;omega) Bp9
 rw[List.append_nil]at h2;exact h2
end
section
variable{C:Eo}{hh:Bool}{od:Nat→Option (List Nat × Bool)}{cf:Ah}{N:Nat}{Pw:Nat→Prop}{e:Env}{st st':St}{Q:Ex→Env→St→Prop}{R:Env→St→Prop}{ops:Array Oper}{l:List Nat}{B:Array Nat}
end
theorem Bqh:∀t:List UInt8,(∀p∈Bd t,∀b∈p,Ig b=true)→Bra t
 | [],_=>fun b hb=>by cases hb
 |c::r,h=>by
  have hs:∀b,Ig b=true→De b=true:=fun b hb=>by unfold Ig at hb;rw[Bool.and_eq_true]at hb;exact hb.1
  unfold Bd at h;by_cases hc:(c == 47)=true
  ·rw[if_pos hc]at h;rw[beq_iff_eq]at hc;subst hc;have ih:=Bqh r fun p hp=>h p (by simp[hp])
   intro b hb;rcases List.mem_cons.1 hb with rfl|hb
   ·decide
   ·exact ih b hb
  ·rw[if_neg hc]at h;have hne:=(Gj r).2;cases hp:Bd r with
   |nil=>exact absurd hp hne
   |cons p ps=>
    rw[hp]at h;have ih:=Bqh r fun q hq b hb=>by
     rw[hp]at hq;rcases List.mem_cons.1 hq with rfl|hq
     ·exact h (c::q) (by simp) b (by simp[hb])
     ·exact h q (by simp[hq]) b hb
    intro b hb;rcases List.mem_cons.1 hb with rfl|hb
    ·exact hs _ (h (b::p) (by simp) b (by simp))
    ·exact ih b hb
theorem Bzt{t:List UInt8}(h:nmP t=true):Bl.contains t=false∧Bkp t:=by
 have h0:nmP []=false:=by kernel_rfl
 have hne:t≠ []:=fun e=>by rw[e,h0]at h;cases h
 unfold nmP Aan at h;simp only[Bool.and_eq_true,Bool.not_eq_true']at h;obtain⟨⟨_,_,h1⟩,_,h2⟩:=h;refine⟨h2,hne,Bqh t fun p hp b hb=>?_⟩;rw[List.any_eq_false]at h1;have h3:=h1 p hp;unfold Cz at h3;simp only[Bool.or_eq_true,not_or,List.any_eq_true,not_exists,not_and,Bool.not_eq_true',Bool.not_eq_false]at h3;exact h3.2 b hb
theorem Bx4:(List.range 1001).all (fun n=>!(P7 n).isEmpty && (P7 n).all De)=true:=by kernel_rfl
theorem Btr{t:List UInt8}{n:Int}(h:gnP t=(n,true)):(0≤n∧n≤1000)∧P7 n.toNat=t∧Bkp t:=by
 unfold gnP at h;rw[← Aw6 t 1000 (by decide)]at h
 unfold Rb at h;split at h
 ·rename_i v _;split at h
  ·cases h
  split at h
  ·cases h
  split at h
  ·rename_i h1 h2 h3;cases h;refine⟨⟨by omega,by omega⟩,h3,?_⟩
   have h4:=List.all_eq_true.1 Bx4 n.toNat (List.mem_range.2 (by omega))
   rw[h3]at h4;exact Bix h4
  ·cases h
 ·cases h
theorem B0c(t:List UInt8)(n:Int)(h:gnP t=(n,true)):0≤n∧P7 n.toNat=t∧Bkp t:=⟨(Btr h).1.1,(Btr h).2⟩
def lab(t:List UInt8):Qy:= .label 0 false t
theorem Bq7(f g:Nat→Nat):∀x y:Qy,eqQ (shQ f x) (shQ g y)=eqQ x y:=by
 have hk:∀(f:Nat→Nat) (x:Qy),Bc5 (shQ f x)=Bc5 x:=fun f x=>by cases x<;>rfl
 have hd:∀(f:Nat→Nat) (x:Qy),L9 (shQ f x)=(L9 x).map (shQ f):=fun f x=>by cases x<;>rfl
 intro x;induction x with
 |label a r ln=>intro y;rw[Bc7,Bc7,hk,hk,hd,hd];cases L9 y<;>rfl
 |var a nm=>intro y;rw[Bc7,Bc7,hk,hk,hd,hd];cases L9 y<;>rfl
 |whole a=>intro y;rw[Bc7,Bc7,hk,hk,hd,hd];cases L9 y<;>rfl
 |bin k a x1 x2 h1 h2=>intro y;rw[Bc7,Bc7,hk,hk,hd,hd];rcases L9 y with _|⟨y1,_|⟨y2,l⟩⟩<;>simp[L9,Bmh,h1,h2];cases l<;>simp[Bmh]
 |lt a nm x1 x2 h1 h2=>intro y;rw[Bc7,Bc7,hk,hk,hd,hd];rcases L9 y with _|⟨y1,_|⟨y2,l⟩⟩<;>simp[L9,Bmh,h1,h2];cases l<;>simp[Bmh]
 |un k a nm n x1 h1=>intro y;rw[Bc7,Bc7,hk,hk,hd,hd];rcases L9 y with _|⟨y1,l⟩<;>simp[L9,Bmh,h1];cases l<;>simp[Bmh]
section
variable{may:List UInt8→Bool}{gn:List UInt8→Int × Bool}(hM:∀t,may t=true→Bl.contains t=false∧Bkp t)(hG:∀t n,gn t=(n,true)→0≤n∧P7 n.toNat=t∧Bkp t)
include hM hG
theorem Bsr{a b c:List UInt8}{k l:Int}(ha:may a=true)(hb:may b=true)(hc:may c=true)(hla:a.length≤30)(hlb:b.length≤30)(hlc:c.length≤30)(hk:k=3∨k=4∨k=5)(hl:l=3∨l=4∨l=5):
  ∃p q r,Qx may gn (a++(32::sgB k::32::(b++(32::sgB l::32::c))))= .ok p∧Qx may gn (40::(a++(32::sgB k::32::(b++(41::32::sgB l::32::c)))))= .ok q∧Qx may gn (a++(32::sgB k::32::40::(b++(32::sgB l::32::(c++ [41])))))= .ok r∧eqQ p q=true∧eqQ p r=false:=by
 have sk:Bmf k=true:=by rcases hk with rfl|rfl|rfl<;>rfl
 have sl:Bmf l=true:=by rcases hl with rfl|rfl|rfl<;>rfl
 have k5:∀m:Int,m=3∨m=4∨m=5→m=3∨m=4∨m=5∨m=8∨m=9:=fun m hm=>by omega
 have o12:Aem (Bj7 may gn) (.bin k 0 (lab a) (lab b)):=⟨k5 k hk,ha,hb⟩;have o23:Aem (Bj7 may gn) (.bin l 0 (lab b) (lab c)):=⟨k5 l hl,hb,hc⟩;have o1:Aem (Bj7 may gn) (.bin l 0 (.bin k 0 (lab a) (lab b)) (lab c)):=⟨k5 l hl,o12,hc⟩;have o3:Aem (Bj7 may gn) (.bin k 0 (lab a) (.bin l 0 (lab b) (lab c))):=⟨k5 k hk,ha,o23⟩;have e1:Asz (.bin l 0 (.bin k 0 (lab a) (lab b)) (lab c))=a++(32::sgB k::32::(b++(32::sgB l::32::c))):=by simp[Asz,sk,sl,inP,Asy,Aud,lab,Bqg]
 have e3:Asz (.bin k 0 (lab a) (.bin l 0 (lab b) (lab c)))=a++(32::sgB k::32::40::(b++(32::sgB l::32::(c++ [41])))):=by simp[Asz,sk,sl,inP,Asy,Aud,lab,Bqg]
 have l1:(a++(32::sgB k::32::(b++(32::sgB l::32::c)))).length≤400:=by simp only[List.length_append,List.length_cons];omega
 have l3:(a++(32::sgB k::32::40::(b++(32::sgB l::32::(c++ [41]))))).length≤400:=by simp only[List.length_append,List.length_cons,List.length_nil];omega
 obtain⟨p,hp,hp2⟩:=Bo8 hM hG o1 (by simp[Df,lab]) (by rw[e1];exact l1)
 obtain⟨r,hr,hr2⟩:=Bo8 hM hG o3 (by simp[Df,lab]) (by rw[e3];exact l3)
 rw[e1]at hp;rw[e3]at hr;have t12:=Bp6 (fun t ht=>(hM t ht).2) hG o12;have tc:Bkp c:=(hM c hc).2;have hS:∀(b:List UInt8),Aqf (sgB l::32::b) (32::b) [sgW l]:=fun b=>by
  rcases hl with rfl|rfl|rfl
  ·exact Aqf.sign rfl rfl rfl rfl rfl
  ·exact Aqf.sign rfl rfl rfl rfl rfl
  ·exact Aqf.name (w:= [45]) (Bix rfl) rfl
 have hx:Aqf (40::(a++(32::sgB k::32::(b++(41::32::sgB l::32::c))))) [] (inW true (toks (.bin k 0 (lab a) (lab b)))++(sgW l::toks (lab c))):=by
  have h1:=Bog (b:=true) (Bjc _ t12) (32::sgB l::32::c) rfl;rw[show inP true (Asz (.bin k 0 (lab a) (lab b)))++(32::sgB l::32::c)=40::(a++(32::sgB k::32::(b++(41::32::sgB l::32::c))))from by simp[Asz,sk,inP,Asy,Aud,lab,Bqg]]at h1
  refine h1.trans (Aqf.sp ((hS c).cons (Aqf.sp ?_)));have:=Aqf.name (r:= []) tc rfl;rw[List.append_nil]at this;exact this
 have hlx:Biy (40::(a++(32::sgB k::32::(b++(41::32::sgB l::32::c)))))=some (inW true (toks (.bin k 0 (lab a) (lab b)))++(sgW l::toks (lab c))):=by unfold Aqf at hx;rw[hx];show some (_++ [])=_;rw[List.append_nil]
 have hM1:=fun t ht=>(hM t ht).1;have hG1:∀t n,gn t=(n,true)→0≤n∧P7 n.toNat=t:=fun t n ht=>⟨(hG t n ht).1,(hG t n ht).2.1⟩;obtain⟨q,hq,hq2⟩:=Bkj (may:=may) (gn:=gn) (x':= .bin l 0 (.bin k 0 (lab a) (lab b)) (lab c)) (by
  simp only[List.length_append,List.length_cons];omega) hlx (fun L=>by
   have r12:=Bj4 (L:=L) hM1 hG1 _ o12;have rc:=Bj4 (L:=L) hM1 hG1 (lab c) hc;generalize hn:4*(inW true (toks (.bin k 0 (lab a) (lab b)))++(sgW l::toks (lab c))).length+4=n;have hn2:12≤n:=by rw[← hn];simp only[List.length_append,List.length_cons];have:=Bgf (gn:=gn) _ o12;simp only[inW,if_true,List.length_cons,List.length_append,lab,toks,Df]at this ⊢;omega
   clear hn;obtain⟨n,rfl⟩:∃m,n=m+2:=⟨n - 2,by omega⟩
   have d12:Df (.bin k 0 (lab a) (lab b))=2:=by simp[Df,lab]
   have i12:=Bm3 (b:=true) (n:=n) (ws:=sgW l::toks (lab c)) r12 (by omega) (by simp) (by omega)
   have ic:=Bm3 (b:=false) (n:=n) (ws:= []) rc (by simp[Df,lab]) (fun _=>⟨rfl,rfl⟩) (by simp[Df,lab];omega)
   unfold Fe;rw[show Ry L ⟨inW true (toks (.bin k 0 (lab a) (lab b)))++(sgW l::toks (lab c)),none⟩ 1 Ib=false from Boq _ _ _];simp only[BF];unfold Uv;rw[i12];show Kw L (Jv L may gn n) (1898+1+1) _ ⟨sgW l::toks (lab c),none⟩=_;rw[Kw,Bri _ hl,if_neg (by omega)]
   show(match Jv L may gn n ⟨toks (lab c),none⟩with
    |none=>none
    |some (y',s2)=>Kw L (Jv L may gn n) (1898+1) (.bin l (sgW l).at_ (shQ Bdd (.bin k 0 (lab a) (lab b))) y') s2)=_
   rw[show toks (lab c)=inW false (toks (lab c))++ []from by simp[inW],ic,Brf]
   show Kw L (Jv L may gn n) (1898+1) _ ⟨[],none⟩=_;rw[Kw,Bp9,if_pos rfl];rfl) (by simp[Df,lab])
 refine⟨p,q,r,hp,hq,hr,Bos (hp2.trans ?_),?_⟩
 ·show _=shQ Bdd q;rw[hq2];rfl
 ·rw[← Bq7 Bdd Bdd p r,hp2,hr2,Bq7];rw[Bc7];have:Bmh (L9 (.bin l 0 (.bin k 0 (lab a) (lab b)) (lab c))) (L9 (.bin k 0 (lab a) (.bin l 0 (lab b) (lab c))))=false:=by
   have h1:eqQ (.bin k 0 (lab a) (lab b)) (lab a)=false:=by
    rw[Bc7];have:(Bc5 (.bin k 0 (lab a) (lab b)) == Bc5 (lab a))=false:=by rw[beq_eq_false_iff_ne];intro h;have h2:k=1:=congrArg Prod.fst h;omega
    rw[this];rfl
   show(eqQ (.bin k 0 (lab a) (lab b)) (lab a) && _)=false;rw[h1];rfl
  rw[this,Bool.and_false]
end
section
variable{st:St}
theorem B35(a b c d:Obj):(st++ [a,b,c,d]).length=st.length+4:=by simp
theorem B36(a b c d e:Obj):(st++ [a,b,c,d,e]).length=st.length+5:=by simp
theorem B4a(a b c d e:Obj):st++ [a,b,c,d]++ [e]=st++ [a,b,c,d,e]:=by simp
theorem B4c(a b c d e f:Obj):st++ [a,b,c,d,e]++ [f]=st++ [a,b,c,d,e,f]:=by simp
theorem B28{cs z:List D}{o p q r:Obj}{os:List Obj}(hz:z.length=7)(h:cs.length=7)(h2:cs.all Al=true):I4 prog 30 (.ptr (st.length+4) 0) (.agg cs) (st++o::p::q::r:: .cells z::os)=some (.undef,st++o::p::q::r:: .cells cs::os,[st.length+4]):=by unfold I4;simp[Wp,h,h2,hz,D.cells,List.getElem?_append_right,List.set_append_right]
theorem B2y{c a:Int}{z:List D}{o p q r u:Obj}{os:List Obj}(hz:z.length=2):I4 prog 33 (.ptr (st.length+5) 0) (.agg [.int .i64 c,.int .i64 a]) (st++o::p::q::r::u:: .cells z::os)=some (.undef,st++o::p::q::r::u:: .cells [.int .i64 c,.int .i64 a]::os,[st.length+5]):=by unfold I4;simp[Boc,hz,D.cells,Al,List.getElem?_append_right,List.set_append_right]
theorem B2z{c a:Int}{o p q r u:Obj}{os:List Obj}:Fp prog 31 (.ptr (st.length+5) 0) (st++o::p::q::r::u:: .cells [.int .i64 c,.int .i64 a]::os)=some (.int .i64 c,.rd [st.length+5]):=by unfold Fp Dk;simp[Bo2,Bpj,List.getElem?_append_right]
theorem B26{cs:List D}{o p q r:Obj}{os:List Obj}(h:cs.length=7):Fp prog 30 (.ptr (st.length+4) 0) (st++o::p::q::r:: .cells cs::os)=some (.agg cs,.rd [st.length+4]):=by unfold Fp Dk;simp[Wp,Bb3,h,List.getElem?_append_right];rw[List.take_of_length_le (by omega)]
end
theorem B3o:C1.ords 3 8=some (List.range 16,true):=by kernel_rfl
theorem elL:Cx prog 23=some 9:=by kernel_rfl
theorem szL:Bw prog 9=some 1:=by kernel_rfl
theorem zoL:zeroOf prog 9=some [.str []]:=by kernel_rfl
theorem agL:Jg prog 9=false:=by kernel_rfl
theorem unL:prog.underlying 23=some (.slice 9):=underlying23
theorem B1q(x:Int):∃i:Nat,i<3∧(x.tmod 3+3).tmod 3=(i:Int)∧ -3≤x.tmod 3∧x.tmod 3≤3:=by
 have h1: -3<x.tmod 3:=by have:=Int.lt_tmod_of_pos x (show(0:Int)<3 by decide);omega
 have h2:x.tmod 3<3:=Int.tmod_lt_of_pos x (by decide)
 have h3:0≤(x.tmod 3+3).tmod 3:=Int.tmod_nonneg _ (by omega)
 have h4:(x.tmod 3+3).tmod 3<3:=Int.tmod_lt_of_pos _ (by decide)
 exact⟨((x.tmod 3+3).tmod 3).toNat,by omega,by omega,by omega,by omega⟩
theorem B1l(x:Int):Bo prog .rem 3 (.int .i64 x) (.int .i64 3)=some (.int .i64 (x.tmod 3)):=by
 show Ai (Op.intDiv .rem .i64 x 3)=_;unfold Op.intDiv;rw[if_neg (by omega)]
 rfl
theorem iaL(i:Nat)(hi:i<3):Cf prog 23 (.sl [[.str [43]],[.str [94]],[.str [45]]] .exact) (.int .i64 (i:Int))=some (.eptr [.str [sgB ((i:Int)+3)]],.pure):=by
 unfold Cf;rw[Ash,unL]
 match i,hi with
 |0,_=>simp[szL,sgB]
 |1,_=>simp[szL,sgB]
 |2,_=>simp[szL,sgB]
theorem ldL(t:List UInt8)(st:St):Fp prog 9 (.eptr [.str t]) st=some (.str t,.pure):=by unfold Fp Dk;simp[szL,agL]
set_option maxHeartbeats 32000000 in
theorem B25{cf:Ah}{N:Nat}(h5:Ao cf 5 [] (.bool true))(h6:∀t:List UInt8,Ao cf 6 [.str t,.int .i64 30] (.str (t.take 30)))(h7:∀t:List UInt8,Ao cf 7 [.str t] (.bool (nmP t)))(h8:∀t:List UInt8,Ao cf 8 [.str t] (Aaw (Qx nmP gnP t)))
  (h9:∀(t:List UInt8) (x y:Qy),Qx nmP gnP t= .ok x→Ao cf 9 [.agg (Br x),.agg (Br y)] (.bool (eqQ x y)))(s t u:List UInt8)(x y:Int):Ao (run C1 cf N) 3 [.str s,.str t,.str u,.int .i64 x,.int .i64 y] (.bool true):=fun st=>by
 have hP:C1.P=prog:=rfl;have hc5:∀st,G6 C1 cf 5 [] [] [] st=some (.bool true,st,[]):=fun st=>Amz (by kernel_rfl) rfl rfl (h5 st)
 have hs1:∀st,G6 C1 cf 6 [] [] [.str s,.int .i64 30] st=some (.str (s.take 30),st,[]):=fun st=>Amz (by kernel_rfl) rfl rfl (h6 s st)
 have hs2:∀st,G6 C1 cf 6 [] [] [.str t,.int .i64 30] st=some (.str (t.take 30),st,[]):=fun st=>Amz (by kernel_rfl) rfl rfl (h6 t st)
 have hs3:∀st,G6 C1 cf 6 [] [] [.str u,.int .i64 30] st=some (.str (u.take 30),st,[]):=fun st=>Amz (by kernel_rfl) rfl rfl (h6 u st)
 have la:(s.take 30).length≤30:=by rw[List.length_take];omega
 have lb:(t.take 30).length≤30:=by rw[List.length_take];omega
 have lc:(u.take 30).length≤30:=by rw[List.length_take];omega
 generalize s.take 30=a at hs1 la;generalize t.take 30=b at hs2 lb;generalize u.take 30=c at hs3 lc;have n1:∀st,G6 C1 cf 7 [] [] [.str a] st=some (.bool (nmP a),st,[]):=fun st=>Amz (by kernel_rfl) rfl rfl (h7 a st)
 have n2:∀st,G6 C1 cf 7 [] [] [.str b] st=some (.bool (nmP b),st,[]):=fun st=>Amz (by kernel_rfl) rfl rfl (h7 b st)
 have n3:∀st,G6 C1 cf 7 [] [] [.str c] st=some (.bool (nmP c),st,[]):=fun st=>Amz (by kernel_rfl) rfl rfl (h7 c st)
 refine Bj9 func3 (bdy (by kernel_rfl)) rfl rfl rfl ?_
 generalize he:(([.str s,.str t,.str u,.int .i64 x,.int .i64 y]:List D)++List.replicate (Tryz.f3.ntmps - ([.str s,.str t,.str u,.int .i64 x,.int .i64 y]:List D).length) .undef)=e;have hl:e.length=135:=by rw[← he];rfl
 have e0:e.getD 0 .undef= .str s:=by rw[← he];rfl
 have e1:e.getD 1 .undef= .str t:=by rw[← he];rfl
 have e2:e.getD 2 .undef= .str u:=by rw[← he];rfl
 have e3:e.getD 3 .undef= .int .i64 x:=by rw[← he];rfl
 have e4:e.getD 4 .undef= .int .i64 y:=by rw[← he];rfl
 clear he;refine Bj8 ?_;obtain⟨code,hcode⟩:∃code,code=strip (bd Tryz.f3):=⟨_,rfl⟩;rw[← hcode];simp only[bd,Tryz.f3,strip,Dl,List.map_toArray,MC]at hcode;subst hcode;have sp3:∀(st:St) (a b c:List UInt8),Fs st [(0,.str a),(1,.str b),(2,.str c)]=some [(0,.str a),(1,.str b),(2,.str c)]:=fun _ _ _ _=>rfl;by_cases hn:nmP a=true∧nmP b=true∧nmP c=true
 ·obtain⟨ha,hb,hc⟩:=hn;rw[ha]at n1;rw[hb]at n2;rw[hc]at n3;obtain⟨i,hi,mi,m1,m2⟩:=B1q x;obtain⟨j,hj,mj,m3,m4⟩:=B1q y;have r1:=B1l x;have r2:=B1l y;have r3:Bo prog .add 3 (.int .i64 (x.tmod 3)) (.int .i64 3)=some (.int .i64 (x.tmod 3+3)):=Br2 (n:=3) (by omega) (by omega) (by omega)
  have r4:Bo prog .add 3 (.int .i64 (y.tmod 3)) (.int .i64 3)=some (.int .i64 (y.tmod 3+3)):=Br2 (n:=3) (by omega) (by omega) (by omega)
  have r5:=B1l (x.tmod 3+3);have r6:=B1l (y.tmod 3+3);rw[mi]at r5;rw[mj]at r6;have i1:=iaL i hi;have i2:=iaL j hj;obtain⟨p,q,r,hp,hq,hr,hpq,hpr⟩:=Bsr (may:=nmP) (gn:=gnP) (fun t ht=>Bzt ht) B0c (a:=a) (b:=b) (c:=c) (k:=(i:Int)+3) (l:=(j:Int)+3) ha hb hc la lb lc (by omega) (by omega)
  generalize hk: [sgB ((i:Int)+3)]=K at i1;generalize hm: [sgB ((j:Int)+3)]=M at i2;have lk:K.length=1:=by rw[← hk];rfl
  have lm:M.length=1:=by rw[← hm];rfl
  have ad:∀x y:List UInt8,x.length≤500→y.length≤500→Bo prog .add 9 (.str x) (.str y)=some (.str (x++y)):=fun x y h1 h2=>by show(if x.length+y.length<2 ^ 40 then some (D.str (x++y))else none)=_;rw[if_pos (by omega)]
  have a1:=ad a [32] (by omega) (by decide)
  have a2:=ad (a++ [32]) K (by simp only[List.length_append,List.length_cons,List.length_nil];omega) (by omega)
  have a3:=ad (a++ [32]++K) [32] (by simp only[List.length_append,List.length_cons,List.length_nil];omega) (by decide)
  have a4:=ad (a++ [32]++K++ [32]) b (by simp only[List.length_append,List.length_cons,List.length_nil];omega) (by omega)
  have a5:=ad (a++ [32]++K++ [32]++b) [32] (by simp only[List.length_append,List.length_cons,List.length_nil];omega) (by decide)
  have a6:=ad (a++ [32]++K++ [32]++b++ [32]) M (by simp only[List.length_append,List.length_cons,List.length_nil];omega) (by omega)
  have a7:=ad (a++ [32]++K++ [32]++b++ [32]++M) [32] (by simp only[List.length_append,List.length_cons,List.length_nil];omega) (by decide)
  have a8:=ad (a++ [32]++K++ [32]++b++ [32]++M++ [32]) c (by simp only[List.length_append,List.length_cons,List.length_nil];omega) (by omega)
  have b1:=ad [40] a (by decide) (by omega)
  have b2:=ad ([40]++a) [32] (by simp only[List.length_append,List.length_cons,List.length_nil];omega) (by decide)
  have b3:=ad ([40]++a++ [32]) K (by simp only[List.length_append,List.length_cons,List.length_nil];omega) (by omega)
  have b4:=ad ([40]++a++ [32]++K) [32] (by simp only[List.length_append,List.length_cons,List.length_nil];omega) (by decide)
  have b5:=ad ([40]++a++ [32]++K++ [32]) b (by simp only[List.length_append,List.length_cons,List.length_nil];omega) (by omega)
  have b6:=ad ([40]++a++ [32]++K++ [32]++b) [41,32] (by simp only[List.length_append,List.length_cons,List.length_nil];omega) (by decide)
  have b7:=ad ([40]++a++ [32]++K++ [32]++b++ [41,32]) M (by simp only[List.length_append,List.length_cons,List.length_nil];omega) (by omega)
  have b8:=ad ([40]++a++ [32]++K++ [32]++b++ [41,32]++M) [32] (by simp only[List.length_append,List.length_cons,List.length_nil];omega) (by decide)
  have b9:=ad ([40]++a++ [32]++K++ [32]++b++ [41,32]++M++ [32]) c (by simp only[List.length_append,List.length_cons,List.length_nil];omega) (by omega)
  have c3:=ad (a++ [32]++K) [32,40] (by simp only[List.length_append,List.length_cons,List.length_nil];omega) (by decide)
  have c4:=ad (a++ [32]++K++ [32,40]) b (by simp only[List.length_append,List.length_cons,List.length_nil];omega) (by omega)
  have c5:=ad (a++ [32]++K++ [32,40]++b) [32] (by simp only[List.length_append,List.length_cons,List.length_nil];omega) (by decide)
  have c6:=ad (a++ [32]++K++ [32,40]++b++ [32]) M (by simp only[List.length_append,List.length_cons,List.length_nil];omega) (by omega)
  have c7:=ad (a++ [32]++K++ [32,40]++b++ [32]++M) [32] (by simp only[List.length_append,List.length_cons,List.length_nil];omega) (by decide)
  have c8:=ad (a++ [32]++K++ [32,40]++b++ [32]++M++ [32]) c (by simp only[List.length_append,List.length_cons,List.length_nil];omega) (by omega)
  have c9:=ad (a++ [32]++K++ [32,40]++b++ [32]++M++ [32]++c) [41] (by simp only[List.length_append,List.length_cons,List.length_nil];omega) (by decide)
  have p1:∀st,G6 C1 cf 8 [] [] [.str (a++ [32]++K++ [32]++b++ [32]++M++ [32]++c)] st=some (.tup [.agg (Br p),.agg [.int .i64 0,.int .i64 0]],st,[]):=fun st=>by
   have h:=h8 (a++(32::sgB ((i:Int)+3)::32::(b++(32::sgB ((j:Int)+3)::32::c)))) st;rw[hp]at h;rw[show a++ [32]++K++ [32]++b++ [32]++M++ [32]++c=a++(32::sgB ((i:Int)+3)::32::(b++(32::sgB ((j:Int)+3)::32::c)))from by rw[← hk,← hm];simp]
   exact Amz (by kernel_rfl) rfl rfl h
  have p2:∀st,G6 C1 cf 8 [] [] [.str ([40]++a++ [32]++K++ [32]++b++ [41,32]++M++ [32]++c)] st=some (.tup [.agg (Br q),.agg [.int .i64 0,.int .i64 0]],st,[]):=fun st=>by
   have h:=h8 (40::(a++(32::sgB ((i:Int)+3)::32::(b++(41::32::sgB ((j:Int)+3)::32::c))))) st;rw[hq]at h;rw[show[40]++a++ [32]++K++ [32]++b++ [41,32]++M++ [32]++c=40::(a++(32::sgB ((i:Int)+3)::32::(b++(41::32::sgB ((j:Int)+3)::32::c))))from by rw[← hk,← hm];simp]
   exact Amz (by kernel_rfl) rfl rfl h
  have p3:∀st,G6 C1 cf 8 [] [] [.str (a++ [32]++K++ [32,40]++b++ [32]++M++ [32]++c++ [41])] st=some (.tup [.agg (Br r),.agg [.int .i64 0,.int .i64 0]],st,[]):=fun st=>by
   have h:=h8 (a++(32::sgB ((i:Int)+3)::32::40::(b++(32::sgB ((j:Int)+3)::32::(c++ [41]))))) st;rw[hr]at h;rw[show a++ [32]++K++ [32,40]++b++ [32]++M++ [32]++c++ [41]=a++(32::sgB ((i:Int)+3)::32::40::(b++(32::sgB ((j:Int)+3)::32::(c++ [41]))))from by rw[← hk,← hm];simp]
   exact Amz (by kernel_rfl) rfl rfl h
  have q1:∀st,G6 C1 cf 9 [] [] [.agg (Br p),.agg (Br q)] st=some (.bool true,st,[]):=fun st=>by have h:=h9 _ p q hp st;rw[hpq]at h;exact Amz (by kernel_rfl) rfl (Bvi p q st) h
  have q2:∀st,G6 C1 cf 9 [] [] [.agg (Br p),.agg (Br r)] st=some (.bool false,st,[]):=fun st=>by have h:=h9 _ p r hp st;rw[hpr]at h;exact Amz (by kernel_rfl) rfl (Bvi p r st) h
  have hV1:∀id∈ [st.length],st.length≤id:=by simp
  have hV2:∀id∈ [st.length+1],st.length≤id:=by simp
  have hV3:∀id∈ [st.length+2],st.length≤id:=by simp
  have hV4:∀id∈ [st.length+3],st.length≤id:=by simp
  have hV5:∀id∈ [st.length+4],st.length≤id:=by simp
  have hV6:∀id∈ [st.length+5],st.length≤id:=by simp
  have v1:=fun os=> @Btk st (Br p) [.int .i64 0,.int .i64 0,.bool false,.str [],.str [],.int .i64 0,.nilsl] os rfl (Su p) (Kq p);have v2:=fun o os=> @Btp st 0 0 [.int .i64 0,.int .i64 0] o os rfl;have v3:=fun o p os=> @Btn st (Br q) [.int .i64 0,.int .i64 0,.bool false,.str [],.str [],.int .i64 0,.nilsl] o p os rfl (Su q) (Kq q);have v4:=fun o p q os=> @Btq st 0 0 [.int .i64 0,.int .i64 0] o p q os rfl;have v5:=fun o p q u os=> @B28 st (Br r) [.int .i64 0,.int .i64 0,.bool false,.str [],.str [],.int .i64 0,.nilsl] o p q u os rfl (Su r) (Kq r);have v6:=fun o p q r u os=> @B2y st 0 0 [.int .i64 0,.int .i64 0] o p q r u os rfl;have w1:=fun os=> @Bvj st (Br p) os (Su p);have w3:=fun o p os=> @Bu6 st (Br q) o p os (Su q);have w5:=fun o p q u os=> @B26 st (Br r) o p q u os (Su r);have z0:Bo prog .eql 31 (.int .i64 0) (.int .i64 0)=some (.bool true):=rfl
  repeat (first
   |refine A00 ?_|refine Asu ?_|refine Bkx ?_|refine Awr ?_|refine Avq ?_|refine Ay7 ?_|refine Bq (by decide) ?_|refine Eg rfl rfl ?_|refine Axw ?_|refine Bn3 rfl rfl ?_|refine Blq B3o ?_|refine Zc (by first|exact hV1|exact hV2|exact hV3|exact hV4|exact hV5|exact hV6|(simp;done)) ?_
   |((first|refine Ei rfl rfl rfl rfl ?_|refine Ee rfl rfl ?_|refine Ed rfl rfl ?_|refine Bm5 rfl rfl rfl rfl ?_|refine Bnn rfl rfl ?_|refine Bnt rfl rfl ?_|refine Bni ?_);refine⟨_,by simp only[Bj,BB,Af,ev,Am,Ak,Ag,Gc,Ai,↓reduceIte,Nat.reduceEqDiff,Nat.reduceLT,Aj,hP,hl,e0,e1,e2,e3,e4,hc5,hs1,hs2,hs3,n1,n2,n3,elL,szL,zoL,sp3,r1,r2,r3,r4,r5,r6,i1,i2,ldL,a1,a2,a3,a4,a5,a6,a7,a8,b1,b2,b3,b4,b5,b6,b7,b8,b9,c3,c4,c5,c6,c7,c8,c9,p1,p2,p3,q1,q2,Bnh,Bns,ln1,ln2,ln3,B35,B36,ap2,ap3,ap4,B4a,B4c,v1,v2,v3,v4,v5,v6,w1,w3,w5,Bs4,Bs5,B2z,Bo7,z0];first|done|exact i1|exact i2|rfl,?_⟩)
   |dsimp only)
  refine⟨rfl,?_,[_,_,_,_,_,_],rfl⟩;show Gm C1.P _ _ [.tmp 10]=_;simp only[Gm,BB,Am,hl,Nat.reduceEqDiff,↓reduceIte,Nat.reduceLT]
 ·generalize nmP a=na at n1 hn;generalize nmP b=nb at n2 hn;generalize nmP c=nc at n3 hn;cases na<;>cases nb<;>cases nc<;>first|(exact absurd ⟨rfl,rfl,rfl⟩ hn)|skip
  all_goals
   repeat (first
    |refine A00 ?_|refine Asu ?_|refine Bkx ?_|refine Awr ?_|refine Avq ?_|refine Ay7 ?_|refine Bq (by decide) ?_|refine Eg rfl rfl ?_|refine Zc (by first|(simp;done)) ?_
    |((first|refine Ei rfl rfl rfl rfl ?_|refine Ee rfl rfl ?_|refine Ed rfl rfl ?_|refine Bni ?_);refine⟨_,by simp only[Bj,BB,Af,ev,Am,Ak,Ag,Gc,Ai,↓reduceIte,Nat.reduceEqDiff,Nat.reduceLT,Aj,hP,hl,e0,e1,e2,hc5,hs1,hs2,hs3,n1,n2,n3,elL,szL,zoL,sp3];first|done|rfl,?_⟩)
    |dsimp only)
   refine⟨rfl,?_,[],by simp⟩
   show Gm C1.P _ _ [.tmp 10]=_;simp only[Gm,BB,Am,hl,Nat.reduceEqDiff,↓reduceIte,Nat.reduceLT]
theorem B21(hK:∀n f,Ba (CF n f))(s t u:List UInt8)(x y:Int):Ao (CF 4009) 3 [.str s,.str t,.str u,.int .i64 x,.int .i64 y] (.bool true):=
 pS rfl (B25 (Bdq _) (fun t=>pS rfl (A8a (hK _) t 30)) (fun t=>Bia hK 4005 t) (A8v hK) (fun t x y hx=>Bvm hK 30 3948 x y (Arn hx)) s t u x y)
theorem B3q{g:G}(s t u:ByteArray)(x y:Int):F8 g [.str s.data.toList,.str t.data.toList,.str u.data.toList,.int .i64 x,.int .i64 y] #[.string s,.string t,.string u,.int .i64 x,.int .i64 y]:=⟨rfl,fun j d v h h'=>by
 match j with
 |0=>cases h;cases h';exact VR.str s
 |1=>cases h;cases h';exact VR.str t
 |2=>cases h;cases h';exact VR.str u
 |3=>cases h;cases h';exact VR.int _ _
 |4=>cases h;cases h';exact VR.int _ _
 |j+5=>cases h⟩
theorem B3p{W:World}(hL:A6p W)(s t u:ByteArray)(x y:Int):Calls prog 3 #[.string s,.string t,.string u,.int .i64 x,.int .i64 y] W fun e W'=>e= .returned (.bool true)∧Aps W W':=by refine(At2 hL (fun hK=>B21 hK s.data.toList t.data.toList u.data.toList x y) (B3q s t u x y)).mono ?_;rintro e W' ⟨r,g',rfl,hv,hk⟩;cases hv;exact⟨rfl,hk⟩
end Go.Vam
