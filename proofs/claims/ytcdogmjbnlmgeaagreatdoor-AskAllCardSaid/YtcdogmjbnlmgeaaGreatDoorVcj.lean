/-
  AskAll's function answers true.
-/
import Derived.Test.YtcdogmjbnlmgeaaGreatDoorVci
import Derived.Test.YtcdogmjbnlmgeaaGreatDoorVau
set_option linter.unusedSimpArgs false
set_option linter.unusedVariables false
set_option linter.unusedSectionVars false
set_option maxRecDepth 1000000
namespace Go.Vam
open Go.Proofs Go.Proofs.Tryz
noncomputable def Rv:FuncId→Option Bz:=fun f=>
 if f=9 then some (Im Np)else if f=181 then some Ew else if f=255 then some Sg else if f=259 then some Sb
 else if f=263 then some Ads else if f=265 then some Ru else none
theorem Asm{β:Nat→Nat→Option Value}(hM:I6 β)(hT:Aw0 β)(hE:A6b β):Ww C1 β Rv:=by
 have h9:∀r∈Np,Akr prog β 9 r.1 r.2:=A1r hM (9,Np) (by simp[Bfx,A4f])
 refine⟨fun f nt h cf hX=>?_,fun f nt h cf hk=>?_⟩
 ·unfold Rv at h;split at h
  ·rename_i hf;cases h;rw[hf];exact Qg h9 cf
  split at h
  ·rename_i hf;cases h;rw[hf];exact N8 cf
  split at h
  ·rename_i hf;cases h;rw[hf];exact Aep hM cf
  split at h
  ·rename_i hf;cases h;rw[hf];exact Aew cf
  split at h
  ·rename_i hf;cases h;rw[hf];exact Ak9 hT hE cf
  split at h
  ·rename_i hf;cases h;rw[hf];exact Ae5 cf
  ·cases h
 ·unfold Rv at h;split at h
  ·cases h;exact Ou cf
  split at h
  ·cases h;exact Nl cf
  split at h
  ·cases h;exact Adz cf
  split at h
  ·cases h;exact Adb cf
  split at h
  ·cases h;exact Ahn cf
  split at h
  ·cases h;exact Adf cf
  ·cases h
noncomputable abbrev CF(n:Nat):Ah:=Ii C1 Rv 2000 n
variable{n:Nat}
theorem pS{f:FuncId}{xs:List D}{v:D}(h:Rv f=none)(hp:Ao (run C1 (CF n) 2000) f xs v):Ao (CF (n+1)) f xs v:=fun st=>by rw[show CF (n+1) f xs st=run C1 (CF n) 2000 f xs st from Qd h];exact hp st
theorem mS{f:FuncId}{xs:List (Option D)}{cs cs':List D}{v:D}(h:Rv f=none)(hp:Acn (run C1 (CF n) 2000) f xs cs v cs'):Acn (CF (n+1)) f xs cs v cs':=fun st id hi=>by obtain⟨W,h1,h2⟩:=hp st id hi;exact⟨W,(Qd h).trans h1,h2⟩
theorem Ark{f:FuncId}{g:Bz}{xs:List D}{v:D}(h:Rv f=some g)(hv:∀cf st,g cf xs st=some (v,st,[])):Ao (CF (n+1)) f xs v:=fun st=>by
 show(match Rv f with|some g=>g (CF n) xs st|none=>run C1 (CF n) 2000 f xs st)=_
 rw[h];exact hv _ _
theorem Aku(b:UInt8):∀(l:List UInt8) (i:Nat),Ahz b l i=match l.findIdx? (· == b)with
  |some j=>((i+j:Nat):Int)
  |none=> -1
 | [],i=>rfl
 |x::l,i=>by
  unfold Ahz;rw[List.findIdx?_cons];have hb:Nat.beq x.toNat b.toNat=(x == b):=by rw[Bool.eq_iff_iff,Nat.beq_eq,beq_iff_eq,UInt8.toNat_inj]
  rw[hb];cases x == b with
  |true=>simp
  |false=>
   simp only[BF];rw[Aku b l (i+1)];cases l.findIdx? (· == b)with
   |none=>rfl
   |some j=>show((i+1+j:Nat):Int)=((i+(j+1):Nat):Int);omega
section
variable(hK:∀n f,Ba (CF n f))
theorem Bh4(n:Nat)(t:List UInt8)(b:UInt8):Ao (CF (n+1)) 181 [.str t,.int .u8 (b.toNat:Int)] (.int .i64 (Gv t b)):=Ark rfl fun cf st=>by
 show some (D.int .i64 (Ahz (byteOf (b.toNat:Int)) t 0),st,([]:Cb))=_;rw[show byteOf (b.toNat:Int)=b from by simp[byteOf],Aku]
 unfold Gv;cases t.findIdx? (· == b)<;>simp
include hK
theorem Bbb(n:Nat)(t:List UInt8)(b:UInt8):Ao (CF (n+2)) 121 [.str t,.int .u8 (b.toNat:Int)] (.int .i64 (Gv t b)):=pS rfl (by
 refine Cg (hK (n+1)) func121 (bdy (by kernel_rfl)) rfl rfl rfl (Bdk _ _) ?_
 refine Aw rfl (Bh4 n t b) ?_;simp only[Ab];exact Bf rfl)
theorem a66(n:Nat)(s:List UInt8)(i:Nat)(hi:i≤s.length)(hs:s.length<900):Ao (CF (n+3)) 66 [.str s,.int .i64 (i:Int)] (.int .i64 ((i+Db false (s.drop i):Nat):Int)):=
 pS rfl (Bb4 (hK _) (Bbb hK n) s i hi (by omega) (by decide))
theorem Bgi(n:Nat)(b:UInt8):Ao (CF (n+1)) 122 [.int .u8 (b.toNat:Int)] (.bool (De b)):=pS rfl (A5b (hK _) b)
theorem a182(n:Nat)(t:List UInt8)(ht:t.length<1000):Ao (CF (n+3)) 182 [.str t] (Ai6 (Ht t)):=pS rfl (Azl (hK _) (Bbb hK n) t ht)
theorem Bgx(n:Nat)(s:List UInt8)(i:Nat)(hi:i≤s.length)(hs:s.length<900):Ao (CF (n+4)) 123 [.str s,.int .i64 (i:Int)] (txD ((Dv (s.length - i+1) (s.drop i)).map fun p=>(p.1,i+p.2))):=
 pS rfl (Ayd (hK _) (a182 hK n) s i hi hs (by decide))
theorem a67(n:Nat)(s:List UInt8)(i:Nat)(hi:i<s.length)(hs:s.length<900):∃v,WdV s i v∧Ao (CF (n+5)) 67 [.str s,.int .i64 (i:Int)] v:=by
 obtain⟨v,h1,h2⟩:=A62 (N:=2000) (hK _) (Bbb hK (n+2)) (Bgi hK (n+3)) (Bgx hK n) s i hi hs (by decide)
 exact⟨v,h1,pS rfl h2⟩
theorem a29(n:Nat)(s:List UInt8)(hs:s.length<900):Ao (CF (n+6)) 29 [.str s] (Uy s.length (Y8 s)):=pS rfl (Bbd (hK _) (a66 hK (n+2)) (a67 hK n) s hs (by decide))
omit hK in
theorem Bgk(n:Nat)(t:List UInt8)(ht:t.length≤1000):Ao (CF (n+1)) 255 [.str t,.str [47]] (.sl (Lf (Bd t)) .none):=Ark rfl fun cf st=>by show(if t.length<4294967281 then some (D.sl (Lf (Bd t)) .none,st,([]:Cb))else none)=_;rw[if_pos (by omega)]
theorem a229(n:Nat)(t:List UInt8)(ht:t.length≤1000):Ao (CF (n+2)) 229 [.str t] (.sl (Lf (Bd t)) .none):=pS rfl (Ayk (hK _) t (Bgk n t ht))
omit hK in
theorem Anu{b:UInt8}(h:De b=true):b.toNat<128:=by have:=(Ag9 b).1 h;omega
omit hK in
theorem Bik(n:Nat)(p:List UInt8)(hp:∀b∈p,b.toNat<128):Ao (CF (n+1)) 265 [.str p,.func 266 [] []] (.bool (p.any fun b=>!Ig b)):=Ark rfl fun cf st=>by show(if p.all (fun b=>decide (b.toNat<128))then some (D.bool (p.any fun b=>!Air b.toNat),st,([]:Cb))else none)=_;rw[if_pos (List.all_eq_true.2 fun b hb=>decide_eq_true (hp b hb))];congr 3;congr 1;funext b;rw[Axc]
theorem Bih(n:Nat)(p:List UInt8)(hp:∀b∈p,b.toNat<128):Ao (CF (n+2)) 230 [.str p] (.bool (Cz p)):=pS rfl (Ayy (hK _) p (Bik n p hp))
theorem Bh9(n:Nat)(t:List UInt8)(ht:Lt t):Ao (CF (n+3)) 149 [.sl (Lf (Bd t)) .none,.func 230 [] []] (.int .i64 (Aid (Bd t) Cz)):=
 pS rfl (A1v (hK _) _ _ (by have:=(Gj t).1;have:=ht.1;omega) (by decide) fun p hp=>Bih hK n p fun b hb=>Anu (ht.2 b (Ni t p b hp hb)))
theorem a131(n:Nat)(t:List UInt8)(ht:Lt t):Ao (CF (n+4)) 131 [.sl (Lf (Bd t)) .none,.func 230 [] []] (.bool ((Bd t).any Cz)):=pS rfl (Ayu (hK _) _ _ (Bh9 hK n t ht))
theorem Bib(n:Nat)(t:List UInt8)(ht:Lt t):Ao (CF (n+5)) 185 [.str t] (.bool (Aan t)):=pS rfl (A4m (hK _) t (a229 hK (n+2) t ht.1) (a131 hK n t ht))
theorem a183(n:Nat):Ao (CF (n+1)) 183 [] (.sl (Lf Bl) .none):=pS rfl (A3w (hK _))
theorem Bh3(n:Nat)(l:List (List UInt8))(hl:l.length<1000)(g:Gr)(t:List UInt8):Ao (CF (n+1)) 112 [.sl (Lf l) g,.str t] (.int .i64 (Ja l t)):=pS rfl (Azg (hK _) l g t hl (by decide))
theorem a56(n:Nat)(l:List (List UInt8))(hl:l.length<1000)(t:List UInt8):Ao (CF (n+2)) 56 [.sl (Lf l) .none,.str t] (.bool (l.contains t)):=pS rfl (Bbj (hK _) l _ t (Bh3 hK n l hl .none t))
def nmP(t:List UInt8):Bool:=Aan t && (!(t == [45]) && !Bl.contains t)
theorem a127(n:Nat)(t:List UInt8)(ht:Lt t):Ao (CF (n+6)) 127 [.str t] (.bool (nmP t)):=pS rfl (A2n (hK _) t Aan (Bib hK n t ht) (a183 hK (n+4)) (a56 hK (n+3) Bl (by decide) t))
def gnP(t:List UInt8):Int × Bool:=grN t 1000
omit hK in
theorem Bey(n:Nat)(t:List UInt8)(ht:t.length≤1000):Ao (CF (n+1)) 263 [.str t,.int .i64 1000] (.tup [.int .i64 (gnP t).1,.bool (gnP t).2]):=Ark rfl fun cf st=>by
 show(if t.length≤1000∧(0:Int)≤1000∧(1000:Int)<2 ^ 62 then some (D.tup [.int .i64 (grN t 1000).1,.bool (grN t 1000).2],st,([]:Cb))else none)=_;rw[if_pos ⟨ht,by decide,by decide⟩]
 rfl
theorem Bg8(n:Nat)(t:List UInt8)(ht:t.length≤1000):Ao (CF (n+2)) 262 [.str t] (.bool (gnP t).2):=pS rfl (A03 (hK _) t gnP (Bey n t ht))
variable(L:Nat)
theorem j68(n:Nat)(s:PS)(K:Int)(tx:List UInt8):E9 (CF (n+1)) 68 [.int .i64 K,.str tx] L s (.bool (Ry L s K tx)) s:=mS rfl (A8q (hK _) s K tx)
theorem j31(n:Nat)(s:PS):E9 (CF (n+1)) 31 [] L s (.tup []) (Hf L s):=mS rfl (Bbn (hK _) s)
theorem j70(n:Nat)(s:PS)(K:Int)(tx:List UInt8)(h:K≠4):E9 (CF (n+2)) 70 [.int .i64 K,.str tx] L s (.tup []) (A8 L s K tx):=mS rfl (Bca (hK _) (j68 hK L n) (j31 hK L n) s K tx h)
theorem j72(n:Nat)(s:PS)(tx:List UInt8):E9 (CF (n+3)) 72 [.str tx] L s (.tup []) (A8 L s 3 tx):=mS rfl (Bb2 (hK _) (j70 hK L n) s tx)
theorem Bfq(n:Nat)(s:PS)(hS:Sm s):E9 (CF (n+7)) 126 [.int .i64 1,.func 127 [] []] L s (.str (Bb L s 1 nmP).1) (Bb L s 1 nmP).2:=
 mS rfl (Abb (hK _) (j31 hK L (n+5)) s hS 1 (by decide) 127 nmP Bcu fun t ht=>a127 hK n t (ht rfl))
theorem Bev(n:Nat)(s:PS)(hS:Sm s):E9 (CF (n+2)) 126 [.int .i64 1,.func 264 [] []] L s (.str (Bb L s 1 Jd).1) (Bb L s 1 Jd).2:=
 mS rfl (Abb (hK _) (j31 hK L n) s hS 1 (by decide) 264 Jd A8p fun t ht=>pS rfl (A5n (hK _) t))
theorem Bfw(n:Nat)(s:PS)(hS:Sm s):E9 (CF (n+3)) 126 [.int .i64 1,.func 262 [] []] L s (.str (Bb L s 1 (fun t=>(gnP t).2)).1) (Bb L s 1 (fun t=>(gnP t).2)).2:=
 mS rfl (Abb (hK _) (j31 hK L (n+1)) s hS 1 (by decide) 262 (fun t=>(gnP t).2) A8u fun t ht=>Bg8 hK n t (ht rfl).1)
theorem Bec(n:Nat)(s:PS)(hS:Sm s):E9 (CF (n+2)) 126 [.int .i64 2,.func 228 [] []] L s (.str (Bb L s 2 (fun _=>true)).1) (Bb L s 2 (fun _=>true)).2:=
 mS rfl (Abb (hK _) (j31 hK L n) s hS 2 (by decide) 228 (fun _=>true) A7c fun t ht=>pS rfl (A1x (hK _) t))
theorem j71(n:Nat)(s:PS)(hS:Sm s):E9 (CF (n+8)) 71 [] L s (.str (Bb L s 1 nmP).1) (Bb L s 1 nmP).2:=mS rfl (Bay (hK _) (Bfq hK L n) s hS)
theorem Bg4(n:Nat)(s:PS)(hS:Sm s):E9 (CF (n+3)) 227 [] L s (.str (Bb L s 1 Jd).1) (Bb L s 1 Jd).2:=mS rfl (A5i (hK _) (Bev hK L n) s hS)
theorem Bgq(n:Nat)(s:PS)(hS:Sm s):E9 (CF (n+4)) 226 [] L s (.int .i64 (Zk L gnP s).1) (Zk L gnP s).2:=mS rfl (Azo (hK _) (Bfw hK L n) s hS fun t ht=>Bey (n+2) t ht.1)
theorem Bgy(n:Nat)(s:PS):E9 (CF (n+2)) 125 [] L s (.int .i64 (Hz L s)) s:=mS rfl (A3t (hK _) (j68 hK L n) s)
theorem Adj:∀n m:Nat,Wv (CF (m+n+9)) 30 [] L (Fe L nmP gnP n)∧Wv (CF (m+n+9)) 69 [] L (Uv L nmP gnP n)∧Wv (CF (m+n+9)) 124 [] L (Jv L nmP gnP n)∧(∀(s:PS) (x:Qy) (s':PS),Sm s→Ij L s=true→Py L nmP gnP n s (Cn L s.ws).at_=some (x,s')→E9 (CF (m+n+9)) 184 [.int .i64 ((Cn L s.ws).at_:Int)] L s (.agg (Br x)) s')
 |0,m=>⟨fun s x s' _ h=>by simp[Fe]at h,fun s x s' _ h=>by simp[Uv]at h,fun s x s' _ h=>by simp[Jv]at h,fun s x s' _ _ h=>by simp[Py]at h⟩
 |n+1,m=>by
  obtain⟨h1,h2,h3,h4⟩:=Adj n m;obtain⟨g1,g2,g3,g4⟩:=Axi (L:=L) (may:=nmP) (gn:=gnP) n;have e:m+(n+1)+9=(m+n+9)+1:=by omega
  rw[e];refine⟨fun s x s' hS h=>?_,fun s x s' hS h=>?_,fun s x s' hS h=>?_,fun s x s' hS hc h=>?_⟩
  ·unfold Fe at h;exact mS rfl (A65 (hK _) (j68 hK L (m+n+8)) (j70 hK L (m+n+7)) (j72 hK L (m+n+6)) (j71 hK L (m+n+1)) h1 h2 g1 s hS x s' h)
  ·unfold Uv at h;exact mS rfl (A8h (hK _) (Bgy hK L (m+n+7)) h3 g3 1900 (by decide) s hS x s' h)
  ·unfold Jv at h;exact mS rfl (Ayo (hK _) (j68 hK L (m+n+8)) (j72 hK L (m+n+6)) (j71 hK L (m+n+1)) (c:=fun s=>Py L nmP gnP n s (Cn L s.ws).at_) h1 h4 (a183 hK (m+n+8)) (fun t _=>a56 hK (m+n+7) Bl.tail (by decide) t) g1 s hS x s' h)
  ·unfold Py at h;split at h
   ·cases h
   rename_i y s1 hy;cases h;exact mS rfl (A4t (hK _) (j68 hK L (m+n+8)) (j72 hK L (m+n+6)) (Bg4 hK L (m+n+6)) (Bgq hK L (m+n+5)) (Bec hK L (m+n+7)) h1 g1 s hS hc _ x s1 hy)
end
end Go.Vam
namespace Go.Vam
open Go.Proofs
section
variable(hK:∀n f,Ba (CF n f))
include hK
theorem Bft(n:Nat)(b:UInt8):Ao (CF (n+1)) 115 [.int .u8 (b.toNat:Int)] (.bool (Ig b)):=pS rfl (A2i (hK _) b)
theorem Bhk(n:Nat)(b:UInt8):Ao (CF (n+1)) 178 [.int .u8 (b.toNat:Int)] (.int .i64 (Gv Ic b)):=pS rfl (A4o (hK _) b)
theorem Bg9(n:Nat)(s:List UInt8)(i:Nat)(hi:i≤s.length)(hs:s.length<900):Ao (CF (n+2)) 116 [.str s,.int .i64 (i:Int)] (txR ((Dv (s.length - i+1) (s.drop i)).map fun p=>(p.1,i+p.2))):=
 pS rfl (A23 (hK _) (Bhk hK n) s i hi hs (by decide))
theorem r61(n:Nat)(s:List UInt8)(hs:s.length<900):Ao (CF (n+3)) 61 [.str s] (Uy s.length (Y8 s)):=pS rfl (A72 (Bft hK (n+1)) (hK _) (Bg9 hK n) s hs (by decide))
omit hK in
theorem Bh5(n:Nat)(t:List UInt8)(ht:t.length≤1000):Ao (CF (n+1)) 259 [.str t] (.sl (Lf (Bd t)) .none):=Ark rfl fun cf st=>by show(if t.length≤1000 then some (D.sl (Lf (Bd t)) .none,st,([]:Cb))else none)=_;rw[if_pos ht]
theorem Bhf(n:Nat)(t:List UInt8):Ao (CF (n+2)) 221 [.str t] (.bool (Aan t)):=pS rfl (A4e (hK _) t (by decide) (Bh5 n t) (Bft hK n))
theorem Bfd(n:Nat):Ao (CF (n+1)) 223 [] (.sl (Lf Bl) .none):=pS rfl (A3u (hK _))
theorem Bdg(n:Nat)(t:List UInt8):Ao (CF (n+1)) 222 [.sl (Lf Bl) .none,.str t] (.int .i64 (Ja Bl t)):=pS rfl (A26 (hK _) Bl _ t (by decide) (by decide))
theorem Bia(n:Nat)(t:List UInt8):Ao (CF (n+3)) 179 [.str t] (.bool (nmP t)):=pS rfl (A09 (hK _) t Aan (Bhf hK n t) (Bfd hK (n+1)) (Bdg hK (n+1) t))
theorem Bhu(n:Nat)(t:List UInt8)(ht:t.length≤1000):Ao (CF (n+1)) 261 [.str t,.int .i64 1000] (.tup [.int .i64 (gnP t).1,.bool (gnP t).2]):=pS rfl (Az0 (hK _) t 1000 ht (by decide))
variable(L:Nat)(W:List Wd)
theorem r63(n:Nat)(s:RS):Km (CF (n+1)) 63 [] L W s (.bool s.bad.isNone) s:=mS rfl (A6w (hK _) s)
theorem r64(n:Nat)(s:RS)(hs:s.k≤W.length):Km (CF (n+1)) 64 [] L W s (.agg (Ci (Cn L (W.drop s.k)))) s:=mS rfl (Bcm (hK _) s hs)
theorem r65(n:Nat)(s:RS)(hs:s.k≤W.length):Km (CF (n+2)) 65 [] L W s (.tup []) (Gg L W s):=mS rfl (Baw (hK _) (r64 hK L W n) s hs)
theorem Avb(n:Nat)(s:RS)(t:List UInt8)(hs:s.k≤W.length):Km (CF (n+2)) 117 [.str t] L W s (.bool (Pg L W s t)) s:=mS rfl (Ayb (hK _) (r64 hK L W n) s t hs)
theorem A0c(hW:Ng W)(n:Nat)(s:RS)(t:List UInt8)(hs:s.k≤W.length):Km (CF (n+3)) 119 [.str t] L W s (.tup []) (Bg L W s t):=
 mS rfl (A2l (hK _) (r63 hK L W (n+1)) (r65 hK L W n) (Avb hK L W n) hW s t hs)
theorem Bfa(hW:Ng W)(n:Nat)(s:RS)(hs:s.k≤W.length):Km (CF (n+4)) 118 [] L W s (.str (Dw L nmP W s).1) (Dw L nmP W s).2:=
 mS rfl (Ayn (hK _) (r63 hK L W (n+2)) (r64 hK L W (n+2)) (r65 hK L W (n+1)) hW nmP (fun t _=>Bia hK n t) s hs)
theorem Zj(hW:Ng W)(hlen:∀w∈W,w.tx.length≤1000):∀n m:Nat,V7 (CF (m+2*n+5)) 62 L W (H5 L nmP gnP W n)∧V7 (CF (m+2*n+5)) 120 L W (Ae3 L nmP gnP W n)∧V7 (CF (m+2*n+5)) 180 L W (Xr L nmP gnP W n)∧(∀(s:RS) (cs:List D) (s':RS),s.k<W.length→Bl.tail.contains (Cn L (W.drop s.k)).tx=true→U0 L nmP gnP W n s=some (cs,s')→Km (CF (m+2*n+5)) 224 [.agg (Ci (Cn L (W.drop s.k)))] L W (Bg L W ⟨s.k+1,s.bad⟩ [40]) (.agg cs) s')
 |0,m=>⟨fun s cs s' _ h=>by simp[H5]at h,fun s cs s' _ h=>by simp[Ae3]at h,fun s cs s' _ h=>by simp[Xr]at h,fun s cs s' _ _ h=>by simp[U0]at h⟩
 |n+1,m=>by
  obtain⟨h1,h2,h3,h4⟩:=Zj hW hlen n (m+1);obtain⟨k1,_,_,_⟩:=Zj hW hlen n m;obtain⟨g1,g2,g3,g4⟩:=Abw (L:=L) (may:=nmP) (gr:=gnP) hW n;have e:m+2*(n+1)+5=(m+2*n+6)+1:=by omega
  have e2:m+1+2*n+5=m+2*n+6:=by omega
  rw[e2]at h1 h2 h3 h4;rw[e];refine⟨fun s cs s' hs h=>?_,fun s cs s' hs h=>?_,fun s cs s' hs h=>?_,fun s cs s' hlt hc h=>?_⟩
  ·rw[Yt]at h;exact mS rfl (Bcb (hK _) hW (r63 hK L W (m+2*n+5)) (r64 hK L W (m+2*n+5)) (Avb hK L W (m+2*n+4)) (A0c hK L W hW (m+2*n+3)) (Bfa hK L W hW (m+2*n+2)) g1 g2 h1 h2 s hs cs s' h)
  ·unfold Ae3 at h;exact mS rfl (A4q (hK _) hW (r63 hK L W (m+2*n+5)) (r64 hK L W (m+2*n+5)) (Avb hK L W (m+2*n+4)) g3 h3 1900 (by decide) s hs cs s' h)
  ·rw[Abd]at h;exact mS rfl (A3m (hK _) hW (r63 hK L W (m+2*n+5)) (r64 hK L W (m+2*n+5)) (Avb hK L W (m+2*n+4)) (A0c hK L W hW (m+2*n+3)) (Bfa hK L W hW (m+2*n+2)) g1 g4 h1 h4 (Bfd hK (m+2*n+5)) (Bdg hK (m+2*n+5)) s hs cs s' h)
  ·unfold U0 at h;rw[if_pos hlt]at h;have hw1:(Cn L (W.drop s.k)).tx.length≤1000:=by
    cases hd:W.drop s.k with
    |nil=>simp[Cn,Nq]
    |cons v vs=>exact hlen v (List.mem_of_mem_drop (i:=s.k) (by rw[hd];simp))
   exact mS rfl (A0n (hK _) hW (r63 hK L W (m+2*n+5)) (r64 hK L W (m+2*n+5)) (r65 hK L W (m+2*n+4)) (Avb hK L W (m+2*n+4)) (A0c hK L W hW (m+2*n+3)) g1
    (fun k hk s hs rows s' h=>mS rfl (Az1 (hK _) (r63 hK L W (m+2*n+4)) (A0c hK L W hW (m+2*n+2)) k1 g1 k hk (by decide) s hs rows s' h)) (Bhu hK (m+2*n+5)) hlen _ hc _ (Dc (s:=⟨s.k+1,s.bad⟩) hlt) cs s' h)
omit hK L W in
theorem Ah4{l:List Qy}{y:Qy}(h:y∈l):Df y≤dmax l:=by
 have key:∀(l:List Qy) (a:Nat),a≤l.foldl (fun a y=>max a (Df y)) a∧∀y∈l,Df y≤l.foldl (fun a y=>max a (Df y)) a:=fun l=>by
  induction l with
  |nil=>exact fun a=>⟨Nat.le_refl _,fun y hy=>by cases hy⟩
  |cons z l ih=>
   intro a;obtain⟨h1,h2⟩:=ih (max a (Df z));rw[List.foldl_cons];refine⟨by omega,fun y hy=>?_⟩
   rcases List.mem_cons.1 hy with rfl|hy
   ·omega
   ·exact h2 y hy
 exact(key l 0).2 y h
omit L W in
theorem A6n:∀(n m:Nat) (x:Qy),Df x≤n→Df x<1000000→Ao (CF (m+n)) 15 [.agg (Br x)] (.int .i64 (Df x:Int))
 |0,m,x,h,_=>absurd (Xv x) (by omega)
 |n+1,m,x,h,h2=>pS rfl (A8t (hK _) x h2 (by decide) fun y hy=>by have hd:=Ms x;have:Df y≤dmax (L9 x):=Ah4 hy;exact A6n n m y (by omega) (by omega))
omit L W in
theorem A5x:∀(n m:Nat) (x:Qy),Df x≤n→Df x<1000000→Ao (CF (m+n)) 16 [.agg (Br x)] (.int .i64 (Df x:Int))
 |0,m,x,h,_=>absurd (Xv x) (by omega)
 |n+1,m,x,h,h2=>pS rfl (Bcr (hK _) x h2 (by decide) fun y hy=>by have hd:=Ms x;have:Df y≤dmax (L9 x):=Ah4 hy;exact A5x n m y (by omega) (by omega))
omit L W in
theorem Bc9:∀(n m:Nat) (x:Qy),Df x≤n→Ao (CF (m+n)) 28 [.agg (Br x),.agg (Br x)] (.bool true)
 |0,m,x,h=>absurd (Xv x) (by omega)
 |n+1,m,x,h=>by obtain⟨k,a,r,ln,nm,q,he⟩:=Adv x;rw[he];exact pS rfl (Awk (hK _) k a r ln nm q (L9 x) (Aco x) (by decide) fun y hy=>by have hd:=Ms x;have:Df y≤dmax (L9 x):=Ah4 hy;exact Bc9 n m y (by omega))
omit L W hK in
theorem Arn{s:List UInt8}{x:Qy}(h:Qx nmP gnP s= .ok x):Df x≤30:=by
 unfold Qx at h;split at h
 ·cases h
 split at h
 ·cases h
 split at h
 ·cases h
 ·unfold U1 at h;split at h
  ·cases h
  ·split at h
   ·cases h
   ·cases h;omega
omit L W in
theorem A8v(t:List UInt8):Ao (CF 4008) 12 [.str t] (Aaw (Qx nmP gnP t)):=pS rfl (A9y (hK _) _ (fun h=>a29 hK 4001 _ (by omega)) (fun h n hn=>by
  have:=(Adj hK t.length n (3998 - n)).1;rw[show 3998 - n+n+9=4007 from by omega]at this
  exact this) (j31 hK _ 4006) (fun x hx=>A6n hK 1000 3007 x hx (by omega)))
omit L W in
theorem Bad(t:List UInt8):Ao (CF 4008) 27 [.str t] (Aaw (Qx nmP gnP t)):=pS rfl (A7s (hK _) _ (fun h=>r61 hK 4004 _ (by omega)) (fun h W hW hl n hn=>by
  have:=(Zj hK t.length W hW hl n (4002 - 2*n)).1;rw[show 4002 - 2*n+2*n+5=4007 from by omega]at this
  exact this) (fun W=>r63 hK _ W 4006) (fun W=>r64 hK _ W 4006) (fun W=>r65 hK _ W 4005) (fun x hx=>A5x hK 1000 3007 x hx (by omega)))
omit L W in
theorem Bbv(t:List UInt8):Ao (CF 4009) 10 [.str t] (.bool true):=by
 have h28:∀cs,(cs=Apq∨∃x,Qx nmP gnP t= .ok x∧cs=Br x)→Ao (CF 4008) 28 [.agg cs,.agg cs] (.bool true):=by
  rintro cs (rfl|⟨x,hx,rfl⟩)
  ·exact pS rfl (Awk (hK 4007) 0 0 false [] [] 0 [] (by decide) (by decide) fun y hy=>by cases hy)
  ·exact Bc9 hK 30 3978 x (Arn hx)
 exact pS rfl (A7z (hK _) _ _ (A8v hK t) (Bad hK t) h28)
omit L W hK in
theorem Bdq(n:Nat):Ao (CF (n+1)) 9 [] (.bool true):=Ark rfl fun cf st=>rfl
omit L W in
theorem Bfr(s:List UInt8):Ao (CF 4010) 3 [.str s] (.bool true):=pS rfl (Bd8 (hK _) s (Bdq _) (pS rfl (A8a (hK _) s 420)) (Bbv hK _))
end
end Go.Vam
namespace Go.Vam
open Go.Proofs Go.Proofs.Tryz Go.RowKit
def Akm(W:World):Nat→Nat→Option Value:=fun b o=>W.cell? ⟨b,o,none⟩
def gA(W:World):G:= {loc:=fun _=>none,bs:=fun _=>0,tk:=fun _=>none,I:=Akm W,base:=Akm W}
theorem Bhy(W:World):Co (gA W) [] W:=by
 refine⟨fun id c h=>(by cases h),fun t k h=>(by cases h),fun id id2 b h _=>?_,fun b o v h=>h,fun id c h=>(by cases h),fun b o v h=>⟨h,fun id ho=>?_,fun o' ho'=>ho'⟩⟩
 ·rcases h with⟨h,_⟩|⟨k,h,_⟩
  ·cases h
  ·cases h
 ·rcases ho with⟨h,_⟩|⟨k,h,_⟩
  ·cases h
  ·cases h
theorem Wm{w:World}{b:Nat}{cs:Array Value}{T:TypeId}{fr:Nat × Nat}(h:w.heap[b]?=some (.cells cs T fr))(o:Nat):w.cell? ⟨b,o,none⟩=cs[o]?:=by unfold World.cell?;simp[h]
theorem Ana{W w:World}{g:G}{st:St}(hb:g.base=Akm W)(hs:Co g st w){b:Nat}{cs:Array Value}{T:TypeId}{fr:Nat × Nat}(h:W.heap[b]?=some (.cells cs T fr))(hne:0<cs.size):
  ∃T' fr',w.heap[b]?=some (.cells cs T' fr'):=by
 have key:∀o,w.cell? ⟨b,o,none⟩=cs[o]?:=fun o=>by
  have h0:g.base b 0=some cs[0]:=by rw[hb];show W.cell? ⟨b,0,none⟩=_;rw[Wm h];simp[hne]
  cases hc:cs[o]? with
  |none=>exact(hs.base b 0 _ h0).2.2 o (by rw[hb];show W.cell? ⟨b,o,none⟩=none;rw[Wm h,hc])
  |some v=>exact hs.imm _ _ _ (hs.base b o v (by rw[hb];show W.cell? ⟨b,o,none⟩=some v;rw[Wm h,hc])).1
 have h1:=key 0;have:∃ob:Go.Obj,w.heap[b]?=some ob∧ob.isCells=true:=cells_of_cell (a:=⟨b,0,none⟩) (v:=cs[0]) (by rw[h1];simp[hne])
 obtain⟨ob,h2,h3⟩:=this;cases ob with
 |cells cs' T' fr'=>
  have:cs'=cs:=by apply Array.ext_getElem?;intro o;rw[← Wm h2 o,key o]
  subst this;exact⟨T',fr',h2⟩
 |_=>cases h3
theorem Bfn(W:World)(h:Lib.TabIs prog W "internal/strconv.uint64pow10" .u64 Lib.pow10Tab):Aw0 (Akm W):=fun g st w hb hs=>by
 unfold Lib.TabIs World.var? at h ⊢;rw[Option.bind_eq_some_iff]at h;obtain⟨gi,h1,h2⟩:=h;rw[h1,Option.bind_some];split at h2
 ·rename_i cs T fr hh;cases h2;obtain⟨T',fr',h3⟩:=Ana hb hs hh (by decide)
  rw[h3]
 ·cases h2
structure A6p(W:World):Prop where
 m:∃m,W.cell? ⟨0,0,none⟩=some (.int .i64 m)
 t:Lib.TabIs prog W "internal/strconv.uint64pow10" .u64 Lib.pow10Tab
 s:∃tp p,W.cell? ⟨4,0,none⟩=some (.iface tp p)
 r:∃tp p,W.cell? ⟨5,0,none⟩=some (.iface tp p)
structure Aps(W W':World):Prop where
 os:W'.os=W.os
 out:W'.output=W.output
 up:∀i,i<W.heap.size→W'.heap[i]?=W.heap[i]?
theorem Aps.but{W W':World}(h:Aps W W'):W.keptBut W' (fun _=>False):=⟨h.os,h.out,fun i hi=>by rw[h.up i hi];split<;>simp_all⟩
theorem At2{W:World}(hL:A6p W){N f:Nat}{xs:List D}{v:D}{A:Array Value}(h:(∀n f,Ba (CF n f))→Ao (CF N) f xs v)(hA:F8 (gA W) xs A):
  Calls prog f A W fun e W'=>∃r g',e= .returned r∧VR g' v r∧Aps W W':=by
 have hM:I6 (Akm W):=hL.m;have hO:=Asm hM (Bfn W hL.t) ⟨hL.s,hL.r⟩;have hK:∀n f,Ba (CF n f):=fun n=>(Aq5 hO 2000 n).keeps;refine(((Aq5 hO 2000 N).just f) _ _ _ _ _ (h hK []) (gA W) W A rfl (Bhy W) hA).mono ?_;rintro e W' ⟨r,g',rfl,hv,_,hst,_⟩;exact⟨r,g',rfl,hv,hst.os,hst.out,fun i hi=>hst.fr i hi fun id hid=>by cases hid⟩
theorem Bgm{g:G}(s:ByteArray):F8 g [.str s.data.toList] #[.string s]:=⟨rfl,fun j d v h h'=>by
 match j with
 |0=>cases h;cases h';exact VR.str s
 |j+1=>cases h⟩
theorem Bb9{W:World}(hL:A6p W)(s:ByteArray):Calls prog 3 #[.string s] W fun e W'=>e= .returned (.bool true)∧Aps W W':=by refine(At2 hL (fun hK=>Bfr hK s.data.toList) (Bgm s)).mono ?_;rintro e W' ⟨r,g',rfl,hv,hk⟩;cases hv;exact⟨rfl,hk⟩
end Go.Vam
