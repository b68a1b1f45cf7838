/- P. -/
import Derived.Test.YtiobopjhbneieaaGreatDoorVca
import Derived.Test.YtiobopjhbneieaaGreatDoorVaj
set_option linter.unusedVariables false
noncomputable section
set_option maxRecDepth 1000000
namespace Go.Vam
open Go.Proofs Go.Proofs.Tryz
section
variable{C:Eo}{cf:Ah}{N:Nat}{LQ:List D→List (List D)→Prop}{J:List (Nat→List D→Prop)}{Pw:Nat→Prop}{n0:Nat}{E:Env}{st:St}{ids:List Nat}{t:List SO}{o:Oper}{K:KS}{e:List S}
theorem Aaf{P:Program}{ty:TypeId}{f off n:Nat}{ft:TypeId}(h:Xy P ty f=some (off,n,ft)):∃fs fd,P.underlying ty=some (.struct fs)∧fs[f]?=some fd∧Bw P fd.type=some n∧fd.offset=off∧fd.type=ft:=by
 unfold Xy at h;split at h
 ·rename_i fs hu;split at h
  ·rename_i fd hf;split at h
   ·rename_i m hm;simp only[Option.some.injEq,Prod.mk.injEq]at h;obtain⟨h1,h2,h3⟩:=h;subst h1 h2 h3;exact⟨fs,fd,hu,hf,hm,rfl,rfl⟩
   ·cases h
  ·cases h
 ·cases h
theorem Ah8(hE:VL ids e E){x:Option Operand}{d:Option D}{r:Option Nat}(h:Y0 e x=some d)(h':Aes d=some r):Vg (ev E) x=some r:=by
 cases x with
 |none=>simp only[Y0,Option.some.injEq]at h;subst h;simp only[Aes,Option.some.injEq]at h';subst h';rfl
 |some x=>simp only[Y0,Option.map_eq_some_iff]at h;obtain⟨d',h1,rfl⟩:=h;simp only[Aes,Option.map_eq_some_iff]at h';obtain⟨n,h2,rfl⟩:=h';unfold Vg;dsimp only;rw[Bu h1 (Cj hE x),h2]
theorem Ajg(hE:VL ids e E)(parts:List (Nat × Operand)):(parts.map fun p=>(p.1,Nt e p.2)).map (·.1)=(parts.map fun p=>(p.1,ev E p.2)).map (·.1)∧VL ids ((parts.map fun p=>(p.1,Nt e p.2)).map (·.2)) ((parts.map fun p=>(p.1,ev E p.2)).map (·.2)):=by simp only[List.map_map];exact⟨rfl,VL.map _ fun p _=>Cj hE p.2⟩
theorem Aus(hK:∀f,Ba (cf f))(hr:Rp Pw n0 ids t st)(hE:VL ids e E)(hw:wp C.P cf N LQ (Ajh C e o t K) J):Vh C cf N LQ J Pw n0 E st ids t o K:=by
 obtain⟨dst,op,type,pos,after,guard⟩:=o;unfold Ajh at hw;dsimp only at hw;cases op with
 |move x=>exact Fy hr rfl hw (Cj hE x) rfl
 |assign x=>exact Fy hr rfl hw (Cj hE x) rfl
 |pick c a b=>
  try dsimp only at hw
  have hc:=Cj hE c;split at hw
  ·rename_i h1;rw[h1]at hc;exact Fy hr rfl hw (Cj hE a) (by unfold Af;dsimp only;rw[show ev E c= .bool true from hc])
  ·rename_i h1;rw[h1]at hc;exact Fy hr rfl hw (Cj hE b) (by unfold Af;dsimp only;rw[show ev E c= .bool false from hc])
  ·split at hw
   ·rename_i c' a' b' h2 h3 h4;refine H9 (v:=id) hr rfl hw fun d hd=>?_;unfold Af;dsimp only;rw[Bu h2 hc,Bu h3 (Cj hE a),Bu h4 (Cj hE b)];simp only[Av.sem]at hd;split at hd
    ·cases hd;rfl
    ·cases hd;rfl
    ·cases hd
   ·exact(Aq hw).elim
 |alloc ty=>
  try dsimp only at hw
  split at hw
  ·rename_i cs hz;exact Bei (so:= .cells (cs.map .lit)) (ob:= .cells cs) hr rfl trivial ⟨cs,rfl,VL.lits cs⟩ hw (by unfold Af;dsimp only;rw[hz];rfl)
  ·exact(Aq hw).elim
 |box ty x=>
  try dsimp only at hw
  obtain⟨l,h1,h2,h3⟩:=Ua hw (Cj hE x);exact Bei (so:= .cells l) hr rfl trivial ⟨_,rfl,h2⟩ h1 (by unfold Af;dsimp only;rw[h3];rfl)
 |build ty parts=>
  try dsimp only at hw
  split at hw
  ·rename_i fs z hu hz;split at hw
   ·rename_i hall;obtain⟨h1,h2⟩:=Ajg hE parts.toList;obtain⟨l,r,h3,h4,h5⟩:=Akw (place':=Lb C.P fs) (fun i off n ag hp=>by
     unfold Lb;split at hp
     ·rename_i f hf;rw[hf];simp only[Option.map_eq_some_iff,Prod.mk.injEq]at hp;obtain⟨m,h6,h7,h8,h9⟩:=hp;subst h7 h8;dsimp only;rw[h6]
     ·cases hp) hw h1 h2 (VL.lits z)
    refine Fy hr rfl h3 (v:= .agg r) ⟨r,rfl,h5⟩ ?_;unfold Af Adc;dsimp only;rw[hz,hu];dsimp only;rw[if_pos hall,h4];rfl
   ·exact(Aq hw).elim
  ·exact(Aq hw).elim
 |buildSlice ty len parts=>
  try dsimp only at hw
  split at hw
  ·exact(Aq hw).elim
  ·rename_i el hel;split at hw
   ·rename_i sz z hsz hz;split at hw
    ·rename_i hc;obtain⟨hc1,hc2,hc3,hc4⟩:=hc;obtain⟨h1,h2⟩:=Ajg hE parts.toList;obtain⟨rows,ps,ds,h3,h4,h5,h6,h7,h8,h9⟩:=Axn (st:=st) hw h1 h2;have hlen:ds.length=len:=by rw[h6];simp[hc4]
     have hrep:∀n,(rep z n).length=n*sz:=fun n=>by
      induction n with
      |zero=>simp[rep]
      |succ n ih=>simp only[rep,List.length_append,ih,hc2,Nat.succ_mul];omega
     have h10:=h9 [] (rep z len) (by simp) rfl (by rw[hrep];simp[hc4])
     simp only[List.flatten_nil,List.nil_append]at h10;have hids:(parts.toList.flatMap fun p=>Iz (ev E p.2))= []:=by rw[List.flatMap_eq_nil_iff];intro p hp;exact h8 (p.1,ev E p.2) (List.mem_map.2 ⟨p,hp,rfl⟩)
     refine Fy hr rfl h3 (v:= .sl ds .exact) ⟨ds,rfl,h5⟩ ?_;unfold Af;dsimp only;rw[hel];dsimp only;rw[hsz,hz];simp only[BF,h4];rw[if_pos (by simp[hc1,hc2,hc3]),h10]
     dsimp only;rw[hids,← hlen,U8 hc3 h7]
    ·exact(Aq hw).elim
   ·exact(Aq hw).elim
 |load ty a=>
  try dsimp only at hw
  have ha:=Cj hE a;split at hw
  ·rename_i j off h1;rw[h1]at ha;obtain⟨id,h2,h3⟩:=ha;split at hw
   ·rename_i cs hj;split at hw
    ·rename_i s hs;obtain⟨id',cs',h4,h5,h6⟩:=hr.cells hj;rw[h2]at h4;cases h4;obtain⟨v,h7,h8⟩:=Wi hs h6;refine Bhw hr rfl hj h2 hw h8 ?_;unfold Af Fp;dsimp only;rw[h3];dsimp only;rw[h5];dsimp only;rw[h7];rfl
    ·exact(Aq hw).elim
   ·exact(Aq hw).elim
  ·rename_i cs h1;rw[h1]at ha;obtain⟨ds,h2,h3⟩:=ha;split at hw
   ·rename_i s hs;obtain⟨v,h7,h8⟩:=Wi hs h3;refine Fy hr rfl hw h8 ?_;unfold Af Fp;dsimp only;rw[h2];dsimp only;rw[h7];rfl
   ·exact(Aq hw).elim
  ·rename_i d h1;rw[h1]at ha;refine H9 (v:=id) hr rfl hw fun d' hd=>?_;unfold Af Fp;dsimp only;rw[show ev E a=d from ha];simp only[Av.sem]at hd;split at hd
   ·dsimp only;rw[hd];rfl
   ·cases hd
  ·exact(Aq hw).elim
 |store ty a v=>
  try dsimp only at hw
  have ha:=Cj hE a;split at hw
  ·rename_i j off h1;rw[h1]at ha;obtain⟨id,h2,h3⟩:=ha;split at hw
   ·rename_i cs n hj hn;obtain⟨l,h4,h5,h6⟩:=Ua hw (Cj hE v);split at h4
    ·rename_i hc;obtain⟨h7,h8⟩:=Ayw h4 h5;obtain⟨id',cs',h9,h10,h11⟩:=hr.cells hj;rw[h2]at h9;cases h9;have hnew:VL ids (cs.take off++l++cs.drop (off+n)) (cs'.take off++(ev E v).cells++cs'.drop (off+n)):=((h11.take off).append h5).append (h11.drop (off+n));refine⟨_,_,[],[j],ids,.undef,_,h8,Sub.refl _,rfl,hr.set hj trivial h2 (o':= .cells _) ⟨_,rfl,hnew⟩ trivial,fun i hi=>hi.set trivial,by simp,fun i hi=>?_,.inr ⟨rfl,[id],?_,fun i hi=>⟨j,by simp,?_⟩⟩⟩
     ·rw[List.mem_singleton]at hi;subst hi;exact Ff.set trivial ⟨_,hj,trivial⟩
     ·unfold Bj I4;dsimp only;rw[h3];dsimp only;rw[h10,hn];dsimp only;rw[h7,← h5.len,← h11.len,if_pos (by simp[hc.1,hc.2])]
     ·rw[List.mem_singleton]at hi;rw[hi];exact h2
    ·exact(Aq h4).elim
   ·exact(Aq hw).elim
  ·exact(Aq hw).elim
 |nilCheck x=>
  try dsimp only at hw
  have hx:=Cj hE x;split at hw
  ·rename_i j off h1;rw[h1]at hx;obtain⟨id,h2,h3⟩:=hx;exact Fy hr rfl hw (v:= .ptr id off) ⟨id,h2,rfl⟩ (by unfold Af;dsimp only;rw[h3])
  ·rename_i l h1;rw[h1]at hx;obtain⟨ds,h2,h3⟩:=hx;exact Fy hr rfl hw (v:= .eptr ds) ⟨ds,rfl,h3⟩ (by unfold Af;dsimp only;rw[h2])
  ·rename_i f a b h1;rw[h1]at hx;obtain⟨u,w,h2,h3,h4⟩:=hx;exact Fy hr rfl hw (v:= .func f u w) ⟨u,w,rfl,h3,h4⟩ (by unfold Af;dsimp only;rw[h2])
  ·split at hw
   ·rename_i d hd0;refine H9 (v:=id) hr rfl hw fun d' hd=>?_;unfold Af;dsimp only;rw[Bu hd0 hx];simp only[Av.sem]at hd;split at hd
    ·cases hd;rfl
    ·cases hd;rfl
    ·cases hd
   ·exact(Aq hw).elim
 |binOp op ty x y yt=>
  try dsimp only at hw
  have hx:=Cj hE x;have hy:=Cj hE y;have hbin:∀{a b v:D},ev E x=a→ev E y=b→Bo C.P op ty a b=some v→Af C.P false {dst:=dst,op:= .binOp op ty x y yt,type:=type,pos:=pos,after:=after,guard:=guard} (ev E) st=some (v,.rd []):=fun {a b v} h1 h2 h3=>by
   unfold Af;dsimp only;rw[h1,h2];split
   ·exact(Bbw h3).elim
   ·rw[h3];rfl
  split at hw
  ·rename_i a b h1 h2;rw[h1]at hx;rw[h2]at hy;split at hw
   ·exact(Aq hw).elim
   ·split at hw
    ·rename_i v hv;exact Fy hr rfl hw rfl (hbin hx hy hv)
    ·exact(Aq hw).elim
  ·rename_i j off h1 h2;rw[h1]at hx;rw[h2]at hy;obtain⟨id,h3,h4⟩:=hx;split at hw
   ·rename_i el hu;refine Fy hr rfl hw rfl (hbin h4 hy ?_);unfold Bo eqD;dsimp only;rw[hu];rfl
   ·rename_i el hu;refine Fy hr rfl hw rfl (hbin h4 hy ?_);unfold Bo eqD;dsimp only;rw[hu];rfl
   ·exact(Aq hw).elim
  ·split at hw
   ·rename_i a b h1 h2;exact H9 (v:=id) hr rfl hw fun d hd=>hbin (Bu h1 hx) (Bu h2 hy) hd
   ·exact(Aq hw).elim
 |unOp op ty x=>
  try dsimp only at hw
  have hx:=Cj hE x;have hun:∀{a v:D},ev E x=a→Gc op a=some v→Af C.P false {dst:=dst,op:= .unOp op ty x,type:=type,pos:=pos,after:=after,guard:=guard} (ev E) st=some (v,.rd []):=fun {a v} h1 h2=>by unfold Af;dsimp only;rw[h1,h2];rfl
  split at hw
  ·rename_i a h1;rw[h1]at hx;split at hw
   ·rename_i v hv;exact Fy hr rfl hw rfl (hun hx hv)
   ·exact(Aq hw).elim
  ·split at hw
   ·rename_i a h1;exact H9 (v:=id) hr rfl hw fun d hd=>hun (Bu h1 hx) hd
   ·exact(Aq hw).elim
 |convert s d x=>
  try dsimp only at hw
  split at hw
  ·rename_i a h1;refine H9 (v:=id) hr rfl hw fun v hv=>?_;unfold Af;dsimp only;exact A0v (Fw hv) (Tn h1 (Cj hE x))
  ·exact(Aq hw).elim
 |makeFunc fn a b=>
  try dsimp only at hw
  cases fn with
  |func f=>exact Fy hr rfl hw (v:= .func f (a.toList.map (ev E)) (b.toList.map (ev E))) ⟨_,_,rfl,VL.map _ fun x _=>Cj hE x,VL.map _ fun x _=>Cj hE x⟩ rfl
  |_=>exact(Aq hw).elim
 |slice ty x lo hi mx=>
  try dsimp only at hw
  split at hw
  ·rename_i x' lo' hi' mx' h1 h2 h3 h4;refine H9 (v:=id) hr rfl hw fun v hv=>?_;simp only[Av.sem]at hv;split at hv
   ·rename_i lo2 hi2 mx2 h5 h6 h7;split at hv
    ·cases hv
    ·rename_i hc;unfold Af;dsimp only;rw[Ah8 hE h2 h5,Ah8 hE h3 h6,Ah8 hE h4 h7,Bu h1 (Cj hE x)];dsimp only;rw[if_neg hc];split at hv
     ·cases hv
     ·exact Fw hv
   ·cases hv
  ·exact(Aq hw).elim
 |fieldAddr ty x f=>
  try dsimp only at hw
  split at hw
  ·rename_i off n ft hf;obtain⟨fs,fd,h1,h2,h3,h4,h5⟩:=Aaf hf;have hx:=Cj hE x;split at hw
   ·exact(Aq hw).elim
   ·rename_i hn;split at hw
    ·rename_i j o h6;rw[h6]at hx;obtain⟨id,h7,h8⟩:=hx;refine Fy hr rfl hw (v:= .ptr id (o+off)) ⟨id,h7,rfl⟩ ?_;unfold Af Eh;dsimp only;rw[h1];dsimp only;rw[h2];dsimp only;rw[h3];dsimp only;rw[if_neg hn,h8,← h4]
    ·rename_i l h6;rw[h6]at hx;obtain⟨ds,h7,h8⟩:=hx;refine Fy hr rfl hw (v:= .eptr (ds.drop off)) ⟨_,rfl,h8.drop off⟩ ?_;unfold Af Eh;dsimp only;rw[h1];dsimp only;rw[h2];dsimp only;rw[h3];dsimp only;rw[if_neg hn,h7,← h4]
    ·rename_i d h6;rw[h6]at hx;refine H9 (v:=id) hr rfl hw fun v hv=>?_;simp only[Av.sem]at hv;unfold Af;dsimp only;rw[show ev E x=d from hx];split at hv
     ·exact Fw hv
     ·cases hv
    ·exact(Aq hw).elim
  ·exact(Aq hw).elim
 |field ty x f=>
  try dsimp only at hw
  split at hw
  ·rename_i off n ft hf;obtain⟨fs,fd,h1,h2,h3,h4,h5⟩:=Aaf hf;have hx:=Cj hE x;split at hw
   ·rename_i l hl;have hag:∃ds,ev E x= .agg ds∧VL ids l ds:=by
     unfold Bfg at hl;split at hl
     ·rename_i l' h6;cases hl;rw[h6]at hx;exact hx
     ·rename_i cs h6;cases hl;rw[h6]at hx;exact⟨cs,hx,VL.lits cs⟩
     ·cases hl
    obtain⟨ds,h6,h7⟩:=hag;split at hw
    ·rename_i s hs;obtain⟨v,h8,h9⟩:=Wi hs h7;refine Fy hr rfl hw h9 ?_;unfold Af M8;dsimp only;rw[h6,h1];dsimp only;rw[h2];dsimp only;rw[h5,h4,h8];rfl
    ·exact(Aq hw).elim
   ·split at hw
    ·rename_i d hd0;refine H9 (v:=id) hr rfl hw fun v hv=>?_;unfold Af;dsimp only;rw[Bu hd0 hx];exact Fw hv
    ·exact(Aq hw).elim
  ·exact(Aq hw).elim
 |indexAddr ty x i=>
  try dsimp only at hw
  have hx:=Cj hE x;have hi:=Cj hE i;split at hw
  ·rename_i rows ex n h1 h2;rw[h1]at hx;obtain⟨ds,h3,h4⟩:=hx;split at hw
   ·rename_i el r hel hrow;split at hw
    ·rename_i hsz;obtain⟨d,h5,h6⟩:=h4.get hrow;have hnat:E5 (ev E i)=some n:=by
      unfold Au3 at h2;split at h2
      ·rename_i k z h7;rw[h7]at hi;rw[show ev E i= .int k z from hi];exact h2
      ·cases h2
     refine Fy hr rfl hw (v:= .eptr d) ⟨d,rfl,h6⟩ ?_;unfold Af Cf;dsimp only;rw[hnat,h3];dsimp only;unfold Cx at hel;split at hel
     ·rename_i e2 hu;cases hel;rw[hu];dsimp only;rw[h5];dsimp only;rw[hsz,h6.len,if_pos rfl]
     ·cases hel
    ·exact(Aq hw).elim
   ·exact(Aq hw).elim
  ·split at hw
   ·rename_i x' i' h1 h2;refine H9 (v:=id) hr rfl hw fun v hv=>?_;simp only[Av.sem]at hv;unfold Af;dsimp only;rw[Bu h2 hi];rcases Tn h1 hx with h3|⟨r,g,g',h3,h4⟩
    ·rw[h3];split at hv
     ·exact Fw hv
     ·exact Fw hv
     ·cases hv
    ·rw[h3];rw[h4]at hv;dsimp only at hv;rw[Bej (g':=g')];exact Fw hv
   ·exact(Aq hw).elim
 |index ty x i=>
  try dsimp only at hw
  split at hw
  ·rename_i x' i' h1 h2;refine H9 (v:=id) hr rfl hw fun v hv=>?_;unfold Af;dsimp only;rw[Bu h1 (Cj hE x),Bu h2 (Cj hE i)];exact Fw hv
  ·exact(Aq hw).elim
 |extract x i=>
  try dsimp only at hw
  have hx:=Cj hE x;split at hw
  ·rename_i l h1;rw[h1]at hx;obtain⟨ds,h2,h3⟩:=hx;split at hw
   ·rename_i s hs;obtain⟨d,h4,h5⟩:=h3.get hs;refine Fy hr rfl hw h5 ?_;unfold Af;dsimp only;rw[h2];dsimp only;rw[h4];rfl
   ·exact(Aq hw).elim
  ·split at hw
   ·rename_i d hd0;refine H9 (v:=id) hr rfl hw fun v hv=>?_;simp only[Av.sem]at hv;unfold Af;dsimp only;rw[Bu hd0 hx];split at hv
    ·dsimp only;rw[hv];rfl
    ·cases hv
   ·exact(Aq hw).elim
 |call c=>
  try dsimp only at hw
  obtain⟨callee,args,argTypes⟩:=c;cases callee with
  |invoke r m=>exact(Aq hw).elim
  |builtin b=>
   dsimp only at hw;split at hw
   ·rename_i ty l x h1 h2;split at hw
    ·rename_i d hd0;refine H9 (v:=id) hr rfl hw fun v hv=>?_;unfold Af Aj;dsimp only;rw[h1,h2];simp only[MC];have h3:=A91 (st:=st) (Fw hv);rcases Tn hd0 (Cj hE x)with h4|⟨r,g,g',h4,h5⟩
     ·rw[h4];exact h3
     ·rw[h4,Baq (g':=g'),← h5];exact h3
    ·exact(Aq hw).elim
   ·rename_i ty l x h1 h2;split at hw
    ·rename_i d hd0;refine H9 (v:=id) hr rfl hw fun v hv=>?_;unfold Af Aj;dsimp only;rw[h1,h2];simp only[MC];rw[Bu hd0 (Cj hE x)];exact Fw hv
    ·exact(Aq hw).elim
   ·rename_i x xs h1;split at hw
    ·rename_i d ds hd0 hd1;refine H9 (v:=id) hr rfl hw fun v hv=>?_;unfold Af Aj;dsimp only;rw[h1];simp only[List.map_cons];rw[Bu hd0 (Cj hE x),D6 hd1 (VL.map xs fun y _=>Cj hE y),show Om Abk d ds=some v from hv];rfl
    ·exact(Aq hw).elim
   ·rename_i x xs h1;split at hw
    ·rename_i d ds hd0 hd1;refine H9 (v:=id) hr rfl hw fun v hv=>?_;unfold Af Aj;dsimp only;rw[h1];simp only[List.map_cons];rw[Bu hd0 (Cj hE x),D6 hd1 (VL.map xs fun y _=>Cj hE y),show Om Ab0 d ds=some v from hv];rfl
    ·exact(Aq hw).elim
   ·rename_i ty u s x h1 h2;split at hw
    ·exact(Aq hw).elim
    ·exact(Aq hw).elim
    ·rename_i k hu hk;refine Azn hr rfl hw (Cj hE s) (Cj hE x) ?_;unfold Bj Gn;dsimp only;rw[h1,h2];simp only[MC]
     all_goals split<;>first|rfl|(rename_i h3;exact absurd h3 hu)|(rename_i q h3;exact absurd h3 (hk q))
   ·exact(Aq hw).elim
  |value x=>
   have hx:=Cj hE x;dsimp only at hw;split at hw
   ·rename_i f a c h1;rw[h1]at hx;obtain⟨u,w,h2,h3,h4⟩:=hx;refine Ak7 hK hr rfl hw h3 (VL.map args.toList fun y _=>Cj hE y) h4 ?_;unfold Bj;dsimp only;rw[h2]
   ·rename_i f a c h1;rw[h1]at hx;refine Ak7 hK hr rfl hw (VL.lits a) (VL.map args.toList fun y _=>Cj hE y) (VL.lits c) ?_;unfold Bj;dsimp only;rw[show ev E x= .func f a c from hx]
   ·exact(Aq hw).elim
 |_=>
  try dsimp only at hw
  exact(Aq hw).elim
end
def Fr(A:List Nat)(E E':Env):Prop:=E'.length=E.length∧∀i:Nat,i ∉ A→E'[i]?=E[i]?
theorem Fr.refl(A:List Nat)(E:Env):Fr A E E:=⟨rfl,fun _ _=>rfl⟩
theorem Fr.trans{A:List Nat}{E E1 E2:Env}(h:Fr A E E1)(h':Fr A E1 E2):Fr A E E2:=⟨h'.1.trans h.1,fun i hi=>(h'.2 i hi).trans (h.2 i hi)⟩
theorem Fr.mono{A B:List Nat}{E E':Env}(h:Fr A E E')(hs:∀i∈A,i∈B):Fr B E E':=⟨h.1,fun i hi=>h.2 i fun hn=>hi (hs i hn)⟩
theorem Fr.put{A:List Nat}{E:Env}{t:Option Tmp}{d:D}(h:∀x,t=some x→x∈A):Fr A E (Am E t d):=by
 cases t with
 |none=>exact .refl _ _
 |some t=>exact⟨by simp[Am],fun i hi=>by unfold Am;rw[List.getElem?_set_ne];rintro rfl;exact hi (h _ rfl)⟩
section
variable{C:Eo}{hh:Bool}{od:Nat→Option (List Nat × Bool)}{cf:Ah}{N:Nat}
theorem Sw{ops:Array Oper}{A:List Nat}(hA:∀(i:Nat) (o:Oper) (x:Tmp),ops[i]?=some o→o.dst=some x→x∈A){draw:Bool}{B:Array Nat}:∀(l:List Nat) (lg:Rh) (E:Env) (st:St) (W:Cb) (E':Env) (st':St) (W':Cb),Ay C hh cf draw ops B l lg E st W=some (E',st',W')→Fr A E E'
 | [],lg,E,st,W,E',st',W',h=>by unfold Ay at h;cases h;exact .refl _ _
 |i::l,lg,E,st,W,E',st',W',h=>by
  unfold Ay at h;split at h
  ·cases h
  rename_i o ho;have hp:∀d,Fr A E (Am E o.dst d):=fun d=>Fr.put fun x hx=>hA i o x ho hx;split at h
  ·cases h
  ·exact(hp _).trans (Sw hA l _ _ _ _ _ _ _ h)
  ·split at h
   ·split at h
    ·cases h
    ·split at h
     ·cases h
     ·exact(hp _).trans (Sw hA l _ _ _ _ _ _ _ h)
   ·split at h
    ·cases h
    ·exact(hp _).trans (Sw hA l _ _ _ _ _ _ _ h)
theorem Apf{A:List Nat}{body:Env→St→ExR}(hb:∀E st x E' st' W,body E st=some (x,E',st',W)→Fr A E E'):∀(n:Nat) (E:Env) (st:St) (W:Cb) (x:Ex) (E':Env) (st':St) (W':Cb),Iq body n E st W=some (x,E',st',W')→Fr A E E'
 |0,_,_,_,_,_,_,_,h=>by simp[Iq]at h
 |n+1,E,st,W,x,E',st',W',h=>by
  unfold Iq at h;split at h
  ·rename_i E1 st1 V h1;exact(hb _ _ _ _ _ _ h1).trans (Apf hb n _ _ _ _ _ _ _ h)
  ·rename_i x1 E1 st1 V _ h1;cases h;exact hb _ _ _ _ _ _ h1
  ·cases h
theorem A35:∀(c:Code) (E:Env) (st:St) (x:Ex) (E':Env) (st':St) (W:Cb),exec C hh od cf N c E st=some (x,E',st',W)→Fr (Le c) E E':=by
 intro c;induction c with
 |skip=>intro E st x E' st' W h;unfold exec at h;cases h;exact .refl _ _
 |region id ops draw=>
  intro E st x E' st' W h;unfold exec at h;have hA:∀(i:Nat) (o:Oper) (x:Tmp),ops[i]?=some o→o.dst=some x→x∈Le (.region id ops draw):=fun i o x ho hx=>by unfold Le;rw[List.mem_filterMap];exact⟨o,by rw[← Array.getElem?_toList]at ho;exact List.mem_of_getElem? ho,hx⟩
  split at h
  ·rename_i E1 st1 W1 hr;cases h;unfold region at hr;split at hr
   ·split at hr
    ·exact Sw hA _ _ _ _ _ _ _ _ hr
    ·exact Sw hA _ _ _ _ _ _ _ _ hr
    ·dsimp only at hr;split at hr
     ·exact Sw hA _ _ _ _ _ _ _ _ hr
     ·cases hr
   ·exact Sw hA _ _ _ _ _ _ _ _ hr
  ·cases h
 |seq a b iha ihb=>
  intro E st x E' st' W h;unfold exec at h;split at h
  ·rename_i E1 st1 V h1;split at h
   ·rename_i x2 E2 st2 W2 h2;cases h;exact((iha _ _ _ _ _ _ h1).mono fun i hi=>by simp[Le,hi]).trans ((ihb _ _ _ _ _ _ h2).mono fun i hi=>by simp[Le,hi])
   ·cases h
  ·exact(iha _ _ _ _ _ _ h).mono fun i hi=>by simp[Le,hi]
 |cond c a b iha ihb=>
  intro E st x E' st' W h;unfold exec at h;split at h
  ·exact(iha _ _ _ _ _ _ h).mono fun i hi=>by simp[Le,hi]
  ·exact(ihb _ _ _ _ _ _ h).mono fun i hi=>by simp[Le,hi]
  ·cases h
 |block id b ih=>
  intro E st x E' st' W h;unfold exec at h;split at h
  ·rename_i i E1 st1 W1 h1;cases h;exact ih _ _ _ _ _ _ h1
  ·exact ih _ _ _ _ _ _ h
 |loop b ih=>intro E st x E' st' W h;unfold exec at h;exact Apf (fun E st x E' st' W h=>ih E st x E' st' W h) _ _ _ _ _ _ _ _ h
 |exit id=>intro E st x E' st' W h;unfold exec at h;cases h;exact .refl _ _
 |label id=>intro E st x E' st' W h;unfold exec at h;cases h;exact .refl _ _
 |ret=>intro E st x E' st' W h;unfold exec at h;cases h;exact .refl _ _
 |_=>intro E st x E' st' W h;unfold exec at h;cases h
theorem A70{Pw:Nat→Prop}{c:Code}{E:Env}{st:St}{Q:Ex→Env→St→Prop}(h:ExO C hh od cf N Pw c E st (fun x E' st'=>Fr (Le c) E E'→Q x E' st')):ExO C hh od cf N Pw c E st Q:=by obtain⟨x,E',st',V,h1,h2,h3⟩:=h.ex;exact⟨x,E',st',V,h1,h2,h3 (A35 _ _ _ _ _ _ _ h1)⟩
end
section
variable{C:Eo}{cf:Ah}{N:Nat}{LQ:List D→List (List D)→Prop}{J:List (Nat→List D→Prop)}{Pw:Nat→Prop}{n0:Nat}
def Ars(ids:List Nat)(t:List SO)(lg:List (Nat × Nat))(L:Rh):Prop:=∀q∈L,∃p,p∈lg∧q.1=p.1∧ids[p.2]?=some q.2∧Ff t p.2
theorem Ars.mono{ids ids':List Nat}{t t':List SO}{lg:List (Nat × Nat)}{L:Rh}(h:Ars ids t lg L)(hs:Sub ids ids')(hl:∀j,Ff t j→Ff t' j):Ars ids' t' lg L:=fun q hq=>by obtain⟨p,h1,h2,h3,h4⟩:=h q hq;exact⟨p,h1,h2,hs _ _ h3,hl _ h4⟩
theorem Aqx{ids:List Nat}{t:List SO}{st:St}{lg:List (Nat × Nat)}{L:Rh}{B:Array Nat}{i:Nat}{wr:List Nat}{V:Cb}(hr:Rp Pw n0 ids t st)(hL:Ars ids t lg L)(hV:∀id∈V,∃j,j∈wr∧ids[j]?=some id)(hw:∀j∈wr,Ff t j)
  (h:Yd B i lg wr=false):clash B i L V=false:=by
 refine Awl fun q hq hqV=>?_;obtain⟨p,h1,h2,h3,h4⟩:=hL q hq;obtain⟨j,h5,h6⟩:=hV q.2 hqV;have:p.2=j:=hr.inj _ _ _ h3 h6 h4 (hw j h5);subst this;unfold Yd at h;rw[List.any_eq_false]at h;have:=h p h1;simp only[Bool.and_eq_true,List.contains_iff_mem,Bool.not_eq_true',not_and,Bool.not_eq_false]at this;rw[h2];exact this h5
theorem Axm{ids:List Nat}{e:List S}{E:Env}(hE:VL ids e E)(o:Oper)(ops:Array Oper):match Amd o ops e with
  | .yes=>Ct o ops E=some true
  | .no=>Ct o ops E=some false
  | .bad=>True
  | .ask t d want=>e[t]?=some (.dyn d)∧∀b,d= .bool b→Ct o ops E=some (b == want):=by
 unfold Amd Ct;cases hg:o.guard with
 |none=>simp
 |some p=>
  obtain⟨j,want⟩:=p;dsimp only;cases ht:(ops[j]?).bind (·.dst)with
  |none=>simp
  |some t=>
   dsimp only;cases he:e[t]? with
   |none=>simp
   |some s=>
    obtain⟨d,h1,h2⟩:=hE.get he;rw[h1];split
    ·rename_i h3;split at h3
     ·rename_i b h4;cases h4;split at h3
      ·rename_i hb;rw[show d= .bool b from h2];simp[hb]
      ·cases h3
     ·cases h3
     ·cases h3
     ·cases h3
    ·rename_i h3;split at h3
     ·rename_i b h4;cases h4;split at h3
      ·cases h3
      ·rename_i hb;rw[show d= .bool b from h2];simp[hb]
     ·rename_i h4;cases h4;rw[show d= .tup []from h2]
     ·cases h3
     ·cases h3
    ·trivial
    ·rename_i t' d' want' h3;split at h3
     ·split at h3<;>cases h3
     ·cases h3
     ·rename_i d2 h4;cases h3;cases h4;refine⟨he,fun b hb=>?_⟩;rw[show d=d' from h2,hb]
     ·cases h3
theorem Tt(hK:∀f,Ba (cf f)){draw:Bool}{ops:Array Oper}{B:Array Nat}{k:List S→List SO→Tree}{R:List Nat→Env→St→Prop}:∀(l:List Nat) (lg:List (Nat × Nat)) (e:List S) (t:List SO) (ids:List Nat) (E:Env) (st:St) (L:Rh) (W:Cb),wp C.P cf N LQ (Vo C draw ops B l lg e t k) J→VL ids e E→Rp Pw n0 ids t st→Ars ids t lg L→(∀id∈W,Pw id)→(∀e' t' ids' E' st',Sub ids ids'→VL ids' e' E'→Rp Pw n0 ids' t' st'→wp C.P cf N LQ (k e' t') J→R ids' E' st')→∃ids' E' st' V,Ay C false cf draw ops B l L E st W=some (E',st',V)∧(∀id∈V,Pw id)∧R ids' E' st'
 | [],lg,e,t,ids,E,st,L,W,hw,hE,hr,hL,hW,hk=>by unfold Vo at hw;exact⟨ids,E,st,W,rfl,hW,hk e t ids E st (Sub.refl _) hE hr hw⟩
 |i::l,lg,e,t,ids,E,st,L,W,hw,hE,hr,hL,hW,hk=>by
  unfold Vo at hw;unfold Ay;split at hw
  ·exact(Aq hw).elim
  rename_i o ho;rw[ho];dsimp only at hw ⊢;have hgo:∀(e1:List S),VL ids e1 E→wp C.P cf N LQ (Ajh C e1 o t fun v t' rd wr=>if(draw && Yd B i lg wr)=true then .fail else Vo C draw ops B l (if draw=true then rd.map (fun j=>(i,j))++lg else lg) (Aah e1 o.dst v) t' k) J→∃ids' E' st' V,(if loud o=true then match Bj C false cf o (ev E) st with
     |none=>none
     |some (v,st',V)=>if(draw && clash B i L V)=true then none else Ay C false cf draw ops B l L (Am E o.dst v) st' (Dj V W)
    else match Af C.P false o (ev E) st with
     |none=>none
     |some (v,fx)=>Ay C false cf draw ops B l (Ju draw i st L fx) (Am E o.dst v) (Dy st fx) W)=some (E',st',V)∧(∀id∈V,Pw id)∧R ids' E' st':=fun e1 hE1 hw1=>by
   obtain⟨s,t',rd,wr,ids1,v,st1,h1,h2,h3,h4,h5,h6,h7,h8⟩:=Aus hK hr hE1 hw1;replace h1:wp C.P cf N LQ (if(draw && Yd B i lg wr)=true then .fail else Vo C draw ops B l (if draw=true then rd.map (fun j=>(i,j))++lg else lg) (Aah e1 o.dst s) t' k) J:=h1;split at h1
   ·exact(Aq h1).elim
   rename_i hcl;have hE2:VL ids1 (Aah e1 o.dst s) (Am E o.dst v):=Ahb (hE1.mono h2) h3 o.dst;have hk2:∀e' t' ids' E' st',Sub ids1 ids'→VL ids' e' E'→Rp Pw n0 ids' t' st'→wp C.P cf N LQ (k e' t') J→R ids' E' st':=fun e' t' ids' E' st' a b c d=>hk e' t' ids' E' st' (h2.trans a) b c d;have hL1:Ars ids1 t' lg L:=hL.mono h2 h5;rcases h8 with⟨hl,fx,h9,h10,h11⟩|⟨hl,V,h9,h10⟩
   ·rw[hl];simp only[BF];rw[h9];dsimp only;subst h10;refine Tt hK l _ _ _ ids1 _ _ _ W h1 hE2 h4 ?_ hW hk2;cases draw with
    |false=>simp only[BF];cases fx<;>exact hL1
    |true=>
     simp only[if_true];intro q hq;have hcase:(q.1=i∧q.2∈readsOf st fx)∨q∈L:=by
      cases fx with
      |rd is=>
       simp only[Ju,if_true,List.mem_append,List.mem_map]at hq;rcases hq with⟨x,hx,rfl⟩|hq
       ·exact .inl ⟨rfl,hx⟩
       ·exact .inr hq
      |al ob=>
       simp only[Ju,if_true,List.mem_cons]at hq;rcases hq with rfl|hq
       ·exact .inl ⟨rfl,by simp[readsOf]⟩
       ·exact .inr hq
     rcases hcase with⟨h12,h13⟩|h12
     ·obtain⟨j,h14,h15⟩:=h11 _ h13;exact⟨(i,j),by simp[h14],h12,h15,h6 j h14⟩
     ·obtain⟨p,a,b,c,d⟩:=hL1 q h12;exact⟨p,by simp[a],b,c,d⟩
   ·rw[hl];simp only[if_true];rw[h9];dsimp only;have hnc:(draw && clash B i L V)=false:=by
     cases draw with
     |false=>rfl
     |true=>simp only[Bool.true_and]at hcl ⊢;exact Aqx h4 hL1 h10 h7 (Bool.eq_false_iff.2 hcl)
    rw[hnc];simp only[BF];refine Tt hK l _ _ _ ids1 _ _ _ _ h1 hE2 h4 ?_ (fun id hid=>?_) hk2
    ·cases draw with
     |false=>simpa using hL1
     |true=>simp only[if_true];intro q hq;obtain⟨p,a,b,c,d⟩:=hL1 q hq;exact⟨p,by simp[a],b,c,d⟩
    ·rcases Cm.1 hid with hid|hid
     ·obtain⟨j,_,h12⟩:=h10 id hid;exact h4.own j id h12
     ·exact hW id hid
  have hg:=Axm hE o ops;split at hw
  ·rename_i hgs;rw[hgs]at hg;rw[show Ct o ops E=some true from hg];exact hgo e hE hw
  ·rename_i hgs;rw[hgs]at hg;rw[show Ct o ops E=some false from hg];exact Tt hK l lg _ t ids _ st L W hw (Ahb hE (s:= .lit (.tup [])) (d:= .tup []) rfl o.dst) hr hL hW hk
  ·exact(Aq hw).elim
  ·rename_i tm d want hgs;rw[hgs]at hg;obtain⟨he,hg⟩:=hg;unfold wp at hw;obtain⟨b,hb,hw1,hw2⟩:=hw;rw[hg b hb];obtain⟨d',hd1,hd2⟩:=hE.get he;have hset:∀b',b'=b→VL ids (e.set tm (.lit (.bool b'))) E:=fun b' hb'=>by
    have h1:=hE.set (i:=tm) (s:= .lit (.bool b')) (d:= .bool b') rfl;have h2:E.set tm (.bool b')=E:=by
     apply List.ext_getElem?;intro i;rw[List.getElem?_set];split
     ·rename_i hi;subst hi;rw[hd1,show d'=d from hd2,hb,hb'];split
      ·rfl
      ·rename_i hn;exact absurd (List.getElem?_eq_some_iff.1 hd1).1 hn
     ·rfl
    rw[h2]at h1;exact h1
   by_cases hbw:b=want
   ·subst hbw;rw[beq_self_eq_true];have hw3:wp C.P cf N LQ (Ajh C (e.set tm (.lit (.bool b))) o t fun v t' rd wr=>if(draw && Yd B i lg wr)=true then .fail else Vo C draw ops B l (if draw=true then rd.map (fun j=>(i,j))++lg else lg) (Aah (e.set tm (.lit (.bool b))) o.dst v) t' k) J:=by
     cases b with
     |true=>exact hw1 rfl
     |false=>exact hw2 rfl
    exact hgo _ (hset b rfl) hw3
   ·rw[show(b == want)=false from by simpa using hbw]
    have hne:(!want)=b:=by cases b<;>cases want<;>simp_all
    have hw3:wp C.P cf N LQ (Vo C draw ops B l lg (Aah (e.set tm (.lit (.bool (!want)))) o.dst (.lit (.tup []))) t k) J:=by
     cases b with
     |true=>
      have:want=false:=by cases want<;>simp_all
      subst this;exact hw1 rfl
     |false=>
      have:want=true:=by cases want<;>simp_all
      subst this;exact hw2 rfl
    exact Tt hK l lg _ t ids _ st L W hw3 (Ahb (hset _ hne) (s:= .lit (.tup [])) (d:= .tup []) rfl o.dst) hr hL hW hk
theorem Atr{o:Oper}{ρ:Operand→D}{st:St}{v:D}{fx:Fx}(ho:plainO o=true)(h:Af C.P false o ρ st=some (v,fx)):Dy st fx=st:=by
 obtain⟨dst,op,type,pos,after,guard⟩:=o;have hp:∀{r:Option D},r.map (fun v=>(v,Fx.pure))=some (v,fx)→Dy st fx=st:=fun {r} h=>by
  cases r with
  |none=>cases h
  |some r=>cases h;rfl
 unfold plainO at ho;unfold Af at h;cases op with
 |move x=>cases h;rfl
 |assign x=>cases h;rfl
 |pick c a b=>
  dsimp only at h;split at h
  ·cases h;rfl
  ·cases h;rfl
  ·cases h
 |nilCheck x=>
  dsimp only at h;split at h
  ·cases h;rfl
  ·cases h;rfl
  ·cases h;rfl
  ·cases h
 |binOp op t x y u=>
  dsimp only at h;split at h
  ·split at h
   ·split at h
    ·cases h;rfl
    ·cases h;rfl
    ·cases h
   ·cases h
  ·exact hp h
 |unOp op t x=>exact hp h
 |fieldAddr t x f=>
  dsimp only at h;unfold Eh at h
  repeat' split at h
  all_goals first|(cases h;rfl)|cases h
 |field t x f=>
  dsimp only at h;unfold M8 at h
  repeat' split at h
  all_goals first|exact hp h|cases h
 |indexAddr t x i=>
  dsimp only at h;unfold Cf at h
  repeat' split at h
  all_goals first|(cases h;rfl)|cases h
 |index t x i=>
  dsimp only at h;unfold Qa at h
  repeat' split at h
  all_goals first|exact hp h|(cases h;rfl)|cases h
 |extract x i=>
  dsimp only at h;split at h
  ·exact hp h
  ·cases h
 |slice t x lo hi mx=>
  dsimp only at h;unfold Lu at h
  repeat' (first|split at h|(dsimp only at h;split at h))
  all_goals first|(cases h;rfl)|cases h
 |load t a=>
  dsimp only at h;unfold Fp at h;have hq:∀{r:Option D} {ids:Cb},r.map (fun v=>(v,Fx.rd ids))=some (v,fx)→Dy st fx=st:=fun {r ids} h=>by
   cases r with
   |none=>cases h
   |some r=>cases h;rfl
  repeat' split at h
  all_goals first|exact hq h|exact hp h|cases h
 |call c=>
  obtain⟨callee,args,ts⟩:=c;cases callee with
  |builtin b=>
   cases b with
   |len=>
    dsimp only at h;unfold Aj at h
    repeat' split at h
    all_goals first|(unfold Ny at h;repeat' split at h)|(unfold Ar8 at h;repeat' split at h)|skip
    all_goals first|exact hp h|(cases h;rfl)|cases h
   |_=>cases ho
  |_=>cases ho
 |_=>cases ho
theorem Akv{o:Oper}(ho:plainO o=true):loud o=false:=by
 obtain⟨dst,op,type,pos,after,guard⟩:=o;unfold plainO at ho;cases op with
 |call c=>
  obtain⟨callee,args,ts⟩:=c;cases callee with
  |builtin b=>
   cases b with
   |len=>rfl
   |_=>cases ho
  |_=>cases ho
 |_=>first|rfl|cases ho
theorem Y9{draw:Bool}{ops:Array Oper}{B:Array Nat}(hp:∀(i:Nat) (o:Oper),ops[i]?=some o→plainO o=true):∀(l:List Nat) (L:Rh) (E:Env) (st:St) (W:Cb) (E':Env) (st':St) (V:Cb),Ay C false cf draw ops B l L E st W=some (E',st',V)→st'=st∧V=W
 | [],L,E,st,W,E',st',V,h=>by unfold Ay at h;cases h;exact⟨rfl,rfl⟩
 |i::l,L,E,st,W,E',st',V,h=>by
  unfold Ay at h;split at h
  ·cases h
  rename_i o ho;split at h
  ·cases h
  ·exact Y9 hp l _ _ _ _ _ _ _ h
  ·rw[Akv (hp i o ho)]at h;simp only[BF]at h;split at h
   ·cases h
   ·rename_i v fx hq;obtain⟨h1,h2⟩:=Y9 hp l _ _ _ _ _ _ _ h;rw[h1,Atr (hp i o ho) hq];exact⟨rfl,h2⟩
theorem Apj{A:List Nat}{ids:List Nat}:∀{e:List S} {E E':Env} {i:Nat},VL ids e E→E'.length=E.length→(∀k,(i+k) ∉ A→E'[k]?=E[k]?)→VL ids (Ay8 A i e) E'
 | [],E,E',i,h,hl,hf=>by rw[show E= []from h]at hl;exact List.length_eq_zero_iff.1 hl
 |s::e,E,E',i,h,hl,hf=>by
  obtain⟨d,r,rfl,h1,h2⟩:=h;cases E' with
  |nil=>cases hl
  |cons d' r'=>
   refine⟨d',r',rfl,?_,Apj h2 (by simpa using hl) fun k hk=>?_⟩
   ·split
    ·trivial
    ·rename_i hc;have:=hf 0 (by simpa using hc)
     simp only[List.getElem?_cons_zero,Option.some.injEq]at this;rw[this];exact h1
   ·have:=hf (k+1) (by rw[show i+(k+1)=i+1+k from by omega];exact hk)
    simpa using this
theorem A0s(hK:∀f,Ba (cf f)){draw:Bool}{ops:Array Oper}{B:Array Nat}{k:List S→List SO→Tree}{R:Env→St→Prop}{l:List Nat}{e:List S}{t:List SO}{ids:List Nat}{E:Env}{st:St}{LQ:List D→List (List D)→Prop}
  (hw:wp C.P cf N LQ (Aqs C draw ops B l e t k) J)(hE:VL ids e E)(hr:Rp Pw n0 ids t st)(hk:∀e' E',VL ids e' E'→wp C.P cf N LQ (k e' t) J→R E' st):
  ∃E' st' V,Ay C false cf draw ops B l [] E st []=some (E',st',V)∧(∀id∈V,Pw id)∧R E' st':=by
 unfold Aqs at hw;split at hw
 ·rename_i x hx;split at hw
  ·rename_i hc;rw[Bool.and_eq_true]at hc;obtain⟨hpl,hxl⟩:=hc;have hp:∀(i:Nat) (o:Oper),ops[i]?=some o→plainO o=true:=fun i o ho=>by
    rw[List.all_eq_true]at hpl;rw[← Array.getElem?_toList]at ho;exact hpl o (List.mem_of_getElem? ho)
   unfold wp at hw;obtain⟨ids',E',st',V,h1,h2,h3⟩:=Tt hK (R:=fun _ E' _=>∃d,E'.getD x .undef=d∧wp C.P cf N LQ (k ((Ay8 (ops.toList.filterMap (·.dst)) 0 e).set x (.dyn d)) t) J) l [] e t ids E st [] [] hw hE hr (fun q hq=>by cases hq) (by simp) (fun e' t' ids' E' st' a b c d=>by
    split at d
    ·rename_i v hv;unfold wp at d;obtain⟨d',he,d⟩:=d;cases he;refine⟨_,?_,d⟩;have h4:VS ids' (e'.getD x .bot) (E'.getD x .undef):=by
      rw[List.getD_eq_getElem?_getD,List.getD_eq_getElem?_getD]at*;cases hx2:e'[x]? with
      |none=>rw[hx2]at hv;simp[Ef]at hv
      |some s=>obtain⟨y,h5,h6⟩:=b.get hx2;rw[h5];exact h6
     exact Bu hv h4
    ·exact(Aq d).elim)
   obtain⟨h4,h5⟩:=Y9 hp _ _ _ _ _ _ _ _ h1;subst h4;obtain⟨d,h6,h7⟩:=h3;refine⟨E',st',V,h1,h2,hk _ E' ?_ h7⟩;have hfr:Fr (ops.toList.filterMap (·.dst)) E E':=Sw (fun i o x ho hx=>by rw[List.mem_filterMap];exact⟨o,by rw[← Array.getElem?_toList]at ho;exact List.mem_of_getElem? ho,hx⟩) _ _ _ _ _ _ _ _ h1
   have hb:=Apj (A:=ops.toList.filterMap (·.dst)) (i:=0) hE hfr.1 fun k hk=>hfr.2 k (by rwa [Nat.zero_add]at hk)
   have h8:=hb.set (i:=x) (s:= .dyn d) (d:=d) rfl;have h9:E'.set x d=E':=by
    apply List.ext_getElem?;intro i;rw[List.getElem?_set];split
    ·rename_i hi;subst hi;split
     ·rename_i hlt;rw[← h6,List.getD_eq_getElem?_getD,List.getElem?_eq_getElem hlt];rfl
     ·rename_i hlt;rw[List.getElem?_eq_none (by omega)]
    ·rfl
   rw[h9]at h8;exact h8
  ·exact(Aq hw).elim
 ·exact(Aq hw).elim
end
section
variable{A:List Nat}{h:Hint}{Pw:Nat→Prop}{n0:Nat}
theorem A6y{ids ids' ids'':List Nat}{s' s:S}{rq:List (D × D)}{x x0:D}(he:eqS s' s=some rq)(hq:∀p∈rq,p.1=p.2)(h':VS ids' s' x)(h0:VS ids s x0)(h1:Sub ids ids')(h2:Sub ids ids''):VS ids'' s x:=by
 unfold eqS at he;split at he
 ·split at he
  ·rename_i j o j' o' hc;obtain⟨rfl,rfl⟩:=hc;obtain⟨id,h3,h4⟩:=h';obtain⟨id0,h5,h6⟩:=h0;have:=h1 _ _ h5;rw[h3]at this;cases this;exact⟨id,h2 _ _ h5,h4⟩
  ·cases he
 ·split at he
  ·rename_i a j g a' j' g' hc;subst hc;cases he;have ha:a=a':=hq (a,a') (by simp)
   have hg:=hq (.int .i64 (g:Int),.int .i64 (g':Int)) (by simp)
   simp only[D.int.injEq,true_and]at hg;have hg:g=g':=by omega
   subst ha hg;obtain⟨id,r,gr,h3,h4,h5⟩:=h';obtain⟨id0,r0,gr0,h6,_⟩:=h0;have:=h1 _ _ h6;rw[h3]at this;cases this;exact⟨id,r,gr,h2 _ _ h6,h4,h5⟩
  ·cases he
 ·split at he
  ·rename_i a b ha hb;cases he;have hab:a=b:=hq (a,b) (by simp)
   subst hab;rw[Bu ha h'];exact Yf hb
  ·cases he
theorem Awe{ids ids' ids'':List Nat}(h1:Sub ids ids')(h2:Sub ids ids''):∀{l' l:List S} {rq:List (D × D)} {xs ys:List D},eqL l' l=some rq→(∀p∈rq,p.1=p.2)→VL ids' l' xs→VL ids l ys→VL ids'' l xs
 | [],[],rq,xs,ys,he,hq,h',h0=>h'
 |s'::l',s::l,rq,xs,ys,he,hq,h',h0=>by
  simp only[eqL]at he;split at he
  ·rename_i a b ha hb;cases he;obtain⟨x,r,rfl,h3,h4⟩:=h';obtain⟨y,r2,rfl,h5,h6⟩:=h0;exact⟨x,r,rfl,A6y ha (fun p hp=>hq p (by simp[hp])) h3 h5 h1 h2,Awe h1 h2 hb (fun p hp=>hq p (by simp[hp])) h4 h6⟩
  ·cases he
 | [],_::_,_,_,_,he,_,_,_=>by simp[eqL]at he
 |_::_,[],_,_,_,he,_,_,_=>by simp[eqL]at he
theorem A33{ids ids' ids'':List Nat}(h1:Sub ids ids')(h2:Sub ids ids''){o' o:SO}{rq:List (D × D)}{ob ob0:Obj}(he:Av4 o' o=some rq)(hq:∀p∈rq,p.1=p.2)(hl:o.live)(h':VO ids' o' ob)(h0:VO ids o ob0):o'.live∧VO ids'' o ob:=by
 unfold Av4 at he;split at he
 ·exact hl.elim
 ·obtain⟨cs,rfl,h3⟩:=h';obtain⟨cs0,_,h4⟩:=h0;exact⟨trivial,cs,rfl,Awe h1 h2 he hq h3 h4⟩
 ·rename_i g' g;cases he;have hg:=hq (.int .i64 (g':Int),.int .i64 (g:Int)) (by simp)
  simp only[D.int.injEq,true_and]at hg;have hg:g'=g:=by omega
  subst hg;exact⟨trivial,h'⟩
 ·cases he
theorem Ady{ids:List Nat}:∀(ds rest:List D),VL ids (takeD ds.length (ds++rest)) ds∧tails ds.length (ds++rest)=rest
 | [],rest=>⟨rfl,rfl⟩
 |d::ds,rest=>by obtain⟨h1,h2⟩:=Ady (ids:=ids) ds rest;exact⟨⟨d,ds,rfl,rfl,h1⟩,h2⟩
theorem M0{ids ids' ids'':List Nat}{al:List Nat}{t':List SO}(hs:Sub ids ids''):∀{l l':List S} {i j0:Nat} {ds:List D} {js:List Nat} {rq:List (D × D)} {E0 E':Env} (rest:List D),Ka A h al t' i l l'=some (ds,js,rq)→(∀p∈rq,p.1=p.2)→VL ids l E0→VL ids' l' E'→(∀k:Nat,(i+k) ∉ A→E'[k]?=E0[k]?)→E'.length=E0.length→(∀(m j:Nat),js[m]?=some j→∃id,ids'[j]?=some id∧ids''[j0+m]?=some id)→VL ids'' (mkE A h al i j0 l (ds++rest)).1 E'∧(mkE A h al i j0 l (ds++rest)).2.2=rest∧(mkE A h al i j0 l (ds++rest)).2.1.length=js.length∧∀(m j:Nat),js[m]?=some j→∃g,(mkE A h al i j0 l (ds++rest)).2.1[m]?=some (.tok g)∧t'[j]?=some (.tok g)
 | [],l',i,j0,ds,js,rq,E0,E',rest,hm,hq,h0,h',hf,hl,hj=>by unfold Ka at hm;cases hm;rw[show E0= []from h0]at hl;have:E'= []:=List.length_eq_zero_iff.1 hl;subst this;exact⟨rfl,rfl,rfl,by simp⟩
 |s::l,[],i,j0,ds,js,rq,E0,E',rest,hm,hq,h0,h',hf,hl,hj=>by unfold Ka at hm;cases hm
 |s::l,s'::l',i,j0,ds,js,rq,E0,E',rest,hm,hq,h0,h',hf,hl,hj=>by
  obtain⟨d0,r0,rfl,h1,h2⟩:=h0;obtain⟨d',r',rfl,h3,h4⟩:=h';have hf':∀k:Nat,(i+1+k) ∉ A→r'[k]?=r0[k]?:=fun k hk=>by
   have:=hf (k+1) (by rw[show i+(k+1)=i+1+k from by omega];exact hk)
   simpa using this
  have hl':r'.length=r0.length:=by simpa using hl
  unfold Ka at hm;unfold mkE;split at hm
  ·rename_i hk
   try rw[hk]
   try dsimp only
   obtain⟨a,b,c,d⟩:=M0 hs rest hm hq h2 h4 hf' hl' hj;have hd:d'=d0:=by
    have hi:i ∉ A:=by
     unfold Aqb at hk;split at hk
     ·rename_i hc;simpa using hc
     ·split at hk
      ·cases hk
      ·cases hk
      ·split at hk<;>cases hk
      ·cases hk
      ·cases hk
    have:=hf 0 hi;simpa using this
   subst hd;exact⟨⟨_,_,rfl,h1.mono hs,a⟩,b,c,d⟩
  ·rename_i hk
   try rw[hk]
   try dsimp only
   obtain⟨a,b,c,d⟩:=M0 hs rest hm hq h2 h4 hf' hl' hj;exact⟨⟨_,_,rfl,trivial,a⟩,b,c,d⟩
  ·rename_i hk
   try rw[hk]
   try dsimp only
   split at hm
   ·rename_i v ds2 r2 hv hr;cases hm;obtain⟨a,b,c,d⟩:=M0 hs rest hr hq h2 h4 hf' hl' hj;refine⟨⟨_,_,rfl,?_,a⟩,b,c,d⟩;exact Bu hv h3
   ·cases hm
  ·rename_i hk
   try rw[hk]
   try dsimp only
   split at hm
   ·rename_i hc
    try rw[if_pos hc]
    split at hm
    ·rename_i a0 j g;split at hm
     ·rename_i g' ds2 js2 rq2 ht hr;cases hm;obtain⟨id,hid,hid2⟩:=hj 0 j rfl;obtain⟨a,b,c,d⟩:=M0 (j0:=j0+1) hs rest hr (fun p hp=>hq p (by simp[hp])) h2 h4 hf' hl' (fun m j2 hm2=>by
       obtain⟨id2,q1,q2⟩:=hj (m+1) j2 hm2;exact⟨id2,q1,by rw[show j0+1+m=j0+(m+1)from by omega];exact q2⟩)
      have hg:=hq (.int .i64 (g:Int),.int .i64 (g':Int)) (by simp)
      simp only[D.int.injEq,true_and]at hg;have hg:g=g':=by omega
      subst hg;obtain⟨id3,r,gr,h5,h6,h7⟩:=h3;rw[hid]at h5;cases h5;refine⟨⟨_,_,rfl,⟨id,r,gr,by simpa using hid2,h6,by simpa[gD]using h7⟩,a⟩,b,by simp[c],fun m j2 hm2=>?_⟩
      cases m with
      |zero=>cases hm2;exact⟨g,by simp[gD],ht⟩
      |succ m=>exact d m j2 hm2
     ·cases hm
    ·cases hm
   ·rename_i hc
    try rw[if_neg hc]
    split at hm
    ·obtain⟨a,b,c,d⟩:=M0 hs rest hm hq h2 h4 hf' hl' hj;exact⟨⟨_,_,rfl,h3,a⟩,b,c,d⟩
    ·cases hm
theorem P8{ids ids' ids'':List Nat}(h1:Sub ids ids')(h2:Sub ids ids''){jk:List Nat}{F0 F':Nat→Obj}:∀{l l':List SO} {j:Nat} {ds:List D} {rq:List (D × D)} (rest:List D),Ro h jk j l l'=some (ds,rq)→(∀p∈rq,p.1=p.2)→(∀(k:Nat) (o:SO),l[k]?=some o→o.live→VO ids o (F0 (j+k)))→(∀(k:Nat) (o:SO),l'[k]?=some o→o.live→VO ids' o (F' (j+k)))→(mkT h jk j l (ds++rest)).length=l.length∧∀(k:Nat) (o:SO),(mkT h jk j l (ds++rest))[k]?=some o→o.live→(j+k) ∉ jk∧(∃o',l'[k]?=some o'∧o'.live)∧VO ids'' o (F' (j+k))
 | [],l',j,ds,rq,rest,hm,hq,h0,h'=>by unfold mkT;exact⟨rfl,fun k o hk=>by simp at hk⟩
 |o::l,[],j,ds,rq,rest,hm,hq,h0,h'=>by unfold Ro at hm;cases hm
 |o::l,o'::l',j,ds,rq,rest,hm,hq,h0,h'=>by
  have h0':∀(k:Nat) (o:SO),l[k]?=some o→o.live→VO ids o (F0 (j+1+k)):=fun k q hk hl=>by
   rw[show j+1+k=j+(k+1)from by omega]
   exact h0 (k+1) q hk hl
  have h'':∀(k:Nat) (o:SO),l'[k]?=some o→o.live→VO ids' o (F' (j+1+k)):=fun k q hk hl=>by
   rw[show j+1+k=j+(k+1)from by omega]
   exact h' (k+1) q hk hl
  have hrec:∀{x:SO} {l2:List SO},(l2.length=l.length∧∀(k:Nat) (o:SO),l2[k]?=some o→o.live→(j+1+k) ∉ jk∧(∃o',l'[k]?=some o'∧o'.live)∧VO ids'' o (F' (j+1+k)))→(x.live→j ∉ jk∧o'.live∧VO ids'' x (F' j))→(x::l2).length=(o::l).length∧∀(k:Nat) (q:SO),(x::l2)[k]?=some q→q.live→(j+k) ∉ jk∧(∃q',(o'::l')[k]?=some q'∧q'.live)∧VO ids'' q (F' (j+k)):=fun {x l2} hl2 hx=>by
   refine⟨by simp[hl2.1],fun k q hk hq=>?_⟩
   cases k with
   |zero=>cases hk;obtain⟨a,b,c⟩:=hx hq;exact⟨a,⟨o',rfl,b⟩,c⟩
   |succ k=>
    rw[show j+(k+1)=j+1+k from by omega]
    exact hl2.2 k q hk hq
  unfold Ro at hm;unfold mkT;split at hm
  ·rename_i hc
   try rw[if_pos hc]
   exact hrec (P8 h1 h2 rest hm hq h0' h'') fun hx=>hx.elim
  ·rename_i hc
   try rw[if_neg hc]
   have hnj:j ∉ jk:=by simpa using hc
   split at hm
   ·rename_i ho
    try rw[if_pos ho]
    split at hm
    ·rename_i cs;split at hm
     ·rename_i cs';split at hm
      ·rename_i hlen;split at hm
       ·rename_i ds2 r2 rq2 hv hr;cases hm;have hvl:∀xs,VL ids' cs' xs→xs=ds2:=fun xs hx=>D6 hv hx;obtain⟨xs,hx1,hx2⟩:=h' 0 (.cells cs') rfl trivial;have:=hvl xs hx2;subst this;have hlx:xs.length=cs.length:=by rw[← hx2.len,hlen]
        try dsimp only
        rw[List.append_assoc,← hlx,(Ady (ids:=ids'') xs (r2++rest)).2];refine hrec (P8 h1 h2 rest hr hq h0' h'') fun _=>⟨hnj,trivial,xs,hx1,(Ady xs (r2++rest)).1⟩
       ·cases hm
      ·cases hm
     ·cases hm
    ·rename_i hno;exact hrec (P8 h1 h2 rest hm hq h0' h'') fun hx=>hx.elim
   ·rename_i ho
    try rw[if_neg ho]
    split at hm
    ·rename_i rq1 ds2 rq2 he hr;cases hm;refine hrec (P8 h1 h2 rest hr (fun p hp=>hq p (by simp[hp])) h0' h'') fun hx=>?_
     have h3:=h0 0 o rfl hx;have hlive':o'.live:=by
      cases o with
      |junk=>exact hx.elim
      |cells l2=>cases o'<;>first|trivial|simp[Av4]at he
      |tok g=>cases o'<;>first|trivial|simp[Av4]at he
     obtain⟨h4,h5⟩:=A33 h1 h2 he (fun p hp=>hq p (by simp[hp])) hx (h' 0 o' rfl hlive') h3
     exact⟨hnj,h4,h5⟩
    ·cases hm
end
section
variable{Pw:Nat→Prop}{n0:Nat}
theorem Afk:∀{l:List Nat},nodupB l=true→∀{i j x:Nat},l[i]?=some x→l[j]?=some x→i=j
 | [],_,_,_,_,hi,_=>by cases hi
 |a::l,h,i,j,x,hi,hj=>by
  simp only[nodupB,Bool.and_eq_true,Bool.not_eq_true',List.contains_eq_mem,decide_eq_false_iff_not]at h;cases i with
  |zero=>
   cases hi;cases j with
   |zero=>rfl
   |succ j=>exact absurd (List.mem_of_getElem? (show l[j]?=some _ from hj)) h.1
  |succ i=>
   cases j with
   |zero=>cases hj;exact absurd (List.mem_of_getElem? (show l[i]?=some _ from hi)) h.1
   |succ j=>rw[Afk h.2 (show l[i]?=some x from hi) (show l[j]?=some _ from hj)]
theorem Afs{A:List Nat}{h:Hint}{e e':List S}{t t':List SO}{al:List Nat}{ds:List D}{rq:List (D × D)}{ids ids':List Nat}{E0 E':Env}{st0 st':St}(hm:Ad4 A h e t al e' t'=some (ds,rq))(hq:∀p∈rq,p.1=p.2)
  (h0:VL ids e E0)(hr0:Rp Pw n0 ids t st0)(hs:Sub ids ids')(h':VL ids' e' E')(hr':Rp Pw n0 ids' t' st')(hf:Fr A E0 E'):
  ∃ids'',Sub ids ids''∧VL ids'' (mkE A h al 0 t.length e ds).1 E'∧Rp Pw n0 ids'' (mkT h (Lr A h 0 e) 0 t (mkE A h al 0 t.length e ds).2.2++(mkE A h al 0 t.length e ds).2.1) st':=by
 unfold Ad4 at hm;split at hm
 ·rename_i ds1 js rq1 ds2 rq2 hE hT;split at hm
  ·rename_i hc;simp only[Bool.and_eq_true,List.all_eq_true,Bool.or_eq_true,decide_eq_true_eq,List.contains_iff_mem]at hc;obtain⟨hnd,hjs⟩:=hc;cases hm;have hq1:∀p∈rq1,p.1=p.2:=fun p hp=>hq p (by simp[hp])
   have hq2:∀p∈rq2,p.1=p.2:=fun p hp=>hq p (by simp[hp])
   have hsub2:Sub ids (ids++js.map fun j=>ids'.getD j 0):=Sub.app;have hown:∀{i:Nat} {l l':List S} {ds js rq},Ka A h al t' i l l'=some (ds,js,rq)→∀j∈js,∃g,t'[j]?=some (.tok g):=by
    intro i l;induction l generalizing i with
    |nil=>intro l' ds js rq hm j hj;unfold Ka at hm;cases hm;cases hj
    |cons s l ih=>
     intro l' ds js rq hm j hj;cases l' with
     |nil=>unfold Ka at hm;cases hm
     |cons s' l'=>
      unfold Ka at hm;split at hm
      ·exact ih hm j hj
      ·exact ih hm j hj
      ·split at hm
       ·rename_i hr;cases hm;exact ih hr j hj
       ·cases hm
      ·split at hm
       ·split at hm
        ·split at hm
         ·rename_i g' ds2 js2 rq2 ht hr;cases hm;rcases List.mem_cons.1 hj with rfl|hj
          ·exact⟨g',ht⟩
          ·exact ih hr j hj
         ·cases hm
        ·cases hm
       ·split at hm
        ·exact ih hm j hj
        ·cases hm
   have hids:∀(m j:Nat),js[m]?=some j→∃id,ids'[j]?=some id∧(ids++js.map fun j=>ids'.getD j 0)[t.length+m]?=some id:=fun m j hmj=>by
    obtain⟨g,hg⟩:=hown hE j (List.mem_of_getElem? hmj);obtain⟨id,hid⟩:=hr'.id hg;refine⟨id,hid,?_⟩;rw[hr0.len,List.getElem?_append_right (by omega)]
    simp only[Nat.add_sub_cancel_left,List.getElem?_map,hmj,Option.map_some,List.getD_eq_getElem?_getD,hid,Option.getD_some]
   obtain⟨a1,a2,a3,a4⟩:=M0 (j0:=t.length) hsub2 ds2 hE hq1 h0 h' (fun k hk=>hf.2 k (by simpa using hk)) hf.1 hids
   have hF0:∀(k:Nat) (o:SO),t[k]?=some o→o.live→VO ids o (st0.getD (ids.getD (0+k) 0) .dead):=fun k o hk hl=>by obtain⟨id,hid⟩:=hr0.id hk;obtain⟨ob,h1,h2⟩:=hr0.obj k o id hk hid hl;simpa only[Nat.zero_add,List.getD_eq_getElem?_getD,hid,Option.getD_some,h1]using h2
   have hF':∀(k:Nat) (o:SO),t'[k]?=some o→o.live→VO ids' o (st'.getD (ids'.getD (0+k) 0) .dead):=fun k o hk hl=>by obtain⟨id,hid⟩:=hr'.id hk;obtain⟨ob,h1,h2⟩:=hr'.obj k o id hk hid hl;simpa only[Nat.zero_add,List.getD_eq_getElem?_getD,hid,Option.getD_some,h1]using h2
   obtain⟨b1,b2⟩:=P8 (ids'':=ids++js.map fun j=>ids'.getD j 0) hs hsub2 (F0:=fun k=>st0.getD (ids.getD k 0) .dead) (F':=fun k=>st'.getD (ids'.getD k 0) .dead) [] hT hq2 hF0 hF';rw[List.append_nil]at b1 b2;rw[a2];refine⟨_,hsub2,a1,?_⟩;have hcut:∀(k id:Nat),(ids++js.map fun j=>ids'.getD j 0)[k]?=some id→(k<t.length∧ids[k]?=some id∧ids'[k]?=some id)∨(∃m j,k=t.length+m∧js[m]?=some j∧ids'[j]?=some id):=fun k id hk=>by
    by_cases hlt:k<t.length
    ·rw[List.getElem?_append_left (by rw[← hr0.len];exact hlt)]at hk
     exact .inl ⟨hlt,hk,hs _ _ hk⟩
    ·have hm:k=t.length+(k - t.length):=by omega
     have hmj:∃j,js[k - t.length]?=some j:=by have:=(List.getElem?_eq_some_iff.1 hk).1;simp only[List.length_append,List.length_map]at this;rw[← hr0.len]at this;exact⟨_,List.getElem?_eq_getElem (by omega)⟩
     obtain⟨j,hj⟩:=hmj;obtain⟨id2,h1,h2⟩:=hids _ j hj;rw[← hm,hk]at h2;cases h2;exact .inr ⟨_,j,hm,hj,h1⟩
   have hlow:∀(k:Nat) (o:SO),k<t.length→(mkT h (Lr A h 0 e) 0 t ds2++(mkE A h al 0 t.length e (ds1++ds2)).2.1)[k]?=some o→o.live→k ∉ Lr A h 0 e∧(∃o',t'[k]?=some o'∧o'.live)∧VO (ids++js.map fun j=>ids'.getD j 0) o (st'.getD (ids'.getD k 0) .dead):=fun k o hk ho hl=>by
    rw[List.getElem?_append_left (by rw[b1];exact hk)]at ho
    have:=b2 k o ho hl
    rwa [Nat.zero_add]at this
   have hhigh:∀(m j:Nat) (o:SO),js[m]?=some j→(mkT h (Lr A h 0 e) 0 t ds2++(mkE A h al 0 t.length e (ds1++ds2)).2.1)[t.length+m]?=some o→∃g,o= .tok g∧t'[j]?=some (.tok g):=fun m j o hm ho=>by
    rw[List.getElem?_append_right (by rw[b1];omega),b1]at ho
    obtain⟨g,h1,h2⟩:=a4 m j hm;simp only[Nat.add_sub_cancel_left]at ho;rw[h1]at ho;cases ho;exact⟨g,rfl,h2⟩
   refine⟨by rw[List.length_append,b1,a3,List.length_append,List.length_map,hr0.len],fun k o id hk hid hl=>?_,fun i j id hi hj hli hlj=>?_,fun k id hk=>?_,hr'.len0,fun k id hk=>?_,hr'.new⟩
   ·rcases hcut k id hid with⟨hlt,h1,h2⟩|⟨m,j,rfl,h1,h2⟩
    ·obtain⟨_,⟨o',h3,h4⟩,h5⟩:=hlow k o hlt hk hl;obtain⟨ob,h6,_⟩:=hr'.obj k o' id h3 h2 h4;refine⟨ob,h6,?_⟩;simpa only[List.getD_eq_getElem?_getD,h2,Option.getD_some,h6]using h5
    ·obtain⟨g,rfl,h3⟩:=hhigh m j o h1 hk;obtain⟨ob,h4,h5⟩:=hr'.obj j _ id h3 h2 trivial;exact⟨ob,h4,h5⟩
   ·obtain⟨oi,hoi,hoil⟩:=hli;obtain⟨oj,hoj,hojl⟩:=hlj;rcases hcut i id hi with⟨hlt,h1,h2⟩|⟨m,x,rfl,h1,h2⟩
    ·obtain⟨h3,⟨o',h4,h5⟩,_⟩:=hlow i oi hlt hoi hoil;rcases hcut j id hj with⟨hlt',h6,h7⟩|⟨m',x',rfl,h6,h7⟩
     ·obtain⟨_,⟨o'',h8,h9⟩,_⟩:=hlow j oj hlt' hoj hojl;exact hr'.inj i j id h2 h7 ⟨o',h4,h5⟩ ⟨o'',h8,h9⟩
     ·obtain⟨g,rfl,h8⟩:=hhigh m' x' oj h6 hoj;have:i=x':=hr'.inj i x' id h2 h7 ⟨o',h4,h5⟩ ⟨_,h8,trivial⟩;subst this;rcases hjs i (List.mem_of_getElem? h6)with h9|h9
      ·omega
      ·exact absurd h9 h3
    ·obtain⟨g,rfl,h3⟩:=hhigh m x oi h1 hoi;rcases hcut j id hj with⟨hlt',h6,h7⟩|⟨m',x',rfl,h6,h7⟩
     ·obtain⟨h10,⟨o'',h8,h9⟩,_⟩:=hlow j oj hlt' hoj hojl;have:x=j:=hr'.inj x j id h2 h7 ⟨_,h3,trivial⟩ ⟨o'',h8,h9⟩;subst this;rcases hjs x (List.mem_of_getElem? h1)with h11|h11
      ·omega
      ·exact absurd h11 h10
     ·obtain⟨g',rfl,h8⟩:=hhigh m' x' oj h6 hoj;have:x=x':=hr'.inj x x' id h2 h7 ⟨_,h3,trivial⟩ ⟨_,h8,trivial⟩;subst this;rw[Afk hnd h1 h6]
   ·rcases hcut k id hk with⟨_,_,h2⟩|⟨m,j,_,_,h2⟩
    ·exact hr'.lt _ _ h2
    ·exact hr'.lt _ _ h2
   ·rcases hcut k id hk with⟨_,_,h2⟩|⟨m,j,_,_,h2⟩
    ·exact hr'.own _ _ h2
    ·exact hr'.own _ _ h2
  ·cases hm
 ·cases hm
theorem Adh{A:List Nat}{h:Hint}{e e':List S}{t t':List SO}{a:Nat}{ds:List D}{rq:List (D × D)}:∀{n:Nat} {l:List (List Nat)},Xf A h e t e' t' n l=some (a,ds,rq)→∃k al,a=n+k∧l[k]?=some al∧Ad4 A h e t al e' t'=some (ds,rq)
 |n,[],hm=>by simp[Xf]at hm
 |n,al::l,hm=>by
  unfold Xf at hm;split at hm
  ·rename_i r hr;cases hm;exact⟨0,al,rfl,rfl,hr⟩
  ·obtain⟨k,al',h1,h2,h3⟩:=Adh hm;exact⟨k+1,al',by omega,h2,h3⟩
variable{C:Eo}{cf:Ah}{N:Nat}{LQ:List D→List (List D)→Prop}{J:List (Nat→List D→Prop)}{od:Nat→Option (List Nat × Bool)}{hs:List Hint}
theorem Af3{A:List Nat}{h:Hint}{e e':List S}{t t':List SO}{k:Nat→List D→Tree}{P:Program}(hw:wp P cf N LQ (Adw A h e t e' t' k) J):∃a al ds rq,h.alts[a]?=some al∧Ad4 A h e t al e' t'=some (ds,rq)∧(∀p∈rq,p.1=p.2)∧wp P cf N LQ (k a ds) J:=by
 unfold Adw at hw;split at hw
 ·rename_i a ds rq hf;obtain⟨n,al,h1,h2,h3⟩:=Adh hf;rw[Nat.zero_add]at h1;subst h1;unfold Bde at hw;split at hw
  ·exact⟨a,al,ds,[],h2,h3,by simp,hw⟩
  ·unfold wp at hw;exact⟨a,al,ds,rq,h2,h3,hw.1,hw.2⟩
 ·exact(Aq hw).elim
theorem Ai7:∀{l:List (List D→Tree)} {a:Nat} {f:List D→Tree} {ds:List D},l[a]?=some f→Ca l a ds=f ds
 | [],_,_,_,h=>by cases h
 |f::l,0,_,_,h=>by cases h;rfl
 |f::l,a+1,_,_,h=>Ai7 (l:=l) h
theorem Bfy(hK:∀f,Ba (cf f))(hod:True):∀(c:Code) (li lv:Nat) (e:List S) (t:List SO) (k:Ex→List S→List SO→Tree) (J:List (Nat→List D→Prop)) (ids:List Nat) (E:Env) (st:St) (Q:Ex→Env→St→Prop),wp C.P cf N LQ (pe C od hs c li lv e t k) J→lv≤J.length→VL ids e E→Rp Pw n0 ids t st→(∀x e' t' J' ids' E' st',J'.take lv=J.take lv→lv≤J'.length→Sub ids ids'→VL ids' e' E'→Rp Pw n0 ids' t' st'→wp C.P cf N LQ (k x e' t') J'→Q x E' st')→ExO C false od cf N Pw c E st Q:=by
 intro c;induction c with
 |skip=>intro li lv e t k J ids E st Q hw hJ hE hr hk;unfold pe at hw;exact Awr (hk _ e t J ids E st rfl hJ (Sub.refl _) hE hr hw)
 |label id=>intro li lv e t k J ids E st Q hw hJ hE hr hk;unfold pe at hw;exact⟨⟨_,_,_,_,rfl,by simp,hk _ e t J ids E st rfl hJ (Sub.refl _) hE hr hw⟩⟩
 |exit id=>intro li lv e t k J ids E st Q hw hJ hE hr hk;unfold pe at hw;exact Avq (hk _ e t J ids E st rfl hJ (Sub.refl _) hE hr hw)
 |ret=>intro li lv e t k J ids E st Q hw hJ hE hr hk;unfold pe at hw;exact Ay7 (hk _ e t J ids E st rfl hJ (Sub.refl _) hE hr hw)
 |region id ops draw=>
  intro li lv e t k J ids E st Q hw hJ hE hr hk;unfold pe at hw;have key:∀{dr:Bool} {B:Array Nat} {l:List Nat},wp C.P cf N LQ (Vo C dr ops B l [] e t (k .norm)) J→(∀r,Ay C false cf dr ops B l [] E st []=some r→region C false cf (od id) ops draw E st=some r)→ExO C false od cf N Pw (.region id ops draw) E st Q:=fun {dr B l} h1 h2=>by
   obtain⟨ids',E',st',V,h3,h4,h5⟩:=Tt hK (R:=fun _ E' st'=>Q .norm E' st') l [] e t ids E st [] [] h1 hE hr (fun q hq=>by cases hq) (by simp)
    (fun e' t' ids' E' st' a b c d=>hk .norm e' t' J ids' E' st' rfl hJ a b c d)
   refine⟨⟨.norm,E',st',V,?_,h4,h5⟩⟩;unfold exec;rw[h2 _ h3]
  have keyj:∀{dr:Bool} {B:Array Nat} {l:List Nat},wp C.P cf N LQ (Aqs C dr ops B l e t (k .norm)) J→(∀r,Ay C false cf dr ops B l [] E st []=some r→region C false cf (od id) ops draw E st=some r)→ExO C false od cf N Pw (.region id ops draw) E st Q:=fun {dr B l} h1 h2=>by obtain⟨E',st',V,h3,h4,h5⟩:=A0s hK (R:=fun E' st'=>Q .norm E' st') h1 hE hr (fun e' E' a b=>hk .norm e' t J ids E' st rfl hJ (Sub.refl _) a hr b);refine⟨⟨.norm,E',st',V,?_,h4,h5⟩⟩;unfold exec;rw[h2 _ h3]
  split at hw
  ·split at hw
   ·rename_i hd;split at hw
    ·rename_i l hl;exact keyj hw fun r hr=>by unfold region;rw[if_pos hd,hl];exact hr
    ·rename_i l hl;exact keyj hw fun r hr=>by unfold region;rw[if_pos hd,hl];exact hr
    ·exact(Aq hw).elim
   ·rename_i hd;exact keyj hw fun r hr=>by unfold region;rw[if_neg hd];exact hr
  split at hw
  ·rename_i hd;split at hw
   ·rename_i l hl;exact key hw fun r hr=>by unfold region;rw[if_pos hd,hl];exact hr
   ·rename_i l hl;exact key hw fun r hr=>by unfold region;rw[if_pos hd,hl];exact hr
   ·exact(Aq hw).elim
  ·rename_i hd;exact key hw fun r hr=>by unfold region;rw[if_neg hd];exact hr
 |seq a b iha ihb=>
  intro li lv e t k J ids E st Q hw hJ hE hr hk;unfold pe at hw;refine A00 (iha _ _ _ _ _ _ ids _ _ _ hw hJ hE hr fun x e' t' J' ids' E' st' h1 h2 h3 h4 h5 h6=>?_);cases x with
  |norm=>exact ihb _ _ _ _ _ _ ids' _ _ _ h6 h2 h4 h5 fun x e2 t2 J2 ids2 E2 st2 a1 a2 a3 a4 a5 a6=>hk x e2 t2 J2 ids2 E2 st2 (a1.trans h1) a2 (h3.trans a3) a4 a5 a6
  |exit i=>exact hk _ e' t' J' ids' E' st' h1 h2 h3 h4 h5 h6
  |ret=>exact hk _ e' t' J' ids' E' st' h1 h2 h3 h4 h5 h6
 |cond c a b iha ihb=>
  intro li lv e t k J ids E st Q hw hJ hE hr hk;unfold pe at hw;have hc:=Cj hE c;split at hw
  ·rename_i h1;rw[h1]at hc;exact Ak5 hc (iha _ _ _ _ _ _ ids _ _ _ hw hJ hE hr hk)
  ·rename_i h1;rw[h1]at hc;exact Afn hc (ihb _ _ _ _ _ _ ids _ _ _ hw hJ hE hr hk)
  ·rename_i d h1;rw[h1]at hc;unfold wp at hw;obtain⟨b',hb,hw1,hw2⟩:=hw;have hput:VL ids (Aah e (pe.tmpOf c) (.lit (.bool b'))) E:=by
    cases c with
    |tmp x=>
     unfold pe.tmpOf;have h2:=hE.set (i:=x) (s:= .lit (.bool b')) (d:= .bool b') rfl;have h3:E.set x (.bool b')=E:=by
      apply List.ext_getElem?;intro i;rw[List.getElem?_set];split
      ·rename_i hi;subst hi;split
       ·rename_i hlt;have h4:ev E (.tmp x)=d:=hc;unfold ev at h4;dsimp only at h4;rw[List.getD_eq_getElem?_getD,List.getElem?_eq_getElem hlt]at h4;rw[List.getElem?_eq_getElem hlt];simp only[Option.getD_some]at h4;rw[h4,hb]
       ·rename_i hlt;rw[List.getElem?_eq_none (by omega)]
      ·rfl
     rw[h3]at h2;exact h2
    |_=>exact hE
   cases b' with
   |true=>exact Ak5 (by rw[show ev E c=d from hc,hb]) (iha _ _ _ _ _ _ ids _ _ _ (hw1 rfl) hJ hput hr hk)
   |false=>exact Afn (by rw[show ev E c=d from hc,hb]) (ihb _ _ _ _ _ _ ids _ _ _ (hw2 rfl) hJ hput hr hk)
  ·exact(Aq hw).elim
 |block id b ih=>
  intro li lv e t k J ids E st Q hw hJ hE hr hk;unfold pe at hw;refine Asu (ih _ _ _ _ _ _ ids _ _ _ hw hJ hE hr fun x e' t' J' ids' E' st' h1 h2 h3 h4 h5 h6=>?_);cases x with
  |norm=>exact hk _ e' t' J' ids' E' st' h1 h2 h3 h4 h5 h6
  |exit i=>exact hk _ e' t' J' ids' E' st' h1 h2 h3 h4 h5 h6
  |ret=>exact hk _ e' t' J' ids' E' st' h1 h2 h3 h4 h5 h6
 |loop b ih=>
  intro li lv e t k J ids E st Q hw hJ hE hr hk;unfold pe at hw;dsimp only at hw;generalize hh:hs.getD li {}=h at hw;obtain⟨a0,al0,ds0,rq0,h1,h2,h3,hw⟩:=Af3 hw;unfold wp at hw;obtain⟨I,n,hn,hI,hbody⟩:=hw;let Inv:Nat→Env→St→Prop:=fun m E1 st1=>∃a al ds ids1,h.alts[a]?=some al∧I m a ds∧Sub ids ids1∧Fr (Le b) E E1∧VL ids1 (mkE (Le b) h al 0 t.length e ds).1 E1∧Rp Pw n0 ids1 (mkT h (Lr (Le b) h 0 e) 0 t (mkE (Le b) h al 0 t.length e ds).2.2++(mkE (Le b) h al 0 t.length e ds).2.1) st1;refine Awv Inv n hn ?_ ?_
  ·obtain⟨ids1,q1,q2,q3⟩:=Afs h2 h3 hE hr (Sub.refl _) hE hr (Fr.refl _ _);exact⟨a0,al0,ds0,ids1,h1,hI,q1,Fr.refl _ _,q2,q3⟩
  ·rintro m E1 st1 ⟨a,al,ds,ids1,q1,q2,q3,q4,q5,q6⟩;have hb:=hbody m a ds q2;rw[Ai7 (f:=fun ds=>pe C od hs b (li+1) (lv+1) (mkE (Le b) h al 0 t.length e ds).1 (mkT h (Lr (Le b) h 0 e) 0 t (mkE (Le b) h al 0 t.length e ds).2.2++(mkE (Le b) h al 0 t.length e ds).2.1) fun x e' t'=>match x with
    | .norm=>Adw (Le b) h e t e' t' fun a vs=> .again lv a vs
    |x=>k x e' t') (by rw[List.getElem?_map,q1];rfl)]at hb
   have hlen:(J.take lv).length=lv:=by rw[List.length_take];omega
   refine A70 (ih _ _ _ _ _ _ ids1 _ _ _ hb (by rw[List.length_append,hlen];simp) q5 q6 fun x e' t' J' ids' E' st' p1 p2 p3 p4 p5 p6 hfr=>?_)
   rw[List.take_of_length_le (l:=J.take lv++_) (by rw[List.length_append,hlen];simp)]at p1
   have hJ':J'.take lv=J.take lv:=by
    have:=congrArg (List.take lv) p1;rw[List.take_take,show min lv (lv+1)=lv from by omega]at this
    rw[this,List.take_append_of_le_length (by omega),List.take_take]
    simp
   cases x with
   |norm=>
    dsimp only at p6 ⊢;obtain⟨a',al',vs,rq',r1,r2,r3,p6⟩:=Af3 p6;unfold wp at p6;have hget:J'[lv]?=some (fun a' ds'=>∃n',n'<m∧I n' a' ds'):=by
     have h5:(J'.take (lv+1))[lv]?=J'[lv]?:=by rw[List.getElem?_take];simp
     rw[← h5,p1,List.getElem?_append_right (by omega),hlen]
     simp
    rw[hget]at p6;obtain⟨n',hn',hI'⟩:=p6;obtain⟨ids2,s1,s2,s3⟩:=Afs r2 r3 hE hr (q3.trans p3) p4 p5 (q4.trans hfr);exact⟨n',hn',a',al',vs,ids2,r1,hI',s1,q4.trans hfr,s2,s3⟩
   |exit i=>exact hk _ e' t' J' ids' E' st' hJ' (by omega) (q3.trans p3) p4 p5 p6
   |ret=>exact hk _ e' t' J' ids' E' st' hJ' (by omega) (q3.trans p3) p4 p5 p6
 |_=>intro li lv e t k J ids E st Q hw hJ hE hr hk;unfold pe at hw;exact(Aq hw).elim
end
mutual
theorem Ahs{n:Nat}:∀(d:D),D8 0 d=false→D8 n d=false
 | .ptr id off,h=>by simp[D8]at h
 | .arr a b c d e,h=>by simp[D8]at h
 | .map id,h=>by simp[D8]at h
 | .sl rows gr,h=>by
  simp only[D8,Bool.or_eq_false_iff]at h ⊢;refine⟨?_,Apr rows h.2⟩;cases gr with
  |tok id g=>simp at h
  |_=>rfl
 | .eptr cs,h=>R4 cs h
 | .func f a b,h=>by simp only[D8,Bool.or_eq_false_iff]at h ⊢;exact⟨R4 a h.1,R4 b h.2⟩
 | .iface t d,h=>Ahs d h
 | .agg cs,h=>R4 cs h
 | .tup cs,h=>R4 cs h
 | .undef,h| .int ..,h| .bool _,h| .str _,h| .nilp,h| .nilsl,h| .nilmap,h| .nilfunc,h| .nilif,h=>rfl
theorem R4{n:Nat}:∀(l:List D),F6 0 l=false→F6 n l=false
 | [],_=>rfl
 |d::l,h=>by simp only[F6,Bool.or_eq_false_iff]at h ⊢;exact⟨Ahs d h.1,R4 l h.2⟩
theorem Apr{n:Nat}:∀(l:List (List D)),Gt 0 l=false→Gt n l=false
 | [],_=>rfl
 |d::l,h=>by simp only[Gt,Bool.or_eq_false_iff]at h ⊢;exact⟨R4 d h.1,Apr l h.2⟩
end
section
variable{C:Eo}{cf:Ah}{N:Nat}{Pw:Nat→Prop}{n0:Nat}
theorem A1n{P:Program}{e:List S}{t:List SO}{ids:List Nat}{E:Env}{st:St}(hE:VL ids e E)(hr:Rp Pw n0 ids t st):∀{l:List ResultVar} {rs:List D},Ajr P e t l=some rs→∃vals,Gm P E st l=some vals∧∀vs,Eb Jf rs=some vs→Eu (frz Gu) st vals=some (vs,st):=by
 have hcons:∀{d x:D} {rs vals:List D},(∀d',Jf d=some d'→Jf x=some d')→(∀vs,Eb Jf rs=some vs→Eu (frz Gu) st vals=some (vs,st))→∀vs,Eb Jf (d::rs)=some vs→Eu (frz Gu) st (x::vals)=some (vs,st):=fun {d x rs vals} h1 h2 vs h=>by
  simp only[Eb]at h;split at h
  ·rename_i d' r h3 h4;cases h;unfold Eu;rw[show Gu=7+2 from rfl,Ait (h1 _ h3)];dsimp only;rw[show(7+2)=Gu from rfl,h2 _ h4]
  ·cases h
 intro l;induction l with
 |nil=>intro rs h;simp only[Ajr,Option.some.injEq]at h;subst h;exact⟨[],rfl,fun vs h=>by simp only[Eb,Option.some.injEq]at h;subst h;rfl⟩
 |cons r l ih=>
  intro rs h;cases r with
  |tmp x=>
   simp only[Ajr]at h;split at h
   ·rename_i d ds h1 h2;cases h;obtain⟨vals,h3,h4⟩:=ih h2;have hv:VS ids (e.getD x (.lit .undef)) (E.getD x .undef):=Cj hE (.tmp x);exact⟨_,by simp only[Gm,h3];rfl,hcons (fun d' hd=>Aor h1 hv hd) h4⟩
   ·cases h
  |cell a ty=>
   simp only[Ajr]at h;have hv:VS ids (e.getD a (.lit .undef)) (E.getD a .undef):=Cj hE (.tmp a);split at h
   ·rename_i j off he;rw[he]at hv;obtain⟨id,h5,h6⟩:=hv;split at h
    ·rename_i cs hj;split at h
     ·rename_i d ds h1 h2;cases h;obtain⟨vals,h3,h4⟩:=ih h2;rw[Option.bind_eq_some_iff]at h1;obtain⟨s,h7,h8⟩:=h1;obtain⟨id',cs',h9,h10,h11⟩:=hr.cells hj;rw[h5]at h9;cases h9;obtain⟨v,h12,h13⟩:=Wi h7 h11;refine⟨v::vals,?_,hcons (fun d' hd=>Aor h8 h13 hd) h4⟩;simp only[Gm,h6,Fp,h10,h12,h3,Option.map_some]
     ·cases h
    ·cases h
   ·cases h
theorem Aw8(hK:∀f,Ba (cf f)){f:FuncId}{fn:Func}{c:Code}{hs:List Hint}{args:List S}{olds:List SO}{ids:List Nat}{xs:List D}{st:St}{LQ:List D→List (List D)→Prop}
  (hw:wp C.P cf N LQ (Hd C f fn c hs args olds) [])(ha:VL ids args xs)(hr:Rp Pw n0 ids olds st):
  ∃x E' st' V,exec C false (C.ords f) cf N c (xs++List.replicate (fn.ntmps - xs.length) .undef) st=some (x,E',st',V)∧(∀id∈V,Pw id)∧(x= .norm∨x= .ret)∧∃rs os vals ids' t',LQ rs os∧Gm C.P E' st' fn.results.toList=some vals∧(∀vs,Eb Jf rs=some vs→Eu (frz Gu) st' vals=some (vs,st'))∧Sub ids ids'∧Rp Pw n0 ids' t' st'∧Ahc olds.length t'=some os:=by
 unfold Hd at hw;have hlen:=ha.len;have h1:=Bfy hK trivial (C:=C) (od:=C.ords f) c 0 0 _ olds _ [] ids (xs++List.replicate (fn.ntmps - xs.length) .undef) st
  (fun x E' st'=>(x= .norm∨x= .ret)∧∃rs os vals ids' t',LQ rs os∧Gm C.P E' st' fn.results.toList=some vals∧(∀vs,Eb Jf rs=some vs→Eu (frz Gu) st' vals=some (vs,st'))∧Sub ids ids'∧Rp Pw n0 ids' t' st'∧Ahc olds.length t'=some os)
  hw (Nat.zero_le _) (by rw[hlen];exact ha.append (VL.rep _)) hr (fun x e' t' J' ids' E' st' _ _ h3 h4 h5 h6=>by
   have key:wp C.P cf N LQ (match Ajr C.P e' t' fn.results.toList,Ahc olds.length t' with
    |some rs,some os=> .leaf rs os
    |_,_=> .fail) J'→∃rs os vals ids' t',LQ rs os∧Gm C.P E' st' fn.results.toList=some vals∧(∀vs,Eb Jf rs=some vs→Eu (frz Gu) st' vals=some (vs,st'))∧Sub ids ids'∧Rp Pw n0 ids' t' st'∧Ahc olds.length t'=some os:=fun h=>by
    split at h
    ·rename_i rs os h7 h8;unfold wp at h;obtain⟨vals,h9,h10⟩:=A1n h4 h5 h7;exact⟨rs,os,vals,ids',t',h,h9,h10,h3,h5,h8⟩
    ·exact(Aq h).elim
   cases x with
   |norm=>exact⟨.inl rfl,key h6⟩
   |ret=>exact⟨.inr rfl,key h6⟩
   |exit i=>exact(Aq h6).elim)
 obtain⟨x,E',st',V,a,b,c',d⟩:=h1.ex;exact⟨x,E',st',V,a,b,c',d⟩
def Ck(v:D)(rs:List D):Prop:=D8 0 v=false∧∃vs,Eb Jf rs=some vs∧oneOf vs=v
theorem Axp{f:FuncId}{fn:Func}{c:Code}{xs:List D}{st st':St}{x:Ex}{E':Env}{V:Cb}{vals vs:List D}(hfn:C.P.funcs[f]?=some fn)(hb:fn.body=some c)(hh:C.hnd.contains f=false)(hk:C.keepArr.contains f=false)(hk2:C.keepNil.contains f=false)
  (h1:exec C false (C.ords f) cf N c (xs++List.replicate (fn.ntmps - xs.length) .undef) st=some (x,E',st',V))(h2:x= .norm∨x= .ret)(h3:Gm C.P E' st' fn.results.toList=some vals)(h4:Eu (frz Gu) st' vals=some (vs,st')):
  run C cf N f xs st=finish st.length (oneOf vs) st' V:=by
 unfold run;rw[hfn];dsimp only;rw[hb];dsimp only;rw[hh,h1];have hz:Ls C f vals st'=some (vs,st'):=by unfold Ls;rw[hk,hk2];exact h4
 rcases h2 with rfl|rfl
 all_goals
  dsimp only;rw[h3];dsimp only;rw[hz];dsimp only;rw[Du];rfl
theorem run_pure(hK:∀f,Ba (cf f)){f:FuncId}{fn:Func}{c:Code}{hs:List Hint}{args:List S}{xs:List D}{v:D}(hfn:C.P.funcs[f]?=some fn)(hb:fn.body=some c)(hh:C.hnd.contains f=false)(hk:C.keepArr.contains f=false)(hk2:C.keepNil.contains f=false)
  (ha:Ml args=some xs)(hw:wp C.P cf N (fun rs os=>Ck v rs) (Hd C f fn c hs args []) []):Ao (run C cf N) f xs v:=by
 intro st;have hr:Rp (fun id=>st.length≤id) st.length [] [] st:=⟨rfl,(fun j o id h=>by cases h),(fun i j id h=>by cases h),(fun j id h=>by cases h),Nat.le_refl _,(fun j id h=>by cases h),fun id h=>h⟩
 obtain⟨x,E',st',V,h1,h2,h3,rs,os,vals,ids',t',⟨h4,vs,h5,rfl⟩,h6,h7,_,_,_⟩:=Aw8 (Pw:=fun id=>st.length≤id) hK hw (Hy ha) hr;rw[Axp hfn hb hh hk hk2 h1 h3 h6 (h7 vs h5)];have hV:V.filter (· <st.length)= []:=by rw[List.filter_eq_nil_iff];intro id hid;have:=h2 id hid;simp;omega
 rw[Rm (Ahs _ h4) hV];have hkk:=Ahg hK N (od:=C.ords f) (C:=C) (h:=false) c _ _ _ _ _ _ h1;have:st'.take st.length=st:=by
  apply List.ext_getElem?;intro i;rw[List.getElem?_take];split
  ·rename_i hi;exact hkk.2 i hi fun hn=>by have:=h2 i hn;omega
  ·rename_i hi;rw[List.getElem?_eq_none (by omega)]
 rw[this]
theorem Alw(hK:∀f,Ba (cf f)){f:FuncId}{fn:Func}{c:Code}{hs:List Hint}{args:List S}{xs:List (Option D)}{v:D}{l:List S}{cs cs':List D}(hfn:C.P.funcs[f]?=some fn)(hb:fn.body=some c)(hh:C.hnd.contains f=false)(hk:C.keepArr.contains f=false)(hk2:C.keepNil.contains f=false)
  (ha:Ux 0 Ef args=some xs)(hl:Ml l=some cs)(hw:wp C.P cf N (fun rs os=>Ck v rs∧os= [cs']∧F6 0 cs'=false) (Hd C f fn c hs args [.cells l]) []):Acn (run C cf N) f xs cs v cs':=by
 intro st id hid;have hlt:=(List.getElem?_eq_some_iff.1 hid).1;have hone:∀(i j:Nat),([id]:List Nat)[i]?=some j→i=0∧j=id:=fun i j h=>by
  cases i with
  |zero=>cases h;exact⟨rfl,rfl⟩
  |succ i=>cases h
 have hr:Rp (fun i=>i=id∨st.length≤i) st.length [id] [.cells l] st:=by
  refine⟨rfl,fun j o i h1 h2 h3=>?_,fun i j q h1 h2 _ _=>?_,fun j i h=>?_,Nat.le_refl _,fun j i h=> .inl (hone j i h).2,fun i h=> .inr h⟩
  ·obtain⟨rfl,rfl⟩:=hone j i h2;cases h1;exact⟨_,hid,cs,rfl,Hy hl⟩
  ·rw[(hone i q h1).1,(hone j q h2).1]
  ·rw[(hone j i h).2];exact hlt
 have hargs:VL [id] args (xs.map (atP id)):=by
  have:∀{l:List S} {ds:List (Option D)},Ux 0 Ef l=some ds→VL [id] l (ds.map (atP id)):=by
   intro l;induction l with
   |nil=>intro ds h;simp only[Ux,Option.some.injEq]at h;subst h;rfl
   |cons s l ih=>
    intro ds h;unfold Ux at h;split at h
    ·cases ‹_::_=([]:List S)›
    ·rename_i i l' he;cases he;split at h
     ·rename_i hi;subst hi;simp only[Option.map_eq_some_iff]at h;obtain⟨ds',h3,rfl⟩:=h;exact⟨_,_,rfl,⟨id,rfl,rfl⟩,ih h3⟩
     ·cases h
    ·rename_i s' l' _ he;cases he;split at h
     ·rename_i d ds' h3 h4;cases h;exact⟨_,_,rfl,Yf h3,ih h4⟩
     ·cases h
  exact this ha
 obtain⟨x,E',st',V,h1,h2,h3,rs,os,vals,ids',t',⟨⟨h4,vs,h5,rfl⟩,h6,h7⟩,h8,h9,h10,h11,h12⟩:=Aw8 (Pw:=fun i=>i=id∨st.length≤i) hK hw hargs hr;rw[Axp hfn hb hh hk hk2 h1 h3 h8 (h9 vs h5)];have hkk:=Ahg hK N (od:=C.ords f) (C:=C) (h:=false) c _ _ _ _ _ _ h1;have hobj:st'[id]?=some (.cells cs'):=by
  cases t' with
  |nil=>simp[Ahc]at h12
  |cons o t'=>
   cases o with
   |cells l2=>
    simp only[List.length_cons,List.length_nil,Ahc]at h12;split at h12
    ·rename_i d ds h13 h14;cases h14;subst h6;simp only[Option.some.injEq,List.cons.injEq,and_true]at h12;subst h12;obtain⟨id2,cs2,q1,q2,q3⟩:=h11.cells (j:=0) (l:=l2) rfl;have:=h10 0 id rfl;rw[this]at q1;cases q1;rw[q2,D6 h13 q3]
    ·cases h12
   |_=>simp[Ahc]at h12
 have hV:∀i∈V.filter (· <st.length),i=id:=fun i hi=>by
  rw[List.mem_filter]at hi;rcases h2 i hi.1 with h|h
  ·exact h
  ·have:=of_decide_eq_true hi.2;omega
 have htake:st'.take st.length=st.set id (.cells cs'):=by
  apply List.ext_getElem?;intro i;rw[List.getElem?_take,List.getElem?_set];split
  ·rename_i hi;split
   ·rename_i he;subst he;exact hobj
   ·rename_i hne;exact hkk.2 i hi fun hn=>by
     rcases h2 i hn with h|h
     ·exact hne h.symm
     ·omega
  ·rename_i hi;split
   ·rename_i he;subst he;exact absurd hlt hi
   ·rw[List.getElem?_eq_none (by omega)]
 unfold finish;dsimp only;rw[Ahs _ h4,Bool.false_or,if_neg,htake]
 ·exact⟨_,rfl,hV⟩
 ·intro hc;obtain⟨i,hi,hx⟩:=List.any_eq_true.1 hc;rw[hV i hi,hobj]at hx;dsimp only at hx;rw[show Zl st.length (.cells cs')=false from R4 _ h7]at hx;cases hx
end
structure Wd where
 k:Nat
 at_:Nat
 tx:List UInt8
deriving DecidableEq
def Ci(w:Wd):List D:= [.int .i64 (w.k:Int),.int .i64 (w.at_:Int),.str w.tx]
def Nq(L:Nat):Wd:=⟨4,L,[]⟩
def Dt(L:Nat)(ws:List Wd):List (List D):=ws.map Ci++ [Ci (Nq L)]
def Cn(L:Nat):List Wd→Wd
 | []=>Nq L
 |w::_=>w
structure PS where
 ws:List Wd
 bad:Option Nat
def Nv:Option Nat→D
 |none=> .int .i64 (-1)
 |some b=> .int .i64 (b:Int)
theorem Al8(L:Nat)(w:Wd)(ws:List Wd):Dt L (w::ws)=Ci w::Dt L ws:=rfl
theorem Atw(L:Nat)(ws:List Wd):(Dt L ws)[0]?=some (Ci (Cn L ws)):=by cases ws<;>rfl
theorem Aqr(L:Nat)(ws:List Wd):(Dt L ws).length=ws.length+1:=by simp[Dt]
theorem Aq1(L:Nat)(ws:List Wd):(Dt L ws).all (fun r=>r.length == 3)=true:=by
 rw[List.all_eq_true];intro r hr;unfold Dt at hr;rcases List.mem_append.1 hr with h|h
 ·obtain⟨w,_,rfl⟩:=List.mem_map.1 h;rfl
 ·rw[List.mem_singleton]at h;rw[h];rfl
theorem Auu:Bw prog 3=some 1:=by kernel_rfl
theorem Afl:prog.underlying 3=some (.int .i64):=underlying3
theorem Amg:prog.underlying 59=some (.slice 67):=underlying59
theorem Tz:Bw prog 67=some 3:=by kernel_rfl
theorem A9t:Jg prog 67=true:=by kernel_rfl
theorem A59:Jg prog 3=false:=by kernel_rfl
theorem Ami:Bw prog 9=some 1:=by kernel_rfl
theorem Z8:prog.underlying 9=some .string:=underlying9
theorem A6c:Jg prog 9=false:=by kernel_rfl
theorem Blo:Bw prog 28=some 1:=by kernel_rfl
theorem Bm0:prog.underlying 28=some (.slice 30):=underlying28
theorem Bml:Jg prog 28=false:=by kernel_rfl
theorem Wp:Bw prog 30=some 7:=by kernel_rfl
theorem Bb3:Jg prog 30=true:=by kernel_rfl
theorem Bbx(a b c:D):Eh prog 67 (.eptr [a,b,c]) 0=some (.eptr [a,b,c],.pure):=by kernel_rfl
theorem A81(a b c:D):Eh prog 67 (.eptr [a,b,c]) 1=some (.eptr [b,c],.pure):=by kernel_rfl
theorem A7o(a b c:D):Eh prog 67 (.eptr [a,b,c]) 2=some (.eptr [c],.pure):=by kernel_rfl
theorem Bg2(L:Nat)(ws:List Wd)(gr:Gr):Cf prog 59 (.sl (Dt L ws) gr) (.int .i64 0)=some (.eptr (Ci (Cn L ws)),.pure):=by unfold Cf;rw[show E5 (.int .i64 0)=some 0 from rfl,Amg];dsimp only;rw[Atw];simp[Tz,Ci]
theorem Bid(L:Nat)(w:Wd)(ws:List Wd):Lu prog 59 (.sl (Dt L (w::ws)) .none) (some 1) none none=some (.sl (Dt L ws) .none,.pure):=by
 unfold Lu;rw[Amg];dsimp only;have h1:rowsFit prog 67 (Dt L (w::ws))=true:=by unfold rowsFit;rw[Tz];exact Aq1 L (w::ws)
 rw[h1];have h2:(Dt L (w::ws)).length=ws.length+2:=by rw[Aqr];rfl
 simp only[Option.getD];rw[h2];rw[if_pos (by simp)]
 have h3:(Dt L (w::ws)).take (ws.length+2)=Dt L (w::ws):=List.take_of_length_le (by omega)
 rw[h3];simp[Al8]
theorem take3(x:D)(l:List D):Dk prog 3 (x::l) 0=some x:=by unfold Dk;simp[Auu,A59]
theorem Bd2(x:D)(l:List D):Dk prog 9 (x::l) 0=some x:=by unfold Dk;simp[Ami,A6c]
abbrev i0:D:= .int .i64 0
abbrev i1:D:= .int .i64 1
abbrev im:D:= .int .i64 (-1)
abbrev bf:D:= .bool false
abbrev bt:D:= .bool true
abbrev s0:D:= .str []
def bd(f:Func):Code:=match f.body with
 |some c=>c
 |none=> .skip
theorem bdy{f:Func}(h:f.body.isSome=true:=by kernel_rfl):f.body=some (bd f):=by
 unfold bd;cases hb:f.body with
 |none=>rw[hb]at h;cases h
 |some c=>rfl
abbrev gd(l:List D)(i:Nat):D:=l.getD i .undef
abbrev gc(d:D)(i:Nat):D:=d.cells.getD i .undef
abbrev hv(l:List D)(i:Nat):D:=(tails i l).headD .undef
abbrev gl(l:List D)(n:Nat):List D:=(List.range n).map fun i=>l.getD i .undef
abbrev cl(d:D)(n:Nat):List D:=(List.range n).map fun i=>d.cells.getD i .undef
section
variable{P:Program}{cf:Ah}{N:Nat}{LQ:List D→List (List D)→Prop}{J:List (Nat→List D→Prop)}
theorem Aa{p:Av}{k:D→Tree}:wp P cf N LQ (.bind p k) J=match p.sem P with
  |some d=>wp P cf N LQ (k d) J
  |none=>False:=by
 rw[wp];cases p.sem P with
 |none=>simp
 |some d=>simp
theorem Ac{b:Bool}{x y:Tree}:wp P cf N LQ (.ite (.bool b) x y) J=(if b=true then wp P cf N LQ x J else wp P cf N LQ y J):=by rw[wp];cases b<;>simp
theorem Ae{ds:List D}{k:Tree}:wp P cf N LQ (.chk ds k) J=(ds.all Al=true∧wp P cf N LQ k J):=by rw[wp]
theorem Bc{l:List (D × D)}{k:Tree}:wp P cf N LQ (.req l k) J=((∀p∈l,p.1=p.2)∧wp P cf N LQ k J):=by rw[wp]
theorem Ab{rs:List D}{os:List (List D)}:wp P cf N LQ (.leaf rs os) J=LQ rs os:=by rw[wp]
theorem Az{lv a:Nat}{vs:List D}:wp P cf N LQ (.again lv a vs) J=match J[lv]? with
  |some R=>R a vs
  |none=>False:=by
 rw[wp];rfl
theorem Nc{t:Tree}{k:D→Tree}{d:D}(h:∀LQ',LQ' [d] []→wp P cf N LQ' t [])(h2:wp P cf N LQ (k d) J):wp P cf N LQ (.joi t k) J:=by rw[wp];exact h _ ⟨d,rfl,h2⟩
theorem Aw{f:FuncId}{a b c bs:List D}{v:D}{k:D→Tree}(h1:Eb Jf b=some bs)(h2:Ao cf f (a++bs++c) v)(h3:wp P cf N LQ (k v) J):wp P cf N LQ (.call f a b c k) J:=by unfold wp;exact⟨bs,v,h1,h2,h3⟩
theorem Ad{f:FuncId}{a b c bs:List (Option D)}{cs cs':List D}{v:D}{k:D→List D→Tree}(h1:Agq b=some bs)(h2:Acn cf f (a++bs++c) cs v cs')(h4:cs'.length=cs.length)(h3:wp P cf N LQ (k v cs') J):wp P cf N LQ (.meth f a b c cs k) J:=by unfold wp;exact⟨bs,v,cs',h1,h2,h4,h3⟩
theorem wp_loop{lv a0:Nat}{init:List D}{body:Nat→List D→Tree}(I:Nat→Nat→List D→Prop)(n:Nat)(h1:n<N)(h2:I n a0 init)
  (h3:∀n a ds,I n a ds→wp P cf N LQ (body a ds) (J.take lv++ [fun a' ds'=>∃n',n'<n∧I n' a' ds'])):wp P cf N LQ (.loop lv a0 init body) J:=by
 unfold wp;exact⟨I,n,h1,h2,h3⟩
section
variable{k:IntKind}{x y:Int}{t:TypeId}{s u:List UInt8}{b c:Bool}
theorem Bt:(Av.bin .add t (.int k x) (.int k y)).sem P=some (.int k (k.wrap (x+y))):=by simp[Av.sem,Bo,Ai,Op.intArith,pure]
theorem Av1:(Av.bin .mul t (.int k x) (.int k y)).sem P=some (.int k (k.wrap (x*y))):=by simp[Av.sem,Bo,Ai,Op.intArith,pure]
theorem Da:(Av.bin .lss t (.int k x) (.int k y)).sem P=some (.bool (decide (x<y))):=by simp[Av.sem,Bo,Ai,Op.intCmp,pure]
theorem Afx:(Av.bin .leq t (.int k x) (.int k y)).sem P=some (.bool (decide (x≤y))):=by simp[Av.sem,Bo,Ai,Op.intCmp,pure]
theorem Jt:(Av.bin .gtr t (.int k x) (.int k y)).sem P=some (.bool (decide (y<x))):=by simp[Av.sem,Bo,Ai,Op.intCmp,pure]
theorem Lx:(Av.bin .geq t (.int k x) (.int k y)).sem P=some (.bool (decide (y≤x))):=by simp[Av.sem,Bo,Ai,Op.intCmp,pure]
theorem En:(Av.bin .eql t (.int k x) (.int k y)).sem P=some (.bool (x == y)):=by simp[Av.sem,Bo,Ai,Op.intCmp,pure]
theorem Nn:(Av.bin .neq t (.int k x) (.int k y)).sem P=some (.bool (x !=y)):=by simp[Av.sem,Bo,Ai,Op.intCmp,pure]
theorem Di:(Av.bin .eql t (.str s) (.str u)).sem P=some (.bool (s == u)):=by simp[Av.sem,Bo,Af1]
theorem Ag7:(Av.bin .neq t (.str s) (.str u)).sem P=some (.bool (!(s == u))):=by simp[Av.sem,Bo,Af1]
theorem K5:(Av.un .not (.bool b)).sem P=some (.bool (!b)):=by simp[Av.sem,Gc]
theorem Hg{ds:List D}{i:Nat}:(Av.ext (.tup ds) i).sem P=ds[i]?:=rfl
theorem M5{ds:List D}{n:Nat}:(Av.agg n (.agg ds)).sem P=if ds.length=n then some (.agg ds)else none:=rfl
theorem A9{d:D}:(Av.cell d).sem P=if Al d=true then some d else none:=rfl
theorem Bdz:(Av.mx (.int k x) [.int k y]).sem P=some (.int k (if x<y then y else x)):=by simp[Av.sem,Om,Ab0]
theorem Bhi:(Av.mn (.int k x) [.int k y]).sem P=some (.int k (if y<x then y else x)):=by simp[Av.sem,Om,Abk]
theorem Jj:(Av.slm (.int k x)).sem P=some (.int k x):=rfl
theorem Ax3:(Av.slm (.bool b)).sem P=some (.bool b):=rfl
theorem Ot:(Av.slm (.str s)).sem P=some (.str s):=rfl
theorem Auw{r:List (List D)}{g:Gr}:(Av.slm (.sl r g)).sem P=some (.sl r .none):=rfl
end
theorem Bf{v:D}(h:R3 v=true):Ck v [v]:=by
 refine⟨?_,[v],?_,rfl⟩
 ·cases v<;>first|rfl|cases h
 ·cases v<;>first|rfl|cases h
theorem Oz:Ck (.tup []) []:=⟨rfl,[],rfl,rfl⟩
end
def Ry(L:Nat)(s:PS)(K:Int)(tx:List UInt8):Bool:=s.bad.isNone && (((Cn L s.ws).k:Int) == K && (Cn L s.ws).tx == tx)
def Hf(L:Nat)(s:PS):PS:=⟨s.ws,match s.bad with
 |none=>some (Cn L s.ws).at_
 |some b=>some b⟩
def A8(L:Nat)(s:PS)(K:Int)(tx:List UInt8):PS:=if Ry L s K tx then⟨s.ws.tail,s.bad⟩else Hf L s
def M9(L:Nat)(s:PS)(K:Int)(may:List UInt8→Bool):Bool:=s.bad.isNone && (((Cn L s.ws).k:Int) == K && may (Cn L s.ws).tx)
def Bb(L:Nat)(s:PS)(K:Int)(may:List UInt8→Bool):List UInt8 × PS:=if M9 L s K may then((Cn L s.ws).tx,⟨s.ws.tail,s.bad⟩)else([],Hf L s)
theorem X0{L:Nat}{s:PS}{K:Int}{tx:List UInt8}(hK:K≠4)(h:Ry L s K tx=true):∃w ws,s.ws=w::ws∧s.bad=none∧(w.k:Int)=K∧w.tx=tx:=by
 unfold Ry at h;simp only[Bool.and_eq_true,Option.isNone_iff_eq_none,beq_iff_eq]at h;obtain⟨h1,h2,h3⟩:=h;cases hs:s.ws with
 |nil=>rw[hs]at h2;exact absurd h2.symm hK
 |cons w ws=>rw[hs]at h2 h3;exact⟨w,ws,rfl,h1,h2,h3⟩
theorem Am0{L:Nat}{s:PS}{K:Int}{may:List UInt8→Bool}(hK:K≠4)(h:M9 L s K may=true):∃w ws,s.ws=w::ws∧s.bad=none∧(w.k:Int)=K∧may w.tx=true:=by
 unfold M9 at h;simp only[Bool.and_eq_true,Option.isNone_iff_eq_none,beq_iff_eq]at h;obtain⟨h1,h2,h3⟩:=h;cases hs:s.ws with
 |nil=>rw[hs]at h2;exact absurd h2.symm hK
 |cons w ws=>rw[hs]at h2 h3;exact⟨w,ws,rfl,h1,h2,h3⟩
inductive Qy where
 |label(a:Nat)(r:Bool)(ln:List UInt8)
 |var(a:Nat)(nm:List UInt8)
 |bin(k:Int)(a:Nat)(x y:Qy)
 |un(k:Int)(a:Nat)(nm:List UInt8)(n:Int)(x:Qy)
 |lt(a:Nat)(nm:List UInt8)(x y:Qy)
 |whole(a:Nat)
def qc(k:Int)(a:Nat)(r:Bool)(ln nm:List UInt8)(n:Int)(g:D):List D:= [.int .i64 k,.int .i64 (a:Int),.bool r,.str ln,.str nm,.int .i64 n,g]
def Br:Qy→List D
 | .label a r ln=>qc 1 a r ln [] 0 (.sl [] .none)
 | .var a nm=>qc 2 a false [] nm 0 (.sl [] .none)
 | .bin k a x y=>qc k a false [] [] 0 (.sl [Br x,Br y] .none)
 | .un k a nm n x=>qc k a false [] nm n (.sl [Br x] .none)
 | .lt a nm x y=>qc 12 a false [] nm 0 (.sl [Br x,Br y] .none)
 | .whole a=>qc 13 a false [] [] 0 (.sl [] .none)
section
variable(L:Nat)(may:List UInt8→Bool)(gn:List UInt8→Int × Bool)
def Ib:List UInt8:= [108,101,116]
def Vx:List UInt8:= [105,110]
def Aj1:List UInt8:= [100,101,112,115]
def Abt:List UInt8:= [114,100,101,112,115]
def Afo:List UInt8:= [115,111,109,101,112,97,116,104]
def Zq:List UInt8:= [97,108,108,112,97,116,104,115]
def Ake:List UInt8:= [107,105,110,100]
def X5:List UInt8:= [102,105,108,116,101,114]
def A76:List UInt8:= [97,108,108]
def Bl:List (List UInt8):= [Ib,Aj1,Abt,Afo,Zq,Ake,X5,A76]
def Hz(s:PS):Int:=if Ry L s 3 [43]then 3 else if Ry L s 3 [94]then 4 else if Ry L s 1 [45]then 5 else 0
def Jd(t:List UInt8):Bool:=t == [114,117,108,101] || (t == [109,97,100,101] || t == [115,111,117,114,99,101])
def Zk(s:PS):Int × PS:=((gn (Bb L s 1 (fun t=>(gn t).2)).1).1,(Bb L s 1 (fun t=>(gn t).2)).2)
def Kw(item:PS→Option (Qy × PS)):Nat→Qy→PS→Option (Qy × PS)
 |0,_,_=>none
 |m+1,x,s=>if Hz L s=0 then some (x,s)else match item ⟨s.ws.tail,s.bad⟩with
  |none=>none
  |some (y,s2)=>Kw item m (.bin (Hz L s) (Cn L s.ws).at_ x y) s2
def Ij(s:PS):Bool:=s.bad.isNone && (((Cn L s.ws).k:Int) == 1 && Bl.tail.contains (Cn L s.ws).tx)
def Q7(query:PS→Option (Qy × PS))(a:Nat)(word:List UInt8)(s:PS):Option (Qy × PS):=
 if word=Aj1 then match query s with
  |none=>none
  |some (x,s1)=>if Ry L s1 3 [44]then some (.un 6 a [] (Zk L gn (A8 L s1 3 [44])).1 x,(Zk L gn (A8 L s1 3 [44])).2)else some (.un 6 a [] (-1) x,s1)
 else if word=Abt then match query s with
  |none=>none
  |some (x,s1)=>some (.un 7 a [] 0 x,s1)
 else if word=Afo∨word=Zq then match query s with
  |none=>none
  |some (x,s1)=>match query (A8 L s1 3 [44])with
   |none=>none
   |some (y,s2)=>some (.bin (if word=Zq then 9 else 8) a x y,s2)
 else if word=Ake then match query (A8 L (Bb L s 1 Jd).2 3 [44])with
  |none=>none
  |some (x,s1)=>some (.un 10 a (Bb L s 1 Jd).1 0 x,s1)
 else if word=X5 then match query (A8 L (Bb L s 2 (fun _=>true)).2 3 [44])with
  |none=>none
  |some (x,s1)=>some (.un 11 a (Bb L s 2 (fun _=>true)).1 0 x,s1)
 else some (.whole a,s)
mutual
def Fe:Nat→PS→Option (Qy × PS)
 |0,_=>none
 |n+1,s=>if Ry L s 1 Ib then
   match Fe n (A8 L (Bb L (A8 L s 1 Ib) 1 may).2 3 [61])with
   |none=>none
   |some (x,s4)=>match Fe n (A8 L s4 1 Vx)with
    |none=>none
    |some (y,s6)=>some (.lt (Cn L s.ws).at_ (Bb L (A8 L s 1 Ib) 1 may).1 x y,s6)
  else Uv n s
def Uv:Nat→PS→Option (Qy × PS)
 |0,_=>none
 |n+1,s=>match Jv n s with
  |none=>none
  |some (x,s1)=>Kw L (Jv n) 1900 x s1
def Jv:Nat→PS→Option (Qy × PS)
 |0,_=>none
 |n+1,s=>
  if Ry L s 3 [58]then some (.label (Cn L s.ws).at_ true (Bb L (A8 L s 3 [58]) 1 may).1,(Bb L (A8 L s 3 [58]) 1 may).2)
  else if Ry L s 3 [36]then some (.var (Cn L s.ws).at_ (Bb L (A8 L s 3 [36]) 1 may).1,(Bb L (A8 L s 3 [36]) 1 may).2)
  else if Ry L s 3 [40]then match Fe n (A8 L s 3 [40])with
   |none=>none
   |some (x,s2)=>some (x,A8 L s2 3 [41])
  else if Ij L s then Py n s (Cn L s.ws).at_
  else some (.label (Cn L s.ws).at_ false (Bb L s 1 may).1,(Bb L s 1 may).2)
def Py:Nat→PS→Nat→Option (Qy × PS)
 |0,_,_=>none
 |n+1,s,a=>match Q7 L gn (Fe n) a (Cn L s.ws).tx (A8 L ⟨s.ws.tail,s.bad⟩ 3 [40])with
  |none=>none
  |some (x,s1)=>some (x,A8 L s1 3 [41])
end
end
def De(b:UInt8):Bool:=(97≤b && b≤122) || (65≤b && b≤90) || (48≤b && b≤57) || b == 46 || b == 95 || b == 45 || b == 47
def Lt(t:List UInt8):Prop:=t.length≤1000∧∀b∈t,De b=true
def Sm(s:PS):Prop:=∀w∈s.ws,w.k=1→Lt w.tx
theorem Sm.hd{L:Nat}{s:PS}(h:Sm s)(hk:(Cn L s.ws).k=1):Lt (Cn L s.ws).tx:=by
 cases hs:s.ws with
 |nil=>rw[hs]at hk;cases hk
 |cons w ws=>rw[hs]at hk;exact h w (by rw[hs];simp) hk
theorem Sm.tail{s:PS}{b:Option Nat}(h:Sm s):Sm ⟨s.ws.tail,b⟩:=fun w hw=>h w (List.mem_of_mem_tail hw)
theorem Sm.fails{L:Nat}{s:PS}(h:Sm s):Sm (Hf L s):=h
theorem Sm.must{L:Nat}{s:PS}{K:Int}{tx:List UInt8}(h:Sm s):Sm (A8 L s K tx):=by
 unfold A8;split
 ·exact h.tail
 ·exact h.fails
theorem Sm.next{L:Nat}{s:PS}{K:Int}{m:List UInt8→Bool}(h:Sm s):Sm (Bb L s K m).2:=by
 unfold Bb;split
 ·exact h.tail
 ·exact h.fails
theorem Sm.num{L:Nat}{s:PS}{gn:List UInt8→Int × Bool}(h:Sm s):Sm (Zk L gn s).2:=Sm.next h
end Go.Vam
