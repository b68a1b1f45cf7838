/-
  shipwrightlaw24.begun tells true.
-/
import Derived.Test.YtanifnfklgldpaaGreatDoorVec
import Derived.Test.YtanifnfklgldpaaGreatDoorVed
import Derived.Test.YtanifnfklgldpaaGreatDoorVga
import Derived.Test.YtanifnfklgldpaaGreatDoorVfa
import Derived.Test.YtanifnfklgldpaaGreatDoorVfb
import Derived.Test.YtanifnfklgldpaaGreatDoorVfc
import Derived.Test.YtanifnfklgldpaaGreatDoorVfd
import Derived.Test.YtanifnfklgldpaaGreatDoorVfe
import Derived.Test.YtanifnfklgldpaaGreatDoorVff
import Derived.Test.YtanifnfklgldpaaGreatDoorVfg
import Derived.Test.YtanifnfklgldpaaGreatDoorVfh
import Derived.Test.YtanifnfklgldpaaGreatDoorVfi
import Derived.Test.YtanifnfklgldpaaGreatDoorVfj
import Derived.Test.YtanifnfklgldpaaGreatDoorVfk
import Derived.Test.YtanifnfklgldpaaGreatDoorVfl
import Derived.Test.YtanifnfklgldpaaGreatDoorVfm
import Derived.Test.YtanifnfklgldpaaGreatDoorVfn
import Derived.Test.YtanifnfklgldpaaGreatDoorVfo
set_option linter.unusedVariables false
set_option maxRecDepth 1000000
namespace Go.Vam
open Go.Proofs Go.Proofs.Tryz
variable{β:Nat→Nat→Option Value}
noncomputable def B14(c:List D→St→Res)(r:List D × D):Bool:=match c r.1 []with
 |some (v,st,W)=>Ank v r.2 && st.isEmpty && Ayg W [] && !F6 0 r.1 && Sn r.2
 |none=>false
theorem Ccf{f:FuncId}{c:List D→St→Res}{rows:List (List D × D)}{tab:List (Nat × List (List D × D))}(hj:Ji prog β f c)(ht:Ia β tab)(h:rows.all (B14 c)=true):Ia β ((f,rows)::tab):=by
 intro p hp;rcases List.mem_cons.1 hp with rfl|hp
 ·intro r hr;have h1:=List.all_eq_true.1 h r hr;unfold B14 at h1;split at h1
  ·rename_i v st W hc;simp only[Bool.and_eq_true,Bool.not_eq_true']at h1;obtain⟨⟨⟨⟨h2,h3⟩,h4⟩,h5⟩,h6⟩:=h1;have e1:=Xa h2;subst e1;have e3:=Aqe h4;subst e3;exact row_of hj hc h5 h6
  ·cases h1
 ·exact ht p hp
theorem Cel:B8a.all (B14 (Ae1 fun _ _ _=>none))=true:=by kernel_rfl
theorem Cdu:B8w.all (B14 (Aqh fun _ _ _=>none))=true:=by kernel_rfl
theorem B60(hM:I6 β)(hT:Aw0 β):Ia β ((9,Np)::Bn):=by
 have h1:Ia β B8m:=Ej hM Cc An0 kA1;have h2:Ia β B8u:=Ej hM Cc h1 kA2;have h3:Ia β Ccl:=Ej hM Cc h2 kA3;have h8:=A1r hM;have h4:Ia β B5f:=fun p hp=>by
  simp only[B5f,List.mem_cons]at hp;rcases hp with rfl|rfl|rfl|hp
  ·exact h8 (74,Np) (by simp[A4f])
  ·exact h8 (163,Np) (by simp[A4f,Ba7])
  ·exact h8 (182,Np) (by simp[A4f,Ba7,Rf,Aai])
  ·exact h3 p hp
 have h4n:Ia β B8r:=Ccf (Bf8 hT (fun _ _ _=>none)) h4 Cel;have h4p:Ia β B8v:=Ccf (Bgr hT (fun _ _ _=>none)) h4n Cdu;have h5:Ia β Bn:=fun p hp=>by
  simp only[Bn,List.mem_cons]at hp;rcases hp with rfl|hp
  ·exact Ej hM Cc h4 kA5 (75,Np) (List.mem_cons_self ..)
  ·exact h4p p (by simpa using hp)
 have hr:Ia β Bn:=h5;have hsrC1:Oh β Cew:=by
  refine Ev (Ev Cc ?_) ?_
  ·intro r hr0;simp only[List.mem_cons,List.not_mem_nil,or_false]at hr0;rcases hr0 with rfl
   ·exact Ea hM Cc hr Cee
  ·intro r hr0;simp only[List.mem_cons,List.not_mem_nil,or_false]at hr0;rcases hr0 with rfl|rfl
   ·exact Ea hM Cc hr Cc0
   ·exact Ea hM Cc hr Cdm
 have hsrC2:Oh β Cez:=by
  refine Ev (Ev Cc ?_) ?_
  ·intro r hr0;simp only[List.mem_cons,List.not_mem_nil,or_false]at hr0;rcases hr0 with rfl
   ·exact Ea hM Cc hr Cbz
  ·intro r hr0;simp only[List.mem_cons,List.not_mem_nil,or_false]at hr0;rcases hr0 with rfl
   ·exact Ea hM Cc hr Caz
 have hsrC3:Oh β Ce0:=by
  refine Ev (Ev Cc ?_) ?_
  ·intro r hr0;simp only[List.mem_cons,List.not_mem_nil,or_false]at hr0;rcases hr0 with rfl
   ·exact Ea hM Cc hr Cao
  ·intro r hr0;simp only[List.mem_cons,List.not_mem_nil,or_false]at hr0;rcases hr0 with rfl
   ·exact Ea hM hsrC2 hr Ccb
 have hsrC4:Oh β Cfa:=by
  refine Ev Cc ?_
  ·intro r hr0;simp only[List.mem_cons,List.not_mem_nil,or_false]at hr0;rcases hr0 with rfl
   ·exact Ea hM hsrC3 hr Cbf
 have hsrC7:Oh β Cfz:=by
  refine Ev Cc ?_
  ·intro r hr0;simp only[List.mem_cons,List.not_mem_nil,or_false]at hr0;rcases hr0 with rfl
   ·exact Ea hM Cc hr Cb0
 have hsrC8:Oh β Ce1:=by
  refine Ev Cc ?_
  ·intro r hr0;simp only[List.mem_cons,List.not_mem_nil,or_false]at hr0;rcases hr0 with rfl
   ·exact Ea hM hsrC7 hr Caj
 have hsrC5:Oh β Cfr:=by
  refine Ev Cc ?_
  ·intro r hr0;simp only[List.mem_cons,List.not_mem_nil,or_false]at hr0;rcases hr0 with rfl|rfl|rfl
   ·exact Ea hM Cc hr Cdf
   ·exact Ea hM hsrC4 hr Cdl
   ·exact Ea hM hsrC8 hr Cch
 have hsrC6:Oh β Cey:=by
  refine Ev (Ev Cc ?_) ?_
  ·intro r hr0;simp only[List.mem_cons,List.not_mem_nil,or_false]at hr0;rcases hr0 with rfl
   ·exact Ea hM hsrC1 hr Cd4
  ·intro r hr0;simp only[List.mem_cons,List.not_mem_nil,or_false]at hr0;rcases hr0 with rfl
   ·exact Ea hM hsrC5 hr Cd0
 exact Ej hM hsrC6 hr kA7
end Go.Vam
