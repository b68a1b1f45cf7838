/-
  A call that the rows tell answers so in every world.
-/
import Derived.Test.YtanifnfklgldpaaGreatDoorVam
import Derived.Test.YtanifnfklgldpaaGreatDoorVan
import Derived.Test.YtanifnfklgldpaaGreatDoorVap
import Derived.Test.YtanifnfklgldpaaGreatDoorVaq
import Derived.Test.YtanifnfklgldpaaGreatDoorVas
import Derived.Test.YtanifnfklgldpaaGreatDoorVat
import Derived.Test.YtanifnfklgldpaaGreatDoorRows
import Derived.Deep.DeepHandedRow
import Derived.Deep.DeepWitnessRowRef
import Derived.Shelf.Vars
import Derived.ProofKit
import Derived.OpenShut
import Derived.LaidMore
import Derived.Lib.LaidU8
import Derived.JoinedOf
import Derived.Stop.Joined
set_option linter.unusedSimpArgs false
set_option linter.unusedVariables false
set_option maxRecDepth 1000000
namespace Go.Vam
open Go.Proofs
section
variable{β:Nat→Nat→Option Value}
theorem Ko(hM:I6 β):Ia β Aai:=by have h1:Ia β A9m:=Ej hM Cc An0 Bho;have h2:Ia β A9x:=Ej hM Cc h1 k75;have h3:Ia β Bbr:=Ej hM Cc h2 k44;have h4:Ia β A9g:=Ej hM Cc h3 Bh1;have h5:Ia β A6z:=Ej hM Cc h4 Bgd;exact Ej hM Cc h5 Bhn
theorem Alq(hM:I6 β):Ia β Rf:=Ej hM Cc (Ko hM) Bg1
theorem Arl(hM:I6 β):Oh β Kn:=by
 refine Ev Cc fun r hr=>?_;simp only[List.mem_cons,List.not_mem_nil,or_false]at hr;rcases hr with rfl|rfl|rfl|rfl|rfl|rfl|rfl|rfl|rfl
 ·exact Ea hM Cc (Ko hM) A88
 ·exact Ea hM Cc (Ko hM) Bch
 ·exact Ea hM Cc (Ko hM) Bbz
 ·exact Ea hM Cc (Ko hM) Bai
 ·exact Ea hM Cc (Ko hM) A7l
 ·exact Ea hM Cc (Ko hM) A7h
 ·exact Ea hM Cc (Ko hM) Bbl
 ·exact Ea hM Cc (Ko hM) A8x
 ·exact Ea hM Cc (Ko hM) A7q
theorem N7{f:FuncId}{x:F3}(h:Rx β f x):∀r∈ [x],Rx β f r:=fun r hr=>by rw[List.mem_singleton]at hr;rw[hr];exact h
theorem A5v{f:FuncId}{x y:F3}(h:Rx β f x)(h':Rx β f y):∀r∈ [x,y],Rx β f r:=fun r hr=>by
 rcases List.mem_cons.1 hr with rfl|hr
 ·exact h
 ·exact N7 h' r hr
theorem Am1(hM:I6 β):Oh β Ajc:=by
 have hs:=Arl hM;have hr:=Alq hM;refine Ev (Ev (Ev (Ev (Ev (Ev (Ev (Ev Cc ?_) ?_) ?_) ?_) ?_) ?_) ?_) ?_
 ·exact N7 (Ea hM hs hr A4c)
 ·exact N7 (Ea hM hs hr A1t)
 ·exact N7 (Ea hM hs hr A4d)
 ·exact N7 (Ea hM hs hr Azk)
 ·exact N7 (Ea hM hs hr A17)
 ·exact A5v (Ea hM hs hr A0p) (Ea hM hs hr A42)
 ·exact N7 (Ea hM hs hr A20)
 ·exact N7 (Ea hM hs hr A5o)
theorem A1r(hM:I6 β):Ia β A4f:=by have h7:Ia β Ba7:=Ej hM (Am1 hM) (Alq hM) k53;exact Ej hM Cc h7 k9
end
end Go.Vam
