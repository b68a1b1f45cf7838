/-
  A row with a store holds, by the kernel.
-/
import Derived.Test.YtanifnfklgldpaaGreatDoorVee
set_option maxRecDepth 1000000
namespace Go.Vam
open Go.Proofs
theorem Cbf:Pd Ce0 Bn 100 59 B72=true:=by kernel_rfl
end Go.Vam
