/-
  A row with a store holds, by the kernel.
-/
import Derived.Test.YtanifnfklgldpaaGreatDoorVee
set_option maxRecDepth 1000000
namespace Go.Vam
open Go.Proofs
theorem Cc0:Pd [] Bn 100 54 Ccr=true:=by kernel_rfl
end Go.Vam
