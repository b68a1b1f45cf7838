/-
  A row with a store holds, by the kernel.
-/
import Derived.Test.YtanifnfklgldpaaGreatDoorVee
set_option maxRecDepth 1000000
namespace Go.Vam
open Go.Proofs
theorem Cd4:Pd Cew Bn 100 15 Ccp=true:=by kernel_rfl
end Go.Vam
