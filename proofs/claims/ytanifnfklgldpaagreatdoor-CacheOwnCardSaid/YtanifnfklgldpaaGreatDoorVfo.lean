/-
  A row with a store holds, by the kernel.
-/
import Derived.Test.YtanifnfklgldpaaGreatDoorVee
set_option maxRecDepth 1000000
namespace Go.Vam
open Go.Proofs
theorem Cd0:Pd Cfr Bn 100 35 Ccu=true:=by kernel_rfl
end Go.Vam
