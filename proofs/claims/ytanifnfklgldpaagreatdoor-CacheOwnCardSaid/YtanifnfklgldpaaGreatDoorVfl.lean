/-
  A row with a store holds, by the kernel.
-/
import Derived.Test.YtanifnfklgldpaaGreatDoorVee
set_option maxRecDepth 1000000
namespace Go.Vam
open Go.Proofs
theorem Cb0:Pd [] Bn 100 110 B8t=true:=by kernel_rfl
end Go.Vam
