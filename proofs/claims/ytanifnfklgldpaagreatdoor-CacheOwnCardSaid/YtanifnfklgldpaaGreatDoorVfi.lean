/-
  A row with a store holds, by the kernel.
-/
import Derived.Test.YtanifnfklgldpaaGreatDoorVee
set_option maxRecDepth 1000000
namespace Go.Vam
open Go.Proofs
theorem Ccb:Pd Cez Bn 100 15 B6w=true:=by kernel_rfl
end Go.Vam
