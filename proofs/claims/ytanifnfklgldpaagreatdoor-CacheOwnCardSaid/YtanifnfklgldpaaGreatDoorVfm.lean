/-
  A row with a store holds, by the kernel.
-/
import Derived.Test.YtanifnfklgldpaaGreatDoorVee
set_option maxRecDepth 1000000
namespace Go.Vam
open Go.Proofs
theorem Caj:Pd Cfz Bn 100 97 B69=true:=by kernel_rfl
end Go.Vam
