/-
  The closed run, by the kernel.
-/
import Derived.Test.YtanifnfklgldpaaGreatDoorVee
set_option maxRecDepth 1000000
namespace Go.Vam
open Go.Proofs
theorem kA7:Np.all (Ll Cey Bn 100 9)=true:=by kernel_rfl
end Go.Vam
