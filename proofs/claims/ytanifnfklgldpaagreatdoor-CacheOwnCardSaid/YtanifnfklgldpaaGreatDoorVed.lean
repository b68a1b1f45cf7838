/-
  Rows hold, by the kernel (6).
-/
import Derived.Test.YtanifnfklgldpaaGreatDoorVeb
set_option maxRecDepth 1000000
namespace Go.Vam
open Go.Proofs
theorem kA5:Np.all (Ll [] B5f 100 75)=true:=by kernel_rfl
end Go.Vam
