/-
  Rows hold, by the kernel (4).
-/
import Derived.Test.YtanifnfklgldpaaGreatDoorVal
set_option maxRecDepth 1000000
namespace Go.Vam
open Go.Proofs
theorem k9:Np.all (Ll [] Ba7 60 74)=true:=by kernel_rfl
end Go.Vam
