/-
  Rows hold, by the kernel (3).
-/
import Derived.Test.YtanifnfklgldpaaGreatDoorVar
set_option maxRecDepth 1000000
namespace Go.Vam
open Go.Proofs
theorem k53:Np.all (Ll Ajc Rf 60 163)=true:=by kernel_rfl
end Go.Vam
