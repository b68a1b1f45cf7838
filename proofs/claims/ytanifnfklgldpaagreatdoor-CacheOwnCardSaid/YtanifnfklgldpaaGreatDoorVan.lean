/-
  Rows hold, by the kernel (2).
-/
import Derived.Test.YtanifnfklgldpaaGreatDoorVal
set_option maxRecDepth 1000000
namespace Go.Vam
open Go.Proofs
theorem Bg1:Ap7.all (Ll [] Aai 60 253)=true:=by kernel_rfl
end Go.Vam
