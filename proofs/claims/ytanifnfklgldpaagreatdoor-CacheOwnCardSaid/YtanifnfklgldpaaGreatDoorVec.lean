/-
  Rows hold, by the kernel (5).
-/
import Derived.Test.YtanifnfklgldpaaGreatDoorVeb
set_option maxRecDepth 1000000
namespace Go.Vam
open Go.Proofs
theorem kA1:B5b.all (Ll [] [] 60 123)=true:=by kernel_rfl
theorem kA2:B23.all (Ll [] B8m 60 76)=true:=by kernel_rfl
theorem kA3:B8k.all (Ll [] B8u 60 46)=true:=by kernel_rfl
end Go.Vam
