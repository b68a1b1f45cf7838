/- A part. -/
import Derived.Test.YtiobopjhbneieaaGreatDoorVaj
noncomputable section
set_option maxRecDepth 1000000
namespace Go.Vam
open Go.Proofs
theorem Bg1:Ap7.all (Ll [] Aai 60 95)=true:=by kernel_rfl
end Go.Vam
