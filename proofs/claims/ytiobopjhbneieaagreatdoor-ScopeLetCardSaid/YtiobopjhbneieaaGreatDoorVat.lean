/- A part. -/
import Derived.Test.YtiobopjhbneieaaGreatDoorVaj
noncomputable section
set_option maxRecDepth 1000000
namespace Go.Vam
open Go.Proofs
theorem k9:Np.all (Ll [] Ba7 60 5)=true:=by kernel_rfl
end Go.Vam
