/- A part. -/
import Derived.Test.YtkbleljhkbmgnaaGreatDoorVaj
noncomputable section
set_option maxRecDepth 1000000
namespace Go.Vam
open Go.Proofs
theorem k9:Np.all (Ll [] Ba7 60 9)=true:=by kernel_rfl
theorem k7:Np.all (Ll [] A4f 60 7)=true:=by kernel_rfl
end Go.Vam
