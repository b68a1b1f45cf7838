/- A part. -/
import Derived.Test.YtiobopjhbneieaaGreatDoorVar
noncomputable section
set_option maxRecDepth 1000000
namespace Go.Vam
open Go.Proofs
theorem k53:Np.all (Ll Ajc Rf 60 43)=true:=by kernel_rfl
end Go.Vam
