/- A part. -/
import Derived.Test.YtkbleljhkbmgnaaGreatDoorVaj
noncomputable section
set_option maxRecDepth 1000000
namespace Go.Vam
open Go.Proofs
theorem Bho:An7.all (Ll [] [] 40 129)=true:=by kernel_rfl
theorem k75:Ati.all (Ll [] A9m 40 75)=true:=by kernel_rfl
theorem k44:Awu.all (Ll [] A9x 40 44)=true:=by kernel_rfl
theorem Bh1:Np.all (Ll [] Bbr 60 309)=true:=by kernel_rfl
theorem Bgd:Np.all (Ll [] A9g 60 249)=true:=by kernel_rfl
theorem Bhn:Np.all (Ll [] A6z 60 153)=true:=by kernel_rfl
end Go.Vam
