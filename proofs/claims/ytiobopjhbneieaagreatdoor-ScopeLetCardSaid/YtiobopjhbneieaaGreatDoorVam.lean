/- A part. -/
import Derived.Test.YtiobopjhbneieaaGreatDoorVaj
noncomputable section
set_option maxRecDepth 1000000
namespace Go.Vam
open Go.Proofs
theorem Bho:An7.all (Ll [] [] 40 109)=true:=by kernel_rfl
theorem k75:Ati.all (Ll [] A9m 40 60)=true:=by kernel_rfl
theorem k44:Awu.all (Ll [] A9x 40 27)=true:=by kernel_rfl
theorem Bh1:Np.all (Ll [] Bbr 60 278)=true:=by kernel_rfl
theorem Bgd:Np.all (Ll [] A9g 60 220)=true:=by kernel_rfl
theorem Bhn:Np.all (Ll [] A6z 60 144)=true:=by kernel_rfl
end Go.Vam
