/-
  Rows hold, by the kernel (1).
-/
import Derived.Test.YtanifnfklgldpaaGreatDoorVal
set_option maxRecDepth 1000000
namespace Go.Vam
open Go.Proofs
theorem Bho:An7.all (Ll [] [] 40 123)=true:=by kernel_rfl
theorem k75:Ati.all (Ll [] A9m 40 76)=true:=by kernel_rfl
theorem k44:Awu.all (Ll [] A9x 40 46)=true:=by kernel_rfl
theorem Bh1:Np.all (Ll [] Bbr 60 400)=true:=by kernel_rfl
theorem Bgd:Np.all (Ll [] A9g 60 342)=true:=by kernel_rfl
theorem Bhn:Np.all (Ll [] A6z 60 182)=true:=by kernel_rfl
end Go.Vam
