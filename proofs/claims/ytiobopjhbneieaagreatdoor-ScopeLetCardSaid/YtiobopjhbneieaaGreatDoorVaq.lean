/- A part. -/
import Derived.Test.YtiobopjhbneieaaGreatDoorVao
noncomputable section
set_option maxRecDepth 1000000
namespace Go.Vam
open Go.Proofs
theorem A7h:Pd [] Aai 60 139 A50=true:=by kernel_rfl
theorem Bbl:Pd [] Aai 60 139 A6s=true:=by kernel_rfl
theorem A8x:Pd [] Aai 60 139 A58=true:=by kernel_rfl
theorem A7q:Pd [] Aai 60 139 A53=true:=by kernel_rfl
end Go.Vam
