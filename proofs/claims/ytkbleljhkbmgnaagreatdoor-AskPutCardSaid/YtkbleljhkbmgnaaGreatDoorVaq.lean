/- A part. -/
import Derived.Test.YtkbleljhkbmgnaaGreatDoorVao
noncomputable section
set_option maxRecDepth 1000000
namespace Go.Vam
open Go.Proofs
theorem A7h:Pd [] Aai 60 148 A50=true:=by kernel_rfl
theorem Bbl:Pd [] Aai 60 148 A6s=true:=by kernel_rfl
theorem A8x:Pd [] Aai 60 148 A58=true:=by kernel_rfl
theorem A7q:Pd [] Aai 60 148 A53=true:=by kernel_rfl
end Go.Vam
