/-
  Rows with stores hold (2).
-/
import Derived.Test.YtanifnfklgldpaaGreatDoorVao
set_option maxRecDepth 1000000
namespace Go.Vam
open Go.Proofs
theorem A7h:Pd [] Aai 60 48 A50=true:=by kernel_rfl
theorem Bbl:Pd [] Aai 60 48 A6s=true:=by kernel_rfl
theorem A8x:Pd [] Aai 60 48 A58=true:=by kernel_rfl
theorem A7q:Pd [] Aai 60 48 A53=true:=by kernel_rfl
end Go.Vam
