/-
  Rows with stores hold (1).
-/
import Derived.Test.YtanifnfklgldpaaGreatDoorVao
set_option maxRecDepth 1000000
namespace Go.Vam
open Go.Proofs
theorem A88:Pd [] Aai 60 48 A57=true:=by kernel_rfl
theorem Bch:Pd [] Aai 60 48 A6h=true:=by kernel_rfl
theorem Bbz:Pd [] Aai 60 48 A6m=true:=by kernel_rfl
theorem Bai:Pd [] Aai 60 48 A6g=true:=by kernel_rfl
theorem A7l:Pd [] Aai 60 48 A6u=true:=by kernel_rfl
end Go.Vam
