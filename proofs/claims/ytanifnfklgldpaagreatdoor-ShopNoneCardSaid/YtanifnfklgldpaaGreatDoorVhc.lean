/-
  Closed facts (2).
-/
import Derived.Test.YtanifnfklgldpaaGreatDoorRows
import Derived.SevenTiedAt
import Derived.KernelRfl
set_option linter.unusedSimpArgs false
set_option linter.unusedVariables false
set_option maxRecDepth 1000000
namespace Go.Proofs.YtanifnfklgldpaaGreatDoor
open Go Go.Proofs.Tryz
theorem Ce3:prog.funcNamed "shipwright/shipwrightlaw24.ShopNone" =some 8:=by kernel_rfl
theorem Cfi:Rows.shopNoneRow.wfByText (OpenSpec.ofChange Rows.shopNoneSpec)=true:=by kernel_rfl
theorem Cfm:prog.mainIs=some (true,("66ddcb2bdf34331866a33481e0ca24a4fd328b1e16fdb945a04c50cc4714cc51" :String).toList):=by kernel_rfl
theorem Ce7:true=prog.looks []:=by kernel_rfl
end Go.Proofs.YtanifnfklgldpaaGreatDoor
