/-
  Closed facts (2).
-/
import Derived.Test.YtanifnfklgldpaaGreatDoorRows
import Derived.SevenTiedAt
import Derived.KernelRfl
set_option maxRecDepth 1000000
namespace Go.Proofs.YtanifnfklgldpaaGreatDoor
open Go Go.Proofs.Tryz
theorem Crn:prog.funcNamed "shipwright/shipwrightlaw24.CacheOwn" =some 3:=by kernel_rfl
theorem Crg:Rows.cacheOwnRow.wfByText (OpenSpec.ofChange Rows.cacheOwnSpec)=true:=by kernel_rfl
theorem Crk:prog.mainIs=some (true,("66ddcb2bdf34331866a33481e0ca24a4fd328b1e16fdb945a04c50cc4714cc51" :String).toList):=by kernel_rfl
theorem Crp:true=prog.looks []:=by kernel_rfl
end Go.Proofs.YtanifnfklgldpaaGreatDoor
