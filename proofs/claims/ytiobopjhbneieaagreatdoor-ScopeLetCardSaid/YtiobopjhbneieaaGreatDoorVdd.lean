/- P. -/
import Derived.Test.YtiobopjhbneieaaGreatDoorRows
import Derived.SevenTiedAt
noncomputable section
set_option maxRecDepth 1000000
namespace Go.Proofs.YtiobopjhbneieaaGreatDoor
open Go Go.Proofs.Tryz
theorem B93:prog.funcNamed "shipwright/shipwrightlaw17.ScopeLet" =some 4:=by kernel_rfl
theorem B86:Rows.scopeLetRow.wfByText (OpenSpec.ofChange Rows.scopeLetSpec)=true:=by kernel_rfl
theorem B8z:prog.mainIs=some (true,("cc4c7372acb64faaed9cbf25c360f0823d3bab2a82384ad9cdc4b089d346c02f" :String).toList):=by kernel_rfl
theorem B9p:true=prog.looks []:=by kernel_rfl
theorem B94:false=Rows.scopeLetRow.goesBy prog:=by kernel_rfl
end Go.Proofs.YtiobopjhbneieaaGreatDoor
