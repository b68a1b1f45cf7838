/- P. -/
import Derived.Test.YtiobopjhbneieaaGreatDoorRows
import Derived.SevenTiedAt
noncomputable section
set_option maxRecDepth 1000000
namespace Go.Proofs.YtiobopjhbneieaaGreatDoor
open Go Go.Proofs.Tryz Rows
theorem B48:prog.funcNamed "shipwright/shipwrightlaw17.AskLeft" =some 3:=by kernel_rfl
theorem B45:askLeftRow.wfByText (OpenSpec.ofChange askLeftSpec)=true:=by kernel_rfl
theorem B42:prog.mainIs=some (true,("cc4c7372acb64faaed9cbf25c360f0823d3bab2a82384ad9cdc4b089d346c02f" :String).toList):=by kernel_rfl
theorem B4v:true=prog.looks []:=by kernel_rfl
theorem B4w:false=askLeftRow.goesBy prog:=by kernel_rfl
end Go.Proofs.YtiobopjhbneieaaGreatDoor
