/- P. -/
import Derived.Test.YtkbleljhkbmgnaaGreatDoorRows
import Derived.SevenTiedAt
noncomputable section
set_option maxRecDepth 1000000
namespace Go.Proofs.YtkbleljhkbmgnaaGreatDoor
open Go Go.Proofs.Tryz Rows
theorem B0n:prog.funcNamed "shipwright/shipwrightlaw17.AskPut" =some 4:=by kernel_rfl
theorem B0g:askPutRow.wfByText (OpenSpec.ofChange askPutSpec)=true:=by kernel_rfl
theorem B07:prog.mainIs=some (true,("0c76ecc08a02bccff1ee2cd2a2a4ac8302ce04d2fdac47ff1f6ccb0a959fff94" :String).toList):=by kernel_rfl
theorem B1f:true=prog.looks []:=by kernel_rfl
theorem B0d:false=askPutRow.goesBy prog:=by kernel_rfl
end Go.Proofs.YtkbleljhkbmgnaaGreatDoor
