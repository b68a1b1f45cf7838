/- P. -/
import Derived.Test.YtkbleljhkbmgnaaGreatDoorRows
import Derived.SevenTiedAt
noncomputable section
set_option maxRecDepth 1000000
namespace Go.Proofs.YtkbleljhkbmgnaaGreatDoor
open Go Go.Proofs.Tryz Rows
theorem Bxi:prog.funcNamed "shipwright/shipwrightlaw17.AskGap" =some 6:=by kernel_rfl
theorem Bwx:askGapRow.wfByText (OpenSpec.ofChange askGapSpec)=true:=by kernel_rfl
theorem Bw0:prog.mainIs=some (true,("0c76ecc08a02bccff1ee2cd2a2a4ac8302ce04d2fdac47ff1f6ccb0a959fff94" :String).toList):=by kernel_rfl
theorem Bw4:true=prog.looks []:=by kernel_rfl
theorem Bwv:false=askGapRow.goesBy prog:=by kernel_rfl
end Go.Proofs.YtkbleljhkbmgnaaGreatDoor
