/- P. -/
import Derived.Test.YtcdogmjbnlmgeaaGreatDoorRows
import Derived.SevenTiedAt
set_option linter.unusedVariables false
noncomputable section
set_option maxRecDepth 1000000
namespace Go.Proofs.YtcdogmjbnlmgeaaGreatDoor
open Go Go.Proofs.Tryz Rows
theorem Bky:prog.funcNamed "shipwright/shipwrightlaw17.AskTurn" =some 5:=by kernel_rfl
theorem Bk0:askTurnRow.wfByText (OpenSpec.ofChange askTurnSpec)=true:=by kernel_rfl
theorem Bku:prog.mainIs=some (true,("8c4716ba10ea79918cd9a8043ae2a65da489b5ae760f33660610436a8d2e9111" :String).toList):=by kernel_rfl
theorem Bk6:true=prog.looks []:=by kernel_rfl
theorem Bkl:false=askTurnRow.goesBy prog:=by kernel_rfl
end Go.Proofs.YtcdogmjbnlmgeaaGreatDoor
