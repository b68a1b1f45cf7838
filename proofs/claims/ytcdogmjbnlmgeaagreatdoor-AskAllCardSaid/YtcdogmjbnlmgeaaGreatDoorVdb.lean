/-
  Closed facts (2).
-/
import Derived.Test.YtcdogmjbnlmgeaaGreatDoorRows
import Derived.SevenTiedAt
import Derived.KernelRfl
set_option maxRecDepth 1000000
namespace Go.Proofs.YtcdogmjbnlmgeaaGreatDoor
open Go Go.Proofs.Tryz Rows
theorem A7k:prog.funcNamed "shipwright/shipwrightlaw17.AskAll" =some 3:=by kernel_rfl
theorem Baa:askAllRow.wfByText (OpenSpec.ofChange askAllSpec)=true:=by kernel_rfl
theorem A90:prog.mainIs=some (true,("8c4716ba10ea79918cd9a8043ae2a65da489b5ae760f33660610436a8d2e9111" :String).toList):=by kernel_rfl
theorem A9f:true=prog.looks []:=by kernel_rfl
theorem A8e:false=askAllRow.goesBy prog:=by kernel_rfl
end Go.Proofs.YtcdogmjbnlmgeaaGreatDoor
