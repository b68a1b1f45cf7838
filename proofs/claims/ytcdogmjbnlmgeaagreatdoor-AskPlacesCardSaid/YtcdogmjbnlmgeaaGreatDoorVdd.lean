/- P. -/
import Derived.Test.YtcdogmjbnlmgeaaGreatDoorRows
import Derived.SevenTiedAt
noncomputable section
set_option maxRecDepth 1000000
namespace Go.Proofs.YtcdogmjbnlmgeaaGreatDoor
open Go Go.Proofs.Tryz Rows
theorem Bp0:prog.funcNamed "shipwright/shipwrightlaw17.AskPlaces" =some 8:=by kernel_rfl
theorem Bpp:askPlacesRow.wfByText (OpenSpec.ofChange askPlacesSpec)=true:=by kernel_rfl
theorem Bpn:prog.mainIs=some (true,("8c4716ba10ea79918cd9a8043ae2a65da489b5ae760f33660610436a8d2e9111" :String).toList):=by kernel_rfl
theorem Bps:true=prog.looks []:=by kernel_rfl
theorem Bpu:false=askPlacesRow.goesBy prog:=by kernel_rfl
end Go.Proofs.YtcdogmjbnlmgeaaGreatDoor
