/-
  Closed facts of the card of AskDeep.
-/
import Derived.Test.YtcdogmjbnlmgeaaGreatDoorRows
import Derived.SevenTiedAt
import Derived.KernelRfl
set_option linter.unusedSimpArgs false
set_option linter.unusedVariables false
set_option maxRecDepth 1000000
namespace Go.Proofs.YtcdogmjbnlmgeaaGreatDoor
open Go
theorem deep_c1 : Tryz.prog.funcNamed "shipwright/shipwrightlaw17.AskDeep" = some 6 := by kernel_rfl
theorem deep_c2 : Rows.askDeepRow.wfByText (OpenSpec.ofChange Rows.askDeepSpec) = true := by kernel_rfl
theorem deep_c3 : Tryz.prog.mainIs = some (true, ("8c4716ba10ea79918cd9a8043ae2a65da489b5ae760f33660610436a8d2e9111" : String).toList) := by kernel_rfl
theorem deep_c4 : true = Tryz.prog.looks [] := by kernel_rfl
theorem deep_c5 : false = Rows.askDeepRow.goesBy Tryz.prog := by kernel_rfl
end Go.Proofs.YtcdogmjbnlmgeaaGreatDoor
