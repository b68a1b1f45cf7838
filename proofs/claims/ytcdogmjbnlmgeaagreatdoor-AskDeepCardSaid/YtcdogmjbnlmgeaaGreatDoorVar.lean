/-
  Rows with stores hold (3).
-/
import Derived.Test.YtcdogmjbnlmgeaaGreatDoorVao
import Derived.Test.YtcdogmjbnlmgeaaGreatDoorVal
import Derived.KernelRfl
set_option linter.unusedSimpArgs false
set_option linter.unusedVariables false
set_option maxRecDepth 1000000
namespace Go.Vam
open Go.Proofs

noncomputable def g12bA1 : List D := [.ptr 6 0, .sl [[.bool false, .str [122]]] .none, .sl [[.bool false, .str [120]]] .none]
noncomputable def g12bS18 : St := [.map [(.str [99], .agg [.str [99], .sl [[.str [121]]] .none, .sl [[.str [122]]] .none, .sl [[.str [97]]] .none, .sl [[.str [122], .int .i64 (5), .sl [[.str [121]]] .none, .sl [] .none, .int .i64 (0)]] .none]), (.str [97], .agg [.str [97], .sl [[.str [115]]] .none, .sl [[.str [120]]] .none, .sl [] .none, .sl [[.str [120], .int .i64 (5), .sl [[.str [115]]] .none, .sl [] .none, .int .i64 (0)]] .none]), (.str [98], .agg [.str [98], .sl [[.str [120]]] .none, .sl [[.str [121]]] .none, .sl [] .none, .sl [[.str [121], .int .i64 (5), .sl [[.str [120]]] .none, .sl [] .none, .int .i64 (0)]] .none])],
  .map [(.str [122], .str [99]), (.str [120], .str [97]), (.str [121], .str [98])],
  .cells [.map 3],
  .map [(.agg [.bool true, .str [99]], .bool true), (.agg [.bool false, .str [121]], .bool true), (.agg [.bool false, .str [122]], .bool true), (.agg [.bool true, .str [97]], .bool true), (.agg [.bool false, .str [115]], .bool true), (.agg [.bool false, .str [120]], .bool true), (.agg [.bool true, .str [98]], .bool true)],
  .map [(.agg [.bool true, .str [99]], .ptr 11 0), (.agg [.bool false, .str [122]], .ptr 19 0), (.agg [.bool true, .str [97]], .ptr 28 0), (.agg [.bool false, .str [120]], .ptr 36 0), (.agg [.bool true, .str [98]], .ptr 45 0), (.agg [.bool false, .str [121]], .ptr 53 0)],
  .map [(.agg [.bool false, .str [121]], .ptr 14 0), (.agg [.bool true, .str [99]], .ptr 22 0), (.agg [.bool false, .str [115]], .ptr 31 0), (.agg [.bool true, .str [97]], .ptr 39 0), (.agg [.bool false, .str [120]], .ptr 48 0), (.agg [.bool true, .str [98]], .ptr 56 0)],
  .cells [.map 0, .map 1, .ptr 2 0, .map 4, .map 5],
  .cells [.str [99], .sl [[.str [121]]] .none, .sl [[.str [122]]] .none, .sl [[.str [97]]] .none, .sl [[.str [122], .int .i64 (5), .sl [[.str [121]]] .none, .sl [] .none, .int .i64 (0)]] .none],
  .cells [.bool true, .str [99]],
  .cells [.bool false, .str [121]],
  .cells [.map 4, .bool true, .str [99], .bool false, .str [121]],
  .cells [.map 12],
  .map [(.agg [.bool false, .str [121]], .bool true)],
  .cells [.map 5, .bool false, .str [121], .bool true, .str [99]],
  .cells [.map 15],
  .map [(.agg [.bool true, .str [99]], .bool true)],
  .cells [.bool false, .str [122]],
  .cells [.bool true, .str [99]],
  .cells [.map 4, .bool false, .str [122], .bool true, .str [99]],
  .cells [.map 20],
  .map [(.agg [.bool true, .str [99]], .bool true)],
  .cells [.map 5, .bool true, .str [99], .bool false, .str [122]],
  .cells [.map 23],
  .map [(.agg [.bool false, .str [122]], .bool true)],
  .cells [.str [97], .sl [[.str [115]]] .none, .sl [[.str [120]]] .none, .sl [] .none, .sl [[.str [120], .int .i64 (5), .sl [[.str [115]]] .none, .sl [] .none, .int .i64 (0)]] .none],
  .cells [.bool true, .str [97]],
  .cells [.bool false, .str [115]],
  .cells [.map 4, .bool true, .str [97], .bool false, .str [115]],
  .cells [.map 29],
  .map [(.agg [.bool false, .str [115]], .bool true)],
  .cells [.map 5, .bool false, .str [115], .bool true, .str [97]],
  .cells [.map 32],
  .map [(.agg [.bool true, .str [97]], .bool true)],
  .cells [.bool false, .str [120]],
  .cells [.bool true, .str [97]],
  .cells [.map 4, .bool false, .str [120], .bool true, .str [97]],
  .cells [.map 37],
  .map [(.agg [.bool true, .str [97]], .bool true)],
  .cells [.map 5, .bool true, .str [97], .bool false, .str [120]],
  .cells [.map 40],
  .map [(.agg [.bool false, .str [120]], .bool true)],
  .cells [.str [98], .sl [[.str [120]]] .none, .sl [[.str [121]]] .none, .sl [] .none, .sl [[.str [121], .int .i64 (5), .sl [[.str [120]]] .none, .sl [] .none, .int .i64 (0)]] .none],
  .cells [.bool true, .str [98]],
  .cells [.bool false, .str [120]],
  .cells [.map 4, .bool true, .str [98], .bool false, .str [120]],
  .cells [.map 46],
  .map [(.agg [.bool false, .str [120]], .bool true)],
  .cells [.map 5, .bool false, .str [120], .bool true, .str [98]],
  .cells [.map 49],
  .map [(.agg [.bool true, .str [98]], .bool true)],
  .cells [.bool false, .str [121]],
  .cells [.bool true, .str [98]],
  .cells [.map 4, .bool false, .str [121], .bool true, .str [98]],
  .cells [.map 54],
  .map [(.agg [.bool true, .str [98]], .bool true)],
  .cells [.map 5, .bool true, .str [98], .bool false, .str [121]],
  .cells [.map 57],
  .map [(.agg [.bool false, .str [121]], .bool true)],
  .cells [.map 59],
  .map [(.agg [.bool true, .str [97]], .bool true), (.agg [.bool false, .str [98]], .bool true)],
  .cells [.bool true, .str [97]],
  .cells [.bool false, .str [98]]]
noncomputable def g12bR0 : SRow := ⟨g12bA1, g12bS18, .sl [[.bool false, .str [122]], [.bool true, .str [99]], [.bool false, .str [121]], [.bool true, .str [98]], [.bool false, .str [120]]] .none, g12bS18, []⟩
noncomputable def g12bR1 : SRow := ⟨g12A0, g12S0, .sl [[.str [97]], [.str [98]], [.str [99]]] .none, g12S0, []⟩
noncomputable def g12bR2 : SRow := ⟨g12A0, g12S0, .sl [[.sl [[.str [97]]] .none], [.sl [[.str [98]]] .none], [.sl [[.str [99]]] .none]] .none, g12S0, []⟩
noncomputable def g12bA2 : List D := [.ptr 6 0, .sl [[.str [121]]] .none]
noncomputable def g12bR3 : SRow := ⟨g12bA2, g12S2, .sl [[.str [97]], [.str [98]]] .none, g12S2, []⟩
noncomputable def g12bR4 : SRow := ⟨g12A0, g12S2, .sl [[.str [97]], [.str [98]], [.str [99]]] .none, g12S2, []⟩
noncomputable def g12bR5 : SRow := ⟨g12A0, g12S2, .sl [[.str [99], .sl [[.str [121]]] .none, .sl [[.str [122]]] .none, .sl [] .none, .sl [[.str [122], .int .i64 (5), .sl [[.str [121]]] .none, .sl [] .none, .int .i64 (0)]] .none], [.str [97], .sl [[.str [115]]] .none, .sl [[.str [120]]] .none, .sl [] .none, .sl [[.str [120], .int .i64 (5), .sl [[.str [115]]] .none, .sl [] .none, .int .i64 (0)]] .none], [.str [98], .sl [[.str [120]]] .none, .sl [[.str [121]]] .none, .sl [] .none, .sl [[.str [121], .int .i64 (5), .sl [[.str [120]]] .none, .sl [] .none, .int .i64 (0)]] .none]] .none, g12S2, []⟩
noncomputable def g12bA3 : List D := [.sl [[.str [99], .sl [[.str [121]]] .none, .sl [[.str [122]]] .none, .sl [[.str [97]]] .none, .sl [[.str [122], .int .i64 (5), .sl [[.str [121]]] .none, .sl [] .none, .int .i64 (0)]] .none], [.str [97], .sl [[.str [115]]] .none, .sl [[.str [120]]] .none, .sl [] .none, .sl [[.str [120], .int .i64 (5), .sl [[.str [115]]] .none, .sl [] .none, .int .i64 (0)]] .none], [.str [98], .sl [[.str [120]]] .none, .sl [[.str [121]]] .none, .sl [] .none, .sl [[.str [121], .int .i64 (5), .sl [[.str [120]]] .none, .sl [] .none, .int .i64 (0)]] .none]] .none, .str [99]]
noncomputable def g12bR6 : SRow := ⟨g12bA3, g12S2, .sl [[.str [97]], [.str [98]]] .none, g12S2, []⟩
noncomputable def g12bR7 : SRow := ⟨g12bA1, g12S2, .sl [[.bool false, .str [120]], [.bool false, .str [121]], [.bool false, .str [122]], [.bool true, .str [98]], [.bool true, .str [99]]] .none, g12S2, []⟩
noncomputable def g12bA4 : List D := [.ptr 6 0, .agg [.bool false, .str [122]], .agg [.bool false, .str [120]], .int .i64 (9)]
noncomputable def g12bR8 : SRow := ⟨g12bA4, g12S2, .sl [[.sl [[.bool false, .str [122]], [.bool true, .str [99]], [.bool false, .str [121]], [.bool true, .str [98]], [.bool false, .str [120]]] .none]] .none, g12S2, []⟩
noncomputable def srows12b : List (Nat × List SRow) := [(86, [g12bR0]), (87, [g12bR7]), (98, [g12bR1, g12bR4]), (99, [g12bR2]), (106, [g12bR3]), (108, [g12bR5]), (109, [g12bR6]), (111, [g12bR8])]
end Go.Vam

set_option linter.unusedSimpArgs false
set_option linter.unusedVariables false
set_option maxRecDepth 1000000
namespace Go.Vam
open Go.Proofs

theorem kg12bR0 : okSG srows12 tab6a 60 86 g12bR0 = true := by kernel_rfl
theorem kg12bR7 : okSG srows12 tab6a 60 87 g12bR7 = true := by kernel_rfl
theorem kg12bR1 : okSG srows12 tab6a 60 98 g12bR1 = true := by kernel_rfl
theorem kg12bR4 : okSG srows12 tab6a 60 98 g12bR4 = true := by kernel_rfl
theorem kg12bR2 : okSG srows12 tab6a 60 99 g12bR2 = true := by kernel_rfl
theorem kg12bR3 : okSG srows12 tab6a 60 106 g12bR3 = true := by kernel_rfl
theorem kg12bR5 : okSG srows12 tab6a 60 108 g12bR5 = true := by kernel_rfl
theorem kg12bR6 : okSG srows12 tab6a 60 109 g12bR6 = true := by kernel_rfl
theorem kg12bR8 : okSG srows12 tab6a 60 111 g12bR8 = true := by kernel_rfl
end Go.Vam
