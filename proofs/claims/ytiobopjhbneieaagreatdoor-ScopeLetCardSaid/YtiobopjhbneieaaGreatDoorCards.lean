/-
  DERIVED. GIVEN WITH THE SEED: THE CARDS: each row of YtiobopjhbneieaaGreatDoorRows.lean that lists a variable, with what it lists TIED to the program's text (the seventh form; the later family's looks); each row that meets fmt, with fmt's text TOLD by the authors' own Lean function (tested against real Go, not proved from fmt's source: count such statements apart). THE CARD IS WHAT COUNTS. Prove the row's statement (the work); the ties are given (YtiobopjhbneieaaGreatDoorTie.lean); close each card by the builder's one call (the guide's Derived/Test/ToyasCard.lean, 'card_holds'). Laid BY PROGRAM, IN A SANDBOX (cutbox-door.mjs). By AI agents, Wed Nov 11 2026. No macro, syntax, notation, axiom, sorry.
-/
import Derived.Test.YtiobopjhbneieaaGreatDoorRows
import GoSem.ClaimSeven
namespace Go.Proofs.YtiobopjhbneieaaGreatDoor
namespace Rows

/-- THE TIED CARD OF 'shipwrightlaw17.AskLeft'. -/
def askLeftCard : Claim7 := { stood := { row := askLeftRow, standIns := [], harness := (true, "cc4c7372acb64faaed9cbf25c360f0823d3bab2a82384ad9cdc4b089d346c02f"), looks := true }, kinds := [], alts := [], laidByText := true, laidKinds := [.data, .data, .data, .data, .sentinel, .sentinel, .pinned], laidTests := true, laidLooks := .later }
def AskLeftCardSaid : Prop := Claim7.holds Tryz.pinned (.plain (OpenSpec.ofChange askLeftSpec)) askLeftCard

/-- THE TIED CARD OF 'shipwrightlaw17.ScopeLet'. -/
def scopeLetCard : Claim7 := { stood := { row := scopeLetRow, standIns := [], harness := (true, "cc4c7372acb64faaed9cbf25c360f0823d3bab2a82384ad9cdc4b089d346c02f"), looks := true }, kinds := [], alts := [], laidByText := true, laidKinds := [.data, .data, .data, .data, .sentinel, .sentinel, .pinned], laidTests := true, laidLooks := .later }
def ScopeLetCardSaid : Prop := Claim7.holds Tryz.pinned (.plain (OpenSpec.ofChange scopeLetSpec)) scopeLetCard

/-- THE SECOND FORM's CARD OF 'shipwrightlaw17.AskLeft'. -/
def askLeftUptoCard : Claim7 := { stood := { row := askLeftUptoRow, standIns := [], harness := (true, "cc4c7372acb64faaed9cbf25c360f0823d3bab2a82384ad9cdc4b089d346c02f"), looks := true }, kinds := [], alts := [], laidByText := true, laidKinds := [.data, .data, .data, .data, .sentinel, .sentinel, .pinned], laidTests := true, laidLooks := .later }
def AskLeftUptoCardSaid : Prop := Claim7.holds Tryz.pinned (.plain (OpenSpec.upto askLeftSpec)) askLeftUptoCard

/-- THE SECOND FORM's CARD OF 'shipwrightlaw17.ScopeLet'. -/
def scopeLetUptoCard : Claim7 := { stood := { row := scopeLetUptoRow, standIns := [], harness := (true, "cc4c7372acb64faaed9cbf25c360f0823d3bab2a82384ad9cdc4b089d346c02f"), looks := true }, kinds := [], alts := [], laidByText := true, laidKinds := [.data, .data, .data, .data, .sentinel, .sentinel, .pinned], laidTests := true, laidLooks := .later }
def ScopeLetUptoCardSaid : Prop := Claim7.holds Tryz.pinned (.plain (OpenSpec.upto scopeLetSpec)) scopeLetUptoCard
end Rows
end Go.Proofs.YtiobopjhbneieaaGreatDoor
