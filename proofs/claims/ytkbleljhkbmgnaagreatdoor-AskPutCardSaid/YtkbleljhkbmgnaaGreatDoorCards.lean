/-
  DERIVED. GIVEN WITH THE SEED: THE CARDS: each row of YtkbleljhkbmgnaaGreatDoorRows.lean that lists a variable, with what it lists TIED to the program's text (the seventh form; the later family's looks); each row that meets fmt, with fmt's text TOLD by the authors' own Lean function (tested against real Go, not proved from fmt's source: count such statements apart). THE CARD IS WHAT COUNTS. Prove the row's statement (the work); the ties are given (YtkbleljhkbmgnaaGreatDoorTie.lean); close each card by the builder's one call (the guide's Derived/Test/ToyasCard.lean, 'card_holds'). Laid BY PROGRAM, IN A SANDBOX (cutbox-door.mjs). By AI agents, Wed Nov 11 2026. No macro, syntax, notation, axiom, sorry.
-/
import Derived.Test.YtkbleljhkbmgnaaGreatDoorRows
import GoSem.ClaimSeven
namespace Go.Proofs.YtkbleljhkbmgnaaGreatDoor
namespace Rows

/-- THE TIED CARD OF 'shipwrightlaw17.AskAll'. -/
def askAllCard : Claim7 := { stood := { row := askAllRow, standIns := [], harness := (true, "0c76ecc08a02bccff1ee2cd2a2a4ac8302ce04d2fdac47ff1f6ccb0a959fff94"), looks := true }, kinds := [], alts := [], laidByText := true, laidKinds := [.data, .data, .data, .data, .sentinel, .sentinel, .pinned], laidTests := true, laidLooks := .later }
def AskAllCardSaid : Prop := Claim7.holds Tryz.pinned (.plain (OpenSpec.ofChange askAllSpec)) askAllCard

/-- THE TIED CARD OF 'shipwrightlaw17.AskPut'. -/
def askPutCard : Claim7 := { stood := { row := askPutRow, standIns := [], harness := (true, "0c76ecc08a02bccff1ee2cd2a2a4ac8302ce04d2fdac47ff1f6ccb0a959fff94"), looks := true }, kinds := [], alts := [], laidByText := true, laidKinds := [.data, .data, .data, .data, .sentinel, .sentinel, .pinned], laidTests := true, laidLooks := .later }
def AskPutCardSaid : Prop := Claim7.holds Tryz.pinned (.plain (OpenSpec.ofChange askPutSpec)) askPutCard

/-- THE TIED CARD OF 'shipwrightlaw17.AskTurn'. -/
def askTurnCard : Claim7 := { stood := { row := askTurnRow, standIns := [], harness := (true, "0c76ecc08a02bccff1ee2cd2a2a4ac8302ce04d2fdac47ff1f6ccb0a959fff94"), looks := true }, kinds := [], alts := [], laidByText := true, laidKinds := [.data, .data, .data, .data, .sentinel, .sentinel, .pinned], laidTests := true, laidLooks := .later }
def AskTurnCardSaid : Prop := Claim7.holds Tryz.pinned (.plain (OpenSpec.ofChange askTurnSpec)) askTurnCard

/-- THE TIED CARD OF 'shipwrightlaw17.AskGap'. -/
def askGapCard : Claim7 := { stood := { row := askGapRow, standIns := [], harness := (true, "0c76ecc08a02bccff1ee2cd2a2a4ac8302ce04d2fdac47ff1f6ccb0a959fff94"), looks := true }, kinds := [], alts := [], laidByText := true, laidKinds := [.data, .data, .data, .data, .sentinel, .sentinel, .pinned], laidTests := true, laidLooks := .later }
def AskGapCardSaid : Prop := Claim7.holds Tryz.pinned (.plain (OpenSpec.ofChange askGapSpec)) askGapCard

/-- THE TIED CARD OF 'shipwrightlaw17.AskNone'. -/
def askNoneCard : Claim7 := { stood := { row := askNoneRow, standIns := [], harness := (true, "0c76ecc08a02bccff1ee2cd2a2a4ac8302ce04d2fdac47ff1f6ccb0a959fff94"), looks := true }, kinds := [], alts := [], laidByText := true, laidKinds := [.data, .data, .data, .data, .sentinel, .sentinel, .pinned], laidTests := true, laidLooks := .later }
def AskNoneCardSaid : Prop := Claim7.holds Tryz.pinned (.plain (OpenSpec.ofChange askNoneSpec)) askNoneCard

/-- THE TIED CARD OF 'shipwrightlaw17.AskPlaces'. -/
def askPlacesCard : Claim7 := { stood := { row := askPlacesRow, standIns := [], harness := (true, "0c76ecc08a02bccff1ee2cd2a2a4ac8302ce04d2fdac47ff1f6ccb0a959fff94"), looks := true }, kinds := [], alts := [], laidByText := true, laidKinds := [.data, .data, .data, .data, .sentinel, .sentinel, .pinned], laidTests := true, laidLooks := .later }
def AskPlacesCardSaid : Prop := Claim7.holds Tryz.pinned (.plain (OpenSpec.ofChange askPlacesSpec)) askPlacesCard

/-- THE SECOND FORM's CARD OF 'shipwrightlaw17.AskAll'. -/
def askAllUptoCard : Claim7 := { stood := { row := askAllUptoRow, standIns := [], harness := (true, "0c76ecc08a02bccff1ee2cd2a2a4ac8302ce04d2fdac47ff1f6ccb0a959fff94"), looks := true }, kinds := [], alts := [], laidByText := true, laidKinds := [.data, .data, .data, .data, .sentinel, .sentinel, .pinned], laidTests := true, laidLooks := .later }
def AskAllUptoCardSaid : Prop := Claim7.holds Tryz.pinned (.plain (OpenSpec.upto askAllSpec)) askAllUptoCard

/-- THE SECOND FORM's CARD OF 'shipwrightlaw17.AskPut'. -/
def askPutUptoCard : Claim7 := { stood := { row := askPutUptoRow, standIns := [], harness := (true, "0c76ecc08a02bccff1ee2cd2a2a4ac8302ce04d2fdac47ff1f6ccb0a959fff94"), looks := true }, kinds := [], alts := [], laidByText := true, laidKinds := [.data, .data, .data, .data, .sentinel, .sentinel, .pinned], laidTests := true, laidLooks := .later }
def AskPutUptoCardSaid : Prop := Claim7.holds Tryz.pinned (.plain (OpenSpec.upto askPutSpec)) askPutUptoCard

/-- THE SECOND FORM's CARD OF 'shipwrightlaw17.AskTurn'. -/
def askTurnUptoCard : Claim7 := { stood := { row := askTurnUptoRow, standIns := [], harness := (true, "0c76ecc08a02bccff1ee2cd2a2a4ac8302ce04d2fdac47ff1f6ccb0a959fff94"), looks := true }, kinds := [], alts := [], laidByText := true, laidKinds := [.data, .data, .data, .data, .sentinel, .sentinel, .pinned], laidTests := true, laidLooks := .later }
def AskTurnUptoCardSaid : Prop := Claim7.holds Tryz.pinned (.plain (OpenSpec.upto askTurnSpec)) askTurnUptoCard

/-- THE SECOND FORM's CARD OF 'shipwrightlaw17.AskGap'. -/
def askGapUptoCard : Claim7 := { stood := { row := askGapUptoRow, standIns := [], harness := (true, "0c76ecc08a02bccff1ee2cd2a2a4ac8302ce04d2fdac47ff1f6ccb0a959fff94"), looks := true }, kinds := [], alts := [], laidByText := true, laidKinds := [.data, .data, .data, .data, .sentinel, .sentinel, .pinned], laidTests := true, laidLooks := .later }
def AskGapUptoCardSaid : Prop := Claim7.holds Tryz.pinned (.plain (OpenSpec.upto askGapSpec)) askGapUptoCard

/-- THE SECOND FORM's CARD OF 'shipwrightlaw17.AskNone'. -/
def askNoneUptoCard : Claim7 := { stood := { row := askNoneUptoRow, standIns := [], harness := (true, "0c76ecc08a02bccff1ee2cd2a2a4ac8302ce04d2fdac47ff1f6ccb0a959fff94"), looks := true }, kinds := [], alts := [], laidByText := true, laidKinds := [.data, .data, .data, .data, .sentinel, .sentinel, .pinned], laidTests := true, laidLooks := .later }
def AskNoneUptoCardSaid : Prop := Claim7.holds Tryz.pinned (.plain (OpenSpec.upto askNoneSpec)) askNoneUptoCard

/-- THE SECOND FORM's CARD OF 'shipwrightlaw17.AskPlaces'. -/
def askPlacesUptoCard : Claim7 := { stood := { row := askPlacesUptoRow, standIns := [], harness := (true, "0c76ecc08a02bccff1ee2cd2a2a4ac8302ce04d2fdac47ff1f6ccb0a959fff94"), looks := true }, kinds := [], alts := [], laidByText := true, laidKinds := [.data, .data, .data, .data, .sentinel, .sentinel, .pinned], laidTests := true, laidLooks := .later }
def AskPlacesUptoCardSaid : Prop := Claim7.holds Tryz.pinned (.plain (OpenSpec.upto askPlacesSpec)) askPlacesUptoCard
end Rows
end Go.Proofs.YtkbleljhkbmgnaaGreatDoor
