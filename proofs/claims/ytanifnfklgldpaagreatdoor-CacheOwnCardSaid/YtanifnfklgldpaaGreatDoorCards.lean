/-
  DERIVED. GIVEN WITH THE SEED: THE CARDS: each row of YtanifnfklgldpaaGreatDoorRows.lean that lists a variable, with what it lists TIED to the program's text (the seventh form; the later family's looks); each row that meets fmt, with fmt's text TOLD by the authors' own Lean function (tested against real Go, not proved from fmt's source: count such statements apart). THE CARD IS WHAT COUNTS. Prove the row's statement (the work); the ties are given (YtanifnfklgldpaaGreatDoorTie.lean); close each card by the builder's one call (the guide's Derived/Test/ToyasCard.lean, 'card_holds'). Laid BY PROGRAM, IN A SANDBOX (cutbox-door.mjs). By AI agents, Wed Nov 11 2026. No macro, syntax, notation, axiom, sorry.
-/
import Derived.Test.YtanifnfklgldpaaGreatDoorRows
import GoSem.ClaimSeven
namespace Go.Proofs.YtanifnfklgldpaaGreatDoor
namespace Rows

/-- THE TIED CARD OF 'shipwrightlaw24.CacheOwn'. -/
def cacheOwnCard : Claim7 := { stood := { row := cacheOwnRow, standIns := [], harness := (true, "66ddcb2bdf34331866a33481e0ca24a4fd328b1e16fdb945a04c50cc4714cc51"), looks := true }, kinds := [], alts := [], laidByText := true, laidKinds := [.data, .data, .data, .data, .sentinel, .sentinel, .pinned], laidTests := true, laidLooks := .later }
def CacheOwnCardSaid : Prop := Claim7.holds Tryz.pinned (.plain (OpenSpec.ofChange cacheOwnSpec)) cacheOwnCard

/-- THE TIED CARD OF 'shipwrightlaw24.SchedAfter'. -/
def schedAfterCard : Claim7 := { stood := { row := schedAfterRow, standIns := [], harness := (true, "66ddcb2bdf34331866a33481e0ca24a4fd328b1e16fdb945a04c50cc4714cc51"), looks := true }, kinds := [], alts := [], laidByText := true, laidKinds := [.data, .data, .data, .data, .sentinel, .sentinel, .pinned], laidTests := true, laidLooks := .later }
def SchedAfterCardSaid : Prop := Claim7.holds Tryz.pinned (.plain (OpenSpec.ofChange schedAfterSpec)) schedAfterCard

/-- THE TIED CARD OF 'shipwrightlaw24.SchedWide'. -/
def schedWideCard : Claim7 := { stood := { row := schedWideRow, standIns := [], harness := (true, "66ddcb2bdf34331866a33481e0ca24a4fd328b1e16fdb945a04c50cc4714cc51"), looks := true }, kinds := [], alts := [], laidByText := true, laidKinds := [.data, .data, .data, .data, .sentinel, .sentinel, .pinned], laidTests := true, laidLooks := .later }
def SchedWideCardSaid : Prop := Claim7.holds Tryz.pinned (.plain (OpenSpec.ofChange schedWideSpec)) schedWideCard

/-- THE TIED CARD OF 'shipwrightlaw24.CacheRoom'. -/
def cacheRoomCard : Claim7 := { stood := { row := cacheRoomRow, standIns := [], harness := (true, "66ddcb2bdf34331866a33481e0ca24a4fd328b1e16fdb945a04c50cc4714cc51"), looks := true }, kinds := [], alts := [], laidByText := true, laidKinds := [.data, .data, .data, .data, .sentinel, .sentinel, .pinned], laidTests := true, laidLooks := .later }
def CacheRoomCardSaid : Prop := Claim7.holds Tryz.pinned (.plain (OpenSpec.ofChange cacheRoomSpec)) cacheRoomCard

/-- THE TIED CARD OF 'shipwrightlaw24.CacheAll'. -/
def cacheAllCard : Claim7 := { stood := { row := cacheAllRow, standIns := [], harness := (true, "66ddcb2bdf34331866a33481e0ca24a4fd328b1e16fdb945a04c50cc4714cc51"), looks := true }, kinds := [], alts := [], laidByText := true, laidKinds := [.data, .data, .data, .data, .sentinel, .sentinel, .pinned], laidTests := true, laidLooks := .later }
def CacheAllCardSaid : Prop := Claim7.holds Tryz.pinned (.plain (OpenSpec.ofChange cacheAllSpec)) cacheAllCard

/-- THE TIED CARD OF 'shipwrightlaw24.ShopNone'. -/
def shopNoneCard : Claim7 := { stood := { row := shopNoneRow, standIns := [], harness := (true, "66ddcb2bdf34331866a33481e0ca24a4fd328b1e16fdb945a04c50cc4714cc51"), looks := true }, kinds := [], alts := [], laidByText := true, laidKinds := [.data, .data, .data, .data, .sentinel, .sentinel, .pinned], laidTests := true, laidLooks := .later }
def ShopNoneCardSaid : Prop := Claim7.holds Tryz.pinned (.plain (OpenSpec.ofChange shopNoneSpec)) shopNoneCard

/-- THE SECOND FORM's CARD OF 'shipwrightlaw24.CacheOwn'. -/
def cacheOwnUptoCard : Claim7 := { stood := { row := cacheOwnUptoRow, standIns := [], harness := (true, "66ddcb2bdf34331866a33481e0ca24a4fd328b1e16fdb945a04c50cc4714cc51"), looks := true }, kinds := [], alts := [], laidByText := true, laidKinds := [.data, .data, .data, .data, .sentinel, .sentinel, .pinned], laidTests := true, laidLooks := .later }
def CacheOwnUptoCardSaid : Prop := Claim7.holds Tryz.pinned (.plain (OpenSpec.upto cacheOwnSpec)) cacheOwnUptoCard

/-- THE SECOND FORM's CARD OF 'shipwrightlaw24.SchedAfter'. -/
def schedAfterUptoCard : Claim7 := { stood := { row := schedAfterUptoRow, standIns := [], harness := (true, "66ddcb2bdf34331866a33481e0ca24a4fd328b1e16fdb945a04c50cc4714cc51"), looks := true }, kinds := [], alts := [], laidByText := true, laidKinds := [.data, .data, .data, .data, .sentinel, .sentinel, .pinned], laidTests := true, laidLooks := .later }
def SchedAfterUptoCardSaid : Prop := Claim7.holds Tryz.pinned (.plain (OpenSpec.upto schedAfterSpec)) schedAfterUptoCard

/-- THE SECOND FORM's CARD OF 'shipwrightlaw24.SchedWide'. -/
def schedWideUptoCard : Claim7 := { stood := { row := schedWideUptoRow, standIns := [], harness := (true, "66ddcb2bdf34331866a33481e0ca24a4fd328b1e16fdb945a04c50cc4714cc51"), looks := true }, kinds := [], alts := [], laidByText := true, laidKinds := [.data, .data, .data, .data, .sentinel, .sentinel, .pinned], laidTests := true, laidLooks := .later }
def SchedWideUptoCardSaid : Prop := Claim7.holds Tryz.pinned (.plain (OpenSpec.upto schedWideSpec)) schedWideUptoCard

/-- THE SECOND FORM's CARD OF 'shipwrightlaw24.CacheRoom'. -/
def cacheRoomUptoCard : Claim7 := { stood := { row := cacheRoomUptoRow, standIns := [], harness := (true, "66ddcb2bdf34331866a33481e0ca24a4fd328b1e16fdb945a04c50cc4714cc51"), looks := true }, kinds := [], alts := [], laidByText := true, laidKinds := [.data, .data, .data, .data, .sentinel, .sentinel, .pinned], laidTests := true, laidLooks := .later }
def CacheRoomUptoCardSaid : Prop := Claim7.holds Tryz.pinned (.plain (OpenSpec.upto cacheRoomSpec)) cacheRoomUptoCard

/-- THE SECOND FORM's CARD OF 'shipwrightlaw24.CacheAll'. -/
def cacheAllUptoCard : Claim7 := { stood := { row := cacheAllUptoRow, standIns := [], harness := (true, "66ddcb2bdf34331866a33481e0ca24a4fd328b1e16fdb945a04c50cc4714cc51"), looks := true }, kinds := [], alts := [], laidByText := true, laidKinds := [.data, .data, .data, .data, .sentinel, .sentinel, .pinned], laidTests := true, laidLooks := .later }
def CacheAllUptoCardSaid : Prop := Claim7.holds Tryz.pinned (.plain (OpenSpec.upto cacheAllSpec)) cacheAllUptoCard

/-- THE SECOND FORM's CARD OF 'shipwrightlaw24.ShopNone'. -/
def shopNoneUptoCard : Claim7 := { stood := { row := shopNoneUptoRow, standIns := [], harness := (true, "66ddcb2bdf34331866a33481e0ca24a4fd328b1e16fdb945a04c50cc4714cc51"), looks := true }, kinds := [], alts := [], laidByText := true, laidKinds := [.data, .data, .data, .data, .sentinel, .sentinel, .pinned], laidTests := true, laidLooks := .later }
def ShopNoneUptoCardSaid : Prop := Claim7.holds Tryz.pinned (.plain (OpenSpec.upto shopNoneSpec)) shopNoneUptoCard
end Rows
end Go.Proofs.YtanifnfklgldpaaGreatDoor
