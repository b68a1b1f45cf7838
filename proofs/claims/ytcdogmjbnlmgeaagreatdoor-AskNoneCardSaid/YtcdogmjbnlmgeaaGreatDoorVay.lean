/-
  The card of AskNone holds: the law answers true in every world, without a condition but those of the card.
-/
import Derived.Test.YtcdogmjbnlmgeaaGreatDoorVaw
import Derived.Test.YtcdogmjbnlmgeaaGreatDoorVax
import Derived.SevenTiedAt
set_option linter.unusedSimpArgs false
set_option linter.unusedVariables false
set_option maxRecDepth 1000000
namespace Go.Proofs.YtcdogmjbnlmgeaaGreatDoor
open Go

theorem askNone_card : Rows.AskNoneCardSaid :=
  Claim7.holds_tied_plain_at .later [] [.data, .data, .data, .data, .sentinel, .sentinel, .pinned] true (true, "8c4716ba10ea79918cd9a8043ae2a65da489b5ae760f33660610436a8d2e9111") true
    none_holds (fun _ h => by cases h) none_c2 (fun _ h => by cases h) askNone_row_tie rfl ⟨rfl, rfl⟩ none_c3 rfl
    (fun f fn hf hfn => by
      obtain rfl : f = 7 := Option.some.inj (none_c1.symm.trans hf) |>.symm
      obtain rfl : fn = Tryz.f7 := (Option.some.inj (Tryz.func7.symm.trans hfn)).symm
      exact ⟨none_c4, fun j t ht => by
        rw [Tryz.params7] at ht
        simp at ht⟩)
    none_c5
end Go.Proofs.YtcdogmjbnlmgeaaGreatDoor
