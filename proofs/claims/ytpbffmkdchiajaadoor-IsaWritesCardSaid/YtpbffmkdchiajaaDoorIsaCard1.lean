/-
  The tied card of IsaWrites.
-/
import Derived.Test.YtpbffmkdchiajaaDoorIsaRow1
import Derived.Test.YtpbffmkdchiajaaDoorTie
import Derived.Test.YtpbffmkdchiajaaDoorCards
import Derived.SevenTiedAt
namespace Go.Proofs.YtpbffmkdchiajaaDoor
open Go
theorem isaWrites_card : Rows.IsaWritesCardSaid :=
  Claim7.holds_tied_plain_at .later [] [.data, .data, .data, .data, .listed, .data, .data, .pinned] true (true, "8405c9a8d58946574d8e60fd243c37abd746041cd7a59d4d230acb9bf3b17558") false
    isaWrites_holds (fun _ h => by cases h) (by kernel_rfl) (fun _ h => by cases h) isaWrites_row_tie rfl ⟨rfl, rfl⟩ (by kernel_rfl) rfl
    (fun f fn hf hfn => by
      obtain rfl : f = 3 := Option.some.inj ((show Tryd.prog.funcNamed "tourbillon/tourbillonlaw02.IsaWrites" = some 3 by kernel_rfl).symm.trans hf) |>.symm
      obtain rfl : fn = Tryd.f3 := (Option.some.inj (Tryd.func3.symm.trans hfn)).symm
      exact ⟨by kernel_rfl, fun j t ht => by
        rw [Tryd.params3] at ht
        have h3 : t = 23 := by
          rcases j with _ | j
          · simpa using ht.symm
          · simp at ht
        subst h3
        exact (show Tryd.prog.wantsStandIn 23 = false by kernel_rfl)⟩)
    (by kernel_rfl)
#print axioms isaWrites_card
end Go.Proofs.YtpbffmkdchiajaaDoor
