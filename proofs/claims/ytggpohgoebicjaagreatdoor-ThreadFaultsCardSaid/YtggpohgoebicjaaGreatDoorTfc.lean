/- The statement ThreadFaultsCardSaid is proved: a plain access beyond the words has no effect but an observation, and the thread goes on; no conditions. -/
import Derived.Test.YtggpohgoebicjaaGreatDoorWk1
import Derived.WalkKit
import Derived.ProofKit
import Derived.SevenTiedAt
import Derived.Test.YtggpohgoebicjaaGreatDoorTie
import Derived.Test.YtggpohgoebicjaaGreatDoorCards
import Derived.Test.YtggpohgoebicjaaGreatDoorTfr
set_option linter.all false
namespace Go.Proofs.YtggpohgoebicjaaGreatDoor
open Go Go.Ev

set_option maxRecDepth 100000 in
set_option maxHeartbeats 0 in
theorem tf_card_of (row : Rows.ThreadFaultsSaid) : Rows.ThreadFaultsCardSaid :=
  Claim7.holds_tied_plain_at .later [] [.data] true (true, "826f5ae1f43cc8d94bdf51a30255946e672585476090e3208a297cef737f38af") false
    row (fun _ h => by cases h) (by as_aux_lemma => kernel_rfl) (fun _ h => by cases h) threadFaults_row_tie rfl ⟨rfl, rfl⟩ (by as_aux_lemma => kernel_rfl) rfl
    (fun f fn hf hfn => by
      obtain rfl : f = 3 := Option.some.inj ((show Tryz.prog.funcNamed "strongtx/strongtxlaw20.ThreadFaults" = some 3 by as_aux_lemma => kernel_rfl).symm.trans hf) |>.symm
      obtain rfl : fn = Tryz.f3 := (Option.some.inj (Tryz.func3.symm.trans hfn)).symm
      exact ⟨by as_aux_lemma => kernel_rfl, fun j t ht => by
        rw [Tryz.params3] at ht
        have h3 : t = 22 ∨ t = 3 ∨ t = 4 := by
          rcases j with _ | _ | _ | _ | j
          · left; simpa using ht.symm
          · right; left; simpa using ht.symm
          · right; left; simpa using ht.symm
          · right; right; simpa using ht.symm
          · simp at ht
        rcases h3 with rfl | rfl | rfl
        · exact (show Tryz.prog.wantsStandIn 22 = false by as_aux_lemma => kernel_rfl)
        · exact (show Tryz.prog.wantsStandIn 3 = false by as_aux_lemma => kernel_rfl)
        · exact (show Tryz.prog.wantsStandIn 4 = false by as_aux_lemma => kernel_rfl)⟩)
    (by as_aux_lemma => kernel_rfl)
end Go.Proofs.YtggpohgoebicjaaGreatDoor

namespace Go.Proofs.YtggpohgoebicjaaGreatDoor
theorem threadFaults : Rows.ThreadFaultsCardSaid := tf_card_of (tf_row tf_law)
end Go.Proofs.YtggpohgoebicjaaGreatDoor
