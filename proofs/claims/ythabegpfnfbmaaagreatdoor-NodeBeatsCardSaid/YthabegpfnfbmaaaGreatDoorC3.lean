/- Proved: for every input of paternosterlaw22.NodeBeats (cars, id, from, seen, out) the call returns true and its arguments read as before; the error variables and the table math/bits.deBruijn64tab hold what the program's text lays, which the card ties. No other condition. -/
import Derived.Test.YthabegpfnfbmaaaGreatDoorC2
set_option linter.unusedSimpArgs false
set_option linter.unusedVariables false
set_option maxHeartbeats 20000000
namespace Go.Proofs.YthabegpfnfbmaaaGreatDoor
open Go.ChangeShapes Go.WideShapes Go.ChangeAt Go.RowKit Go.Lib Go.LL
theorem nodeBeats_holds : Rows.NodeBeatsCardSaid :=
  Claim7.holds_tied_plain_at .later [] [.data, .sentinel, .sentinel, .sentinel, .sentinel, .sentinel, .sentinel, .sentinel] true (true, "0c66d8bcc18dfed50a9672229d63371bc0551918b69acc7be52628e1b74e9cd2") true
    nodeBeats_said (fun _ h => by cases h) (by as_aux_lemma => kernel_rfl) (fun _ h => by cases h) nodeBeats_row_tie rfl ⟨rfl, rfl⟩ (by as_aux_lemma => kernel_rfl) rfl
    (fun f fn hf hfn => by
      obtain rfl : f = 3 := Option.some.inj ((show Tryz.prog.funcNamed "paternoster/paternosterlaw22.NodeBeats" = some 3 by kernel_rfl).symm.trans hf) |>.symm
      obtain rfl : fn = Tryz.f3 := (Option.some.inj (Tryz.func3.symm.trans hfn)).symm
      exact ⟨by as_aux_lemma => kernel_rfl, fun j t ht => by
        rw [Tryz.params3] at ht
        have ht' : t = 3 ∨ t = 2 ∨ t = 4 := by
          rcases j with _ | _ | _ | _ | _ | j <;> simp at ht <;> simp [ht]
        rcases ht' with rfl | rfl | rfl
        · exact (show Tryz.prog.wantsStandIn 3 = false by as_aux_lemma => kernel_rfl)
        · exact (show Tryz.prog.wantsStandIn 2 = false by as_aux_lemma => kernel_rfl)
        · exact (show Tryz.prog.wantsStandIn 4 = false by as_aux_lemma => kernel_rfl)⟩)
    (by as_aux_lemma => kernel_rfl)
#print axioms nodeBeats_holds
end Go.Proofs.YthabegpfnfbmaaaGreatDoor
