/- Part of a claim: contracts of the program's functions, walked op by op. -/
import Derived.Test.YthabegpfnfbmaaaGreatDoorC1
set_option linter.unusedSimpArgs false
set_option linter.unusedVariables false
/- NodeBeats: the row, the card. -/
set_option maxHeartbeats 20000000
namespace Go.Proofs.YthabegpfnfbmaaaGreatDoor
open Go.ChangeShapes Go.WideShapes Go.ChangeAt Go.RowKit Go.Lib Go.LL
theorem andI {a b : Bool} (h1 : a = true) (h2 : b = true) : (a && b) = true := by rw [h1, h2]; rfl
set_option maxRecDepth 100000 in
theorem nodeBeats_closed : joinedFacts Tryz.pinned.checked.prog 3 Tryz.f3 Rows.nodeBeatsSpec Rows.nodeBeatsRow = true := by
  unfold joinedFacts
  repeat' (with_reducible apply andI)
  all_goals (as_aux_lemma => kernel_rfl)
theorem nodeBeats_named : Tryz.pinned.checked.prog.funcNamed Rows.nodeBeatsRow.func = some 3 := by kernel_rfl
theorem nodeBeats_inst : Tryz.f3.isInstance Tryz.pinned.checked.prog Rows.nodeBeatsRow.origin Rows.nodeBeatsRow.targs := of_decide_eq_true (by kernel_rfl)
theorem nodeBeats_wrap : Tryz.f3.isWrapper Tryz.pinned.checked.prog Rows.nodeBeatsRow.wrapper Rows.nodeBeatsRow.mainSum := by
  unfold Func.isWrapper; first | (rw [if_pos (by decide +kernel)]; kernel_rfl) | (rw [if_neg (by decide +kernel)]; exact ⟨rfl, rfl⟩)
theorem nodeBeats_said : Rows.NodeBeatsSaid :=
  OpenClaim.holds_of_wide 3 Tryz.f3 rfl rfl rfl rfl rfl rfl rfl ⟨rfl, rfl, rfl, rfl, rfl⟩ rfl rfl rfl rfl rfl nodeBeats_named Tryz.func3 nodeBeats_closed nodeBeats_inst nodeBeats_wrap
    (fun os started H enc _ => nodeBeats_lifted os started H enc)

end Go.Proofs.YthabegpfnfbmaaaGreatDoor
