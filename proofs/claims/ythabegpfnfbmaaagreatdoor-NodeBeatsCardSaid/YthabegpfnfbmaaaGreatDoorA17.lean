/- Part of a claim: contracts of the program's functions, walked op by op. -/
import Derived.Test.YthabegpfnfbmaaaGreatDoorA16
import Derived.Lib.RowBridge
set_option linter.unusedSimpArgs false
set_option linter.unusedVariables false
namespace Go.LL
open Go.Proofs
abbrev sortL (l : List Int) : List Int := l.mergeSort fun x y => decide (x ≤ y)
def setL (l : List Int) : List Int := Lib.compact (sortL l)
theorem sortL_len (l : List Int) : (sortL l).length = l.length := by simp [sortL]

set_option maxRecDepth 4000 in
set_option maxHeartbeats 2000000 in
theorem oset_spec (s : Sli) (l : List Int) (hs : SlI s l) (hl : l.length ≤ 1000) :
    Spec Tryz.prog 236 [s.v] [] (s.L 3) (fun v L => ∃ s2 : Sli, SlI s2 (setL l) ∧ v = s2.v ∧ L = s2.L 3) := by
  refine spec_of Tryz.func236 rfl Tryz.ntmps236 (by simp) fun w0 hb => ?_
  refine gc_seq ?_
  refine gc_region ?_
  refine sq (q_as rfl) rfl rfl ?_
  refine go_nil ?_
  refine tn ?_
  refine gc_seq ?_
  refine gc_region ?_
  refine sq (q_mv rfl) rfl rfl ?_
  refine s_call (e_call (cloneI_spec s l hs hl) rfl en56) rfl rfl ?_
  rintro _ _ ⟨s1, ok1, rfl, rfl⟩
  refine sq (q_as rfl) rfl rfl ?_
  refine go_nil ?_
  refine tn ?_
  refine gc_seq ?_
  refine gc_region ?_
  refine sq (q_mv rfl) rfl rfl ?_
  refine s_call (e_call (sortI_spec s1 l ok1 hl) rfl en293) rfl rfl ?_
  rintro _ _ ⟨rfl, rfl⟩
  have hz := SlI.setI ok1 (sortL_len l)
  refine go_nil ?_
  refine tn ?_
  refine gc_seq ?_
  refine gc_region ?_
  refine sq (q_mv rfl) rfl rfl ?_
  refine s_call (e_call (compactI_spec (s1.setI (sortL l)) (sortL l) hz (by rw [sortL_len]; exact hl) (Lib.compact_length_le _) rfl) rfl en294) rfl rfl ?_
  rintro _ _ ⟨s3, ok3, rfl, rfl⟩
  refine sq (q_as rfl) rfl rfl ?_
  refine go_nil ?_
  refine tn ?_
  refine gc_ret ?_
  refine ret_1 (.inl rfl) rfl rfl ?_
  exact rsY (A := Sli.L 3 s3) [] ⟨s3, ok3, rfl, rfl⟩
end Go.LL
