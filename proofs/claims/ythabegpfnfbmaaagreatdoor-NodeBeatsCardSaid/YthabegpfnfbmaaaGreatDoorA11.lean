/- Part of a claim: contracts of the program's functions, walked op by op. -/
import Derived.Test.YthabegpfnfbmaaaGreatDoorA10
import Derived.Test.YthabegpfnfbmaaaGreatDoorMO7
import Derived.Test.YthabegpfnfbmaaaGreatDoorCA
set_option linter.unusedSimpArgs false
set_option linter.unusedVariables false
namespace Go.LL
open Go.Proofs
theorem apseq_spec (b : Nat) : Spec Tryz.prog 297 [.slice none 0 0, .func (.func 245) #[] #[pt b]] [] [(b, .cells #[.map none] 156 (0, 0))] (fun v L => v = .slice none 0 0 ∧ L = []) := spec_below fun w h => by
  have hb := h (b, .cells #[.map none] 156 (0, 0)) (by simp)
  exact appendSeq_nil b w (lt_of_get hb) (by simp [World.cell?, hb])

set_option maxRecDepth 4000 in
set_option maxHeartbeats 2000000 in
theorem collect_spec (b : Nat) :
    Spec Tryz.prog 243 [.func (.func 245) #[] #[pt b]] [] [(b, .cells #[.map none] 156 (0, 0))] (fun v L => v = .slice none 0 0 ∧ L = []) := by
  refine spec_of Tryz.func243 rfl Tryz.ntmps243 (by simp) fun w0 hb => ?_
  refine gc_seq ?_
  refine gc_region ?_
  refine sq (q_as rfl) rfl rfl ?_
  refine go_nil ?_
  refine tn ?_
  refine gc_seq ?_
  refine gc_region ?_
  refine sq (q_mv rfl) rfl rfl ?_
  refine s_callE (e_call (apseq_spec b) rfl en297) rfl rfl ?_
  refine sq (q_as rfl) rfl rfl ?_
  refine go_nil ?_
  refine tn ?_
  refine gc_ret ?_
  refine ret_1 (.inl rfl) rfl rfl ?_
  exact rsE (by first | rfl | (simp_all; done) | (simp_all; rfl) | (simp_all; omega) | (simp_all; intros; omega) | (simp_all; (repeat' split) <;> first | rfl | (simp_all; done) | omega | (exfalso; omega)))

set_option maxRecDepth 4000 in
set_option maxHeartbeats 2000000 in
theorem values_spec  :
    Spec Tryz.prog 159 [.map none] [] [] (fun v L => ∃ b, v = .func (.func 245) #[] #[pt b] ∧ L = [(b, .cells #[.map none] 156 (0, 0))]) := by
  refine spec_of Tryz.func159 rfl Tryz.ntmps159 (by simp) fun w0 hb => ?_
  refine gc_seq ?_
  refine gc_region ?_
  refine s_new (e_box rfl rfl) rfl rfl fun b1 => ?_
  refine sq (q_as rfl) rfl rfl ?_
  refine go_nil ?_
  refine tn ?_
  refine gc_seq ?_
  refine gc_region ?_
  refine sq (q_mkf rfl rfl) rfl rfl ?_
  refine sq (q_as rfl) rfl rfl ?_
  refine go_nil ?_
  refine tn ?_
  refine gc_ret ?_
  refine ret_1 (.inl rfl) rfl rfl ?_
  exact rsX [b1] ⟨_, rfl, rfl⟩

set_option maxRecDepth 4000 in
set_option maxHeartbeats 2000000 in
theorem blen_spec (a : BitVec 64) :
    Spec Tryz.prog 299 [uv a] [] [] (fun v L => v = i6 (lenU a) ∧ L = []) := by
  refine spec_of Tryz.func299 rfl Tryz.ntmps299 (by simp) fun w0 hb => ?_
  refine gc_seq ?_
  refine gc_region ?_
  refine sq (q_as rfl) rfl rfl ?_
  refine go_nil ?_
  refine tn ?_
  refine gc_seq ?_
  refine gc_false rfl ?_
  refine gc_skip ?_
  refine tn ?_
  refine gc_seq ?_
  refine gc_region ?_
  refine sq (q_mv rfl) rfl rfl ?_
  refine s_callE (e_call (lenU_spec a) rfl en326) rfl rfl ?_
  refine sq (q_as rfl) rfl rfl ?_
  refine go_nil ?_
  refine tn ?_
  refine gc_ret ?_
  refine ret_1 (.inl rfl) rfl rfl ?_
  exact rsE (by first | rfl | (simp_all; done) | (simp_all; rfl) | (simp_all; omega) | (simp_all; intros; omega) | (simp_all; (repeat' split) <;> first | rfl | (simp_all; done) | omega | (exfalso; omega)))

set_option maxRecDepth 4000 in
set_option maxHeartbeats 2000000 in
theorem inss_spec (f : Value) :
    Spec Tryz.prog 306 [.slice none 0 0, i6 0, i6 0, f] [] [] (fun v L => v = .tuple #[] ∧ L = []) := by
  refine spec_of Tryz.func306 rfl Tryz.ntmps306 (by simp) fun w0 hb => ?_
  refine gc_seq ?_
  refine gc_region ?_
  refine sq (q_mv rfl) rfl rfl ?_
  refine sq (OpQ.cast (q_addi rfl rfl (by decide)) (rfl : _ = i6 (1))) rfl rfl ?_
  refine sq (q_as rfl) rfl rfl ?_
  refine go_nil ?_
  refine tn ?_
  refine gc_block ?_
  refine gc_unroll 1 (gr_succ ?_)
  refine gc_seq ?_
  refine gc_seq ?_
  refine gc_region ?_
  refine sq (q_mv rfl) rfl rfl ?_
  refine sq (q_mv rfl) rfl rfl ?_
  refine sq (q_lss rfl rfl) rfl rfl ?_
  refine go_nil ?_
  refine tn ?_
  refine gc_false rfl ?_
  refine gc_exit ?_
  refine tx (tx (bx ?_))
  refine ret_0 (.inr rfl) rfl ?_
  exact rsE rfl

set_option maxRecDepth 4000 in
set_option maxHeartbeats 2000000 in
theorem pdq_spec (f : Value) (l : Int) :
    Spec Tryz.prog 298 [.slice none 0 0, i6 0, i6 0, i6 l, f] [] [] (fun v L => v = .tuple #[] ∧ L = []) := by
  refine spec_of Tryz.func298 rfl Tryz.ntmps298 (by simp) fun w0 hb => ?_
  refine gc_seq ?_
  refine gc_region ?_
  refine sq (q_as rfl) rfl rfl ?_
  refine go_nil ?_
  refine tn ?_
  refine gc_seq ?_
  refine gc_region ?_
  refine sq (q_as rfl) rfl rfl ?_
  refine go_nil ?_
  refine tn ?_
  refine gc_block ?_
  refine gc_unroll 1 (gr_succ ?_)
  refine gc_block ?_
  refine gc_seq ?_
  refine gc_region ?_
  refine sq (q_mv rfl) rfl rfl ?_
  refine sq (q_mv rfl) rfl rfl ?_
  refine sq (OpQ.cast (q_subi rfl rfl (by decide)) (rfl : _ = i6 (0))) rfl rfl ?_
  refine sq (q_as rfl) rfl rfl ?_
  refine go_nil ?_
  refine tn ?_
  refine gc_seq ?_
  refine gc_seq ?_
  refine gc_region ?_
  refine sq (q_mv rfl) rfl rfl ?_
  refine sq (q_leq rfl rfl) rfl rfl ?_
  refine go_nil ?_
  refine tn ?_
  refine gc_true rfl ?_
  refine gc_seq ?_
  refine gc_region ?_
  refine sq (q_mv rfl) rfl rfl ?_
  refine sq (q_mv rfl) rfl rfl ?_
  refine sq (q_mv rfl) rfl rfl ?_
  refine sq (q_mv rfl) rfl rfl ?_
  refine s_callE (e_call (inss_spec f) rfl en306) rfl rfl ?_
  refine go_nil ?_
  refine tn ?_
  refine gc_ret ?_
  refine tr (br (tr (br ?_)))
  refine ret_0 (.inl rfl) rfl ?_
  exact rsE rfl

set_option maxRecDepth 4000 in
set_option maxHeartbeats 2000000 in
theorem sortf_spec (f : Value) :
    Spec Tryz.prog 244 [.slice none 0 0, f] [] [] (fun v L => v = .tuple #[] ∧ L = []) := by
  refine spec_of Tryz.func244 rfl Tryz.ntmps244 (by simp) fun w0 hb => ?_
  refine gc_seq ?_
  refine gc_region ?_
  refine sq (q_mv rfl) rfl rfl ?_
  refine sq (q_lenS Tryz.runUnderlying58 rfl) rfl rfl ?_
  refine sq (q_as rfl) rfl rfl ?_
  refine go_nil ?_
  refine tn ?_
  refine gc_region ?_
  refine sq (q_mv rfl) rfl rfl ?_
  refine sq (q_mv rfl) rfl rfl ?_
  refine sq (q_mv rfl) rfl rfl ?_
  refine sq (q_conv Tryz.runUnderlying3 Tryz.runUnderlying258 rfl) rfl rfl ?_
  refine s_callE (e_call (blen_spec 0#64) rfl en299) rfl rfl ?_
  refine sq (q_mv rfl) rfl rfl ?_
  refine s_callE (e_call (pdq_spec f _) rfl en298) rfl rfl ?_
  refine go_nil ?_
  refine ret_0 (.inr rfl) rfl ?_
  exact rsE (by first | rfl | (simp_all; done) | (simp_all; rfl) | (simp_all; omega) | (simp_all; intros; omega) | (simp_all; (repeat' split) <;> first | rfl | (simp_all; done) | omega | (exfalso; omega)))

set_option maxRecDepth 4000 in
set_option maxHeartbeats 2000000 in
theorem sortedf_spec (b : Nat) (f : Value) :
    Spec Tryz.prog 158 [.func (.func 245) #[] #[pt b], f] [] [(b, .cells #[.map none] 156 (0, 0))] (fun v L => v = .slice none 0 0 ∧ L = []) := by
  refine spec_of Tryz.func158 rfl Tryz.ntmps158 (by simp) fun w0 hb => ?_
  refine gc_seq ?_
  refine gc_region ?_
  refine sq (q_as rfl) rfl rfl ?_
  refine go_nil ?_
  refine tn ?_
  refine gc_seq ?_
  refine gc_region ?_
  refine sq (q_mv rfl) rfl rfl ?_
  refine s_callE (e_call (collect_spec b) rfl en243) rfl rfl ?_
  refine sq (q_as rfl) rfl rfl ?_
  refine go_nil ?_
  refine tn ?_
  refine gc_seq ?_
  refine gc_region ?_
  refine sq (q_mv rfl) rfl rfl ?_
  refine sq (q_mv rfl) rfl rfl ?_
  refine s_callE (e_call (sortf_spec f) rfl en244) rfl rfl ?_
  refine go_nil ?_
  refine tn ?_
  refine gc_seq ?_
  refine gc_region ?_
  refine sq (q_mv rfl) rfl rfl ?_
  refine sq (q_as rfl) rfl rfl ?_
  refine go_nil ?_
  refine tn ?_
  refine gc_ret ?_
  refine ret_1 (.inl rfl) rfl rfl ?_
  exact rsE (by first | rfl | (simp_all; done) | (simp_all; rfl) | (simp_all; omega) | (simp_all; intros; omega) | (simp_all; (repeat' split) <;> first | rfl | (simp_all; done) | omega | (exfalso; omega)))

set_option maxRecDepth 4000 in
set_option maxHeartbeats 2000000 in
theorem allnil_spec (s : Nat) :
    Spec Tryz.prog 71 [pt s] [] [(s, .cells #[.map none] 158 (0, 0))] (fun v L => v = .slice none 0 0 ∧ L = []) := by
  refine spec_of Tryz.func71 rfl Tryz.ntmps71 (by simp) fun w0 hb => ?_
  refine gc_seq ?_
  refine gc_region ?_
  refine sq (q_as rfl) rfl rfl ?_
  refine go_nil ?_
  refine tn ?_
  refine gc_seq ?_
  refine gc_region ?_
  refine sq (q_mv rfl) rfl rfl ?_
  refine sq (q_nc rfl) rfl rfl ?_
  refine sq (q_fa rfl Tryz.runUnderlying158 rfl Tryz.sizeOf156) rfl rfl ?_
  refine sq (q_ld rfl Tryz.isAgg156 rfl) rfl rfl ?_
  refine s_call (e_call (values_spec) rfl en159) rfl rfl ?_
  rintro _ _ ⟨b1, rfl, rfl⟩
  refine app1 ?_
  refine s_callE (e_call (sortedf_spec _ _) rfl en158) rfl rfl ?_
  refine sq (q_as rfl) rfl rfl ?_
  refine go_nil ?_
  refine tn ?_
  refine gc_ret ?_
  refine ret_1 (.inl rfl) rfl rfl ?_
  exact rsE (by first | rfl | (simp_all; done) | (simp_all; rfl) | (simp_all; omega) | (simp_all; intros; omega) | (simp_all; (repeat' split) <;> first | rfl | (simp_all; done) | omega | (exfalso; omega)))
end Go.LL
