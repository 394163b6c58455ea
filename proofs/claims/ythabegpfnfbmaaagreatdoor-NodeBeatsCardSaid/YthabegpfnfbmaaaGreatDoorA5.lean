/- Part of a claim: contracts of the program's functions, walked op by op. -/
import Derived.Test.YthabegpfnfbmaaaGreatDoorA4
import Derived.Test.YthabegpfnfbmaaaGreatDoorMO2
set_option linter.unusedSimpArgs false
set_option linter.unusedVariables false
namespace Go.LL
open Go.Proofs

set_option maxRecDepth 4000 in
set_option maxHeartbeats 2000000 in
theorem number_spec (ε : Nat → Nat × Value) (b q n : Nat) (m : CellM) (hn : m.bs.length = n) (hok : m.OK) (a : Int) :
    Spec Tryz.prog 239 [pt b, i6 a] [] ((b, CellM.o 146 q n m) :: (q, CellM.bo 5 m) :: ro ε) (fun v L => v = .tuple #[i6 (numberM m a).1, ev ε (numberM m a).2] ∧ L = []) := by
  refine spec_of Tryz.func239 rfl Tryz.ntmps239 (by simp) fun w0 hb => ?_
  refine gc_seq ?_
  refine gc_region ?_
  refine sq (q_as rfl) rfl rfl ?_
  refine sq (q_as rfl) rfl rfl ?_
  refine go_nil ?_
  refine tn ?_
  refine gc_seq ?_
  refine gc_region ?_
  refine sq (q_as rfl) rfl rfl ?_
  refine go_nil ?_
  refine tn ?_
  refine gc_seq ?_
  refine gc_seq ?_
  refine gc_region ?_
  refine sq (q_mv rfl) rfl rfl ?_
  refine go_nil ?_
  refine tn ?_
  refine gc_block ?_
  refine gc_unroll 7 (gr_succ ?_)
  refine gc_seq ?_
  refine gc_region ?_
  refine sq (q_lss rfl rfl) rfl rfl ?_
  refine go_nil ?_
  refine tn ?_
  refine gc_seq ?_
  refine gc_true rfl ?_
  refine gc_skip ?_
  refine tn ?_
  refine gc_seq ?_
  refine gc_block ?_
  refine gc_seq ?_
  refine gc_region ?_
  refine sq (q_mv rfl) rfl rfl ?_
  refine sq (q_as rfl) rfl rfl ?_
  refine go_nil ?_
  refine tn ?_
  refine gc_seq ?_
  refine gc_region ?_
  refine sq (q_mv rfl) rfl rfl ?_
  refine sq (q_mv rfl) rfl rfl ?_
  refine sq (q_mv rfl) rfl rfl ?_
  refine sq (q_addw rfl rfl) rfl rfl ?_
  refine s_callE (e_call (get_spec ε b q n m hn _) rfl en238) rfl rfl ?_
  refine sq (q_mv rfl) rfl rfl ?_
  refine sq (q_ext rfl rfl) rfl rfl ?_
  refine sq (q_ext rfl rfl) rfl rfl ?_
  refine sq (q_as rfl) rfl rfl ?_
  refine sq (q_as rfl) rfl rfl ?_
  refine go_nil ?_
  refine tn ?_
  refine gc_seq ?_
  refine gc_seq ?_
  refine gc_region ?_
  refine sq (q_mv rfl) rfl rfl ?_
  refine sq (q_inil_neq (q := (m.get _).2.map ε) rfl rfl Tryz.underlying47) rfl rfl ?_
  refine go_nil ?_
  refine tn ?_
  refine gc_if rfl (fun h1 => ?_) (fun h1 => ?_)
  · refine gc_seq ?_
    refine gc_region ?_
    refine sq (q_mv rfl) rfl rfl ?_
    refine sq (q_as rfl) rfl rfl ?_
    refine sq (q_as rfl) rfl rfl ?_
    refine go_nil ?_
    refine tn ?_
    refine gc_ret ?_
    refine tr (br (tr (tr (br (tr ?_)))))
    refine ret_2 (.inl rfl) rfl rfl rfl ?_
    exact rsE (by simp_all [numberM, numF])
  · refine gc_skip ?_
    refine tn ?_
    refine gc_region ?_
    refine sq (q_mv rfl) rfl rfl ?_
    refine sq (q_shl8 rfl rfl (by have h0 := CellM.get_b hok (w64 (a + 0)); have h1 := CellM.get_b hok (w64 (a + 1)); have h2 := CellM.get_b hok (w64 (a + 2)); have h3 := CellM.get_b hok (w64 (a + 3)); have h4 := CellM.get_b hok (w64 (a + 4)); have h5 := CellM.get_b hok (w64 (a + 5)); omega)) rfl rfl ?_
    refine sq (q_mv rfl) rfl rfl ?_
    refine sq (q_convi Tryz.runUnderlying5 Tryz.runUnderlying2 rfl (by have := CellM.get_b hok; constructor <;> (have := CellM.get_b hok (w64 (a + 0)); have := CellM.get_b hok (w64 (a + 1)); have := CellM.get_b hok (w64 (a + 2)); have := CellM.get_b hok (w64 (a + 3)); have := CellM.get_b hok (w64 (a + 4)); have := CellM.get_b hok (w64 (a + 5)); omega))) rfl rfl ?_
    refine sq (q_or8 rfl rfl (by have h0 := CellM.get_b hok (w64 (a + 0)); have h1 := CellM.get_b hok (w64 (a + 1)); have h2 := CellM.get_b hok (w64 (a + 2)); have h3 := CellM.get_b hok (w64 (a + 3)); have h4 := CellM.get_b hok (w64 (a + 4)); have h5 := CellM.get_b hok (w64 (a + 5)); omega)) rfl rfl ?_
    refine sq (q_as rfl) rfl rfl ?_
    refine go_nil ?_
    refine bn (tn ?_)
    refine gc_region ?_
    refine sq (OpQ.cast (q_addi rfl rfl (by decide)) (rfl : _ = i6 (1))) rfl rfl ?_
    refine sq (q_mv rfl) rfl rfl ?_
    refine go_nil ?_
    refine an_round (gr_succ ?_)
    refine gc_seq ?_
    refine gc_region ?_
    refine sq (q_lss rfl rfl) rfl rfl ?_
    refine go_nil ?_
    refine tn ?_
    refine gc_seq ?_
    refine gc_true rfl ?_
    refine gc_skip ?_
    refine tn ?_
    refine gc_seq ?_
    refine gc_block ?_
    refine gc_seq ?_
    refine gc_region ?_
    refine sq (q_mv rfl) rfl rfl ?_
    refine sq (q_as rfl) rfl rfl ?_
    refine go_nil ?_
    refine tn ?_
    refine gc_seq ?_
    refine gc_region ?_
    refine sq (q_mv rfl) rfl rfl ?_
    refine sq (q_mv rfl) rfl rfl ?_
    refine sq (q_mv rfl) rfl rfl ?_
    refine sq (q_addw rfl rfl) rfl rfl ?_
    refine s_callE (e_call (get_spec ε b q n m hn _) rfl en238) rfl rfl ?_
    refine sq (q_mv rfl) rfl rfl ?_
    refine sq (q_ext rfl rfl) rfl rfl ?_
    refine sq (q_ext rfl rfl) rfl rfl ?_
    refine sq (q_as rfl) rfl rfl ?_
    refine sq (q_as rfl) rfl rfl ?_
    refine go_nil ?_
    refine tn ?_
    refine gc_seq ?_
    refine gc_seq ?_
    refine gc_region ?_
    refine sq (q_mv rfl) rfl rfl ?_
    refine sq (q_inil_neq (q := (m.get _).2.map ε) rfl rfl Tryz.underlying47) rfl rfl ?_
    refine go_nil ?_
    refine tn ?_
    refine gc_if rfl (fun h2 => ?_) (fun h2 => ?_)
    · refine gc_seq ?_
      refine gc_region ?_
      refine sq (q_mv rfl) rfl rfl ?_
      refine sq (q_as rfl) rfl rfl ?_
      refine sq (q_as rfl) rfl rfl ?_
      refine go_nil ?_
      refine tn ?_
      refine gc_ret ?_
      refine tr (br (tr (tr (br (tr ?_)))))
      refine ret_2 (.inl rfl) rfl rfl rfl ?_
      exact rsE (by simp_all [numberM, numF])
    · refine gc_skip ?_
      refine tn ?_
      refine gc_region ?_
      refine sq (q_mv rfl) rfl rfl ?_
      refine sq (q_shl8 rfl rfl (by have h0 := CellM.get_b hok (w64 (a + 0)); have h1 := CellM.get_b hok (w64 (a + 1)); have h2 := CellM.get_b hok (w64 (a + 2)); have h3 := CellM.get_b hok (w64 (a + 3)); have h4 := CellM.get_b hok (w64 (a + 4)); have h5 := CellM.get_b hok (w64 (a + 5)); omega)) rfl rfl ?_
      refine sq (q_mv rfl) rfl rfl ?_
      refine sq (q_convi Tryz.runUnderlying5 Tryz.runUnderlying2 rfl (by have := CellM.get_b hok; constructor <;> (have := CellM.get_b hok (w64 (a + 0)); have := CellM.get_b hok (w64 (a + 1)); have := CellM.get_b hok (w64 (a + 2)); have := CellM.get_b hok (w64 (a + 3)); have := CellM.get_b hok (w64 (a + 4)); have := CellM.get_b hok (w64 (a + 5)); omega))) rfl rfl ?_
      refine sq (q_or8 rfl rfl (by have h0 := CellM.get_b hok (w64 (a + 0)); have h1 := CellM.get_b hok (w64 (a + 1)); have h2 := CellM.get_b hok (w64 (a + 2)); have h3 := CellM.get_b hok (w64 (a + 3)); have h4 := CellM.get_b hok (w64 (a + 4)); have h5 := CellM.get_b hok (w64 (a + 5)); omega)) rfl rfl ?_
      refine sq (q_as rfl) rfl rfl ?_
      refine go_nil ?_
      refine bn (tn ?_)
      refine gc_region ?_
      refine sq (OpQ.cast (q_addi rfl rfl (by decide)) (rfl : _ = i6 (2))) rfl rfl ?_
      refine sq (q_mv rfl) rfl rfl ?_
      refine go_nil ?_
      refine an_round (gr_succ ?_)
      refine gc_seq ?_
      refine gc_region ?_
      refine sq (q_lss rfl rfl) rfl rfl ?_
      refine go_nil ?_
      refine tn ?_
      refine gc_seq ?_
      refine gc_true rfl ?_
      refine gc_skip ?_
      refine tn ?_
      refine gc_seq ?_
      refine gc_block ?_
      refine gc_seq ?_
      refine gc_region ?_
      refine sq (q_mv rfl) rfl rfl ?_
      refine sq (q_as rfl) rfl rfl ?_
      refine go_nil ?_
      refine tn ?_
      refine gc_seq ?_
      refine gc_region ?_
      refine sq (q_mv rfl) rfl rfl ?_
      refine sq (q_mv rfl) rfl rfl ?_
      refine sq (q_mv rfl) rfl rfl ?_
      refine sq (q_addw rfl rfl) rfl rfl ?_
      refine s_callE (e_call (get_spec ε b q n m hn _) rfl en238) rfl rfl ?_
      refine sq (q_mv rfl) rfl rfl ?_
      refine sq (q_ext rfl rfl) rfl rfl ?_
      refine sq (q_ext rfl rfl) rfl rfl ?_
      refine sq (q_as rfl) rfl rfl ?_
      refine sq (q_as rfl) rfl rfl ?_
      refine go_nil ?_
      refine tn ?_
      refine gc_seq ?_
      refine gc_seq ?_
      refine gc_region ?_
      refine sq (q_mv rfl) rfl rfl ?_
      refine sq (q_inil_neq (q := (m.get _).2.map ε) rfl rfl Tryz.underlying47) rfl rfl ?_
      refine go_nil ?_
      refine tn ?_
      refine gc_if rfl (fun h3 => ?_) (fun h3 => ?_)
      · refine gc_seq ?_
        refine gc_region ?_
        refine sq (q_mv rfl) rfl rfl ?_
        refine sq (q_as rfl) rfl rfl ?_
        refine sq (q_as rfl) rfl rfl ?_
        refine go_nil ?_
        refine tn ?_
        refine gc_ret ?_
        refine tr (br (tr (tr (br (tr ?_)))))
        refine ret_2 (.inl rfl) rfl rfl rfl ?_
        exact rsE (by simp_all [numberM, numF])
      · refine gc_skip ?_
        refine tn ?_
        refine gc_region ?_
        refine sq (q_mv rfl) rfl rfl ?_
        refine sq (q_shl8 rfl rfl (by have h0 := CellM.get_b hok (w64 (a + 0)); have h1 := CellM.get_b hok (w64 (a + 1)); have h2 := CellM.get_b hok (w64 (a + 2)); have h3 := CellM.get_b hok (w64 (a + 3)); have h4 := CellM.get_b hok (w64 (a + 4)); have h5 := CellM.get_b hok (w64 (a + 5)); omega)) rfl rfl ?_
        refine sq (q_mv rfl) rfl rfl ?_
        refine sq (q_convi Tryz.runUnderlying5 Tryz.runUnderlying2 rfl (by have := CellM.get_b hok; constructor <;> (have := CellM.get_b hok (w64 (a + 0)); have := CellM.get_b hok (w64 (a + 1)); have := CellM.get_b hok (w64 (a + 2)); have := CellM.get_b hok (w64 (a + 3)); have := CellM.get_b hok (w64 (a + 4)); have := CellM.get_b hok (w64 (a + 5)); omega))) rfl rfl ?_
        refine sq (q_or8 rfl rfl (by have h0 := CellM.get_b hok (w64 (a + 0)); have h1 := CellM.get_b hok (w64 (a + 1)); have h2 := CellM.get_b hok (w64 (a + 2)); have h3 := CellM.get_b hok (w64 (a + 3)); have h4 := CellM.get_b hok (w64 (a + 4)); have h5 := CellM.get_b hok (w64 (a + 5)); omega)) rfl rfl ?_
        refine sq (q_as rfl) rfl rfl ?_
        refine go_nil ?_
        refine bn (tn ?_)
        refine gc_region ?_
        refine sq (OpQ.cast (q_addi rfl rfl (by decide)) (rfl : _ = i6 (3))) rfl rfl ?_
        refine sq (q_mv rfl) rfl rfl ?_
        refine go_nil ?_
        refine an_round (gr_succ ?_)
        refine gc_seq ?_
        refine gc_region ?_
        refine sq (q_lss rfl rfl) rfl rfl ?_
        refine go_nil ?_
        refine tn ?_
        refine gc_seq ?_
        refine gc_true rfl ?_
        refine gc_skip ?_
        refine tn ?_
        refine gc_seq ?_
        refine gc_block ?_
        refine gc_seq ?_
        refine gc_region ?_
        refine sq (q_mv rfl) rfl rfl ?_
        refine sq (q_as rfl) rfl rfl ?_
        refine go_nil ?_
        refine tn ?_
        refine gc_seq ?_
        refine gc_region ?_
        refine sq (q_mv rfl) rfl rfl ?_
        refine sq (q_mv rfl) rfl rfl ?_
        refine sq (q_mv rfl) rfl rfl ?_
        refine sq (q_addw rfl rfl) rfl rfl ?_
        refine s_callE (e_call (get_spec ε b q n m hn _) rfl en238) rfl rfl ?_
        refine sq (q_mv rfl) rfl rfl ?_
        refine sq (q_ext rfl rfl) rfl rfl ?_
        refine sq (q_ext rfl rfl) rfl rfl ?_
        refine sq (q_as rfl) rfl rfl ?_
        refine sq (q_as rfl) rfl rfl ?_
        refine go_nil ?_
        refine tn ?_
        refine gc_seq ?_
        refine gc_seq ?_
        refine gc_region ?_
        refine sq (q_mv rfl) rfl rfl ?_
        refine sq (q_inil_neq (q := (m.get _).2.map ε) rfl rfl Tryz.underlying47) rfl rfl ?_
        refine go_nil ?_
        refine tn ?_
        refine gc_if rfl (fun h4 => ?_) (fun h4 => ?_)
        · refine gc_seq ?_
          refine gc_region ?_
          refine sq (q_mv rfl) rfl rfl ?_
          refine sq (q_as rfl) rfl rfl ?_
          refine sq (q_as rfl) rfl rfl ?_
          refine go_nil ?_
          refine tn ?_
          refine gc_ret ?_
          refine tr (br (tr (tr (br (tr ?_)))))
          refine ret_2 (.inl rfl) rfl rfl rfl ?_
          exact rsE (by simp_all [numberM, numF])
        · refine gc_skip ?_
          refine tn ?_
          refine gc_region ?_
          refine sq (q_mv rfl) rfl rfl ?_
          refine sq (q_shl8 rfl rfl (by have h0 := CellM.get_b hok (w64 (a + 0)); have h1 := CellM.get_b hok (w64 (a + 1)); have h2 := CellM.get_b hok (w64 (a + 2)); have h3 := CellM.get_b hok (w64 (a + 3)); have h4 := CellM.get_b hok (w64 (a + 4)); have h5 := CellM.get_b hok (w64 (a + 5)); omega)) rfl rfl ?_
          refine sq (q_mv rfl) rfl rfl ?_
          refine sq (q_convi Tryz.runUnderlying5 Tryz.runUnderlying2 rfl (by have := CellM.get_b hok; constructor <;> (have := CellM.get_b hok (w64 (a + 0)); have := CellM.get_b hok (w64 (a + 1)); have := CellM.get_b hok (w64 (a + 2)); have := CellM.get_b hok (w64 (a + 3)); have := CellM.get_b hok (w64 (a + 4)); have := CellM.get_b hok (w64 (a + 5)); omega))) rfl rfl ?_
          refine sq (q_or8 rfl rfl (by have h0 := CellM.get_b hok (w64 (a + 0)); have h1 := CellM.get_b hok (w64 (a + 1)); have h2 := CellM.get_b hok (w64 (a + 2)); have h3 := CellM.get_b hok (w64 (a + 3)); have h4 := CellM.get_b hok (w64 (a + 4)); have h5 := CellM.get_b hok (w64 (a + 5)); omega)) rfl rfl ?_
          refine sq (q_as rfl) rfl rfl ?_
          refine go_nil ?_
          refine bn (tn ?_)
          refine gc_region ?_
          refine sq (OpQ.cast (q_addi rfl rfl (by decide)) (rfl : _ = i6 (4))) rfl rfl ?_
          refine sq (q_mv rfl) rfl rfl ?_
          refine go_nil ?_
          refine an_round (gr_succ ?_)
          refine gc_seq ?_
          refine gc_region ?_
          refine sq (q_lss rfl rfl) rfl rfl ?_
          refine go_nil ?_
          refine tn ?_
          refine gc_seq ?_
          refine gc_true rfl ?_
          refine gc_skip ?_
          refine tn ?_
          refine gc_seq ?_
          refine gc_block ?_
          refine gc_seq ?_
          refine gc_region ?_
          refine sq (q_mv rfl) rfl rfl ?_
          refine sq (q_as rfl) rfl rfl ?_
          refine go_nil ?_
          refine tn ?_
          refine gc_seq ?_
          refine gc_region ?_
          refine sq (q_mv rfl) rfl rfl ?_
          refine sq (q_mv rfl) rfl rfl ?_
          refine sq (q_mv rfl) rfl rfl ?_
          refine sq (q_addw rfl rfl) rfl rfl ?_
          refine s_callE (e_call (get_spec ε b q n m hn _) rfl en238) rfl rfl ?_
          refine sq (q_mv rfl) rfl rfl ?_
          refine sq (q_ext rfl rfl) rfl rfl ?_
          refine sq (q_ext rfl rfl) rfl rfl ?_
          refine sq (q_as rfl) rfl rfl ?_
          refine sq (q_as rfl) rfl rfl ?_
          refine go_nil ?_
          refine tn ?_
          refine gc_seq ?_
          refine gc_seq ?_
          refine gc_region ?_
          refine sq (q_mv rfl) rfl rfl ?_
          refine sq (q_inil_neq (q := (m.get _).2.map ε) rfl rfl Tryz.underlying47) rfl rfl ?_
          refine go_nil ?_
          refine tn ?_
          refine gc_if rfl (fun h5 => ?_) (fun h5 => ?_)
          · refine gc_seq ?_
            refine gc_region ?_
            refine sq (q_mv rfl) rfl rfl ?_
            refine sq (q_as rfl) rfl rfl ?_
            refine sq (q_as rfl) rfl rfl ?_
            refine go_nil ?_
            refine tn ?_
            refine gc_ret ?_
            refine tr (br (tr (tr (br (tr ?_)))))
            refine ret_2 (.inl rfl) rfl rfl rfl ?_
            exact rsE (by simp_all [numberM, numF])
          · refine gc_skip ?_
            refine tn ?_
            refine gc_region ?_
            refine sq (q_mv rfl) rfl rfl ?_
            refine sq (q_shl8 rfl rfl (by have h0 := CellM.get_b hok (w64 (a + 0)); have h1 := CellM.get_b hok (w64 (a + 1)); have h2 := CellM.get_b hok (w64 (a + 2)); have h3 := CellM.get_b hok (w64 (a + 3)); have h4 := CellM.get_b hok (w64 (a + 4)); have h5 := CellM.get_b hok (w64 (a + 5)); omega)) rfl rfl ?_
            refine sq (q_mv rfl) rfl rfl ?_
            refine sq (q_convi Tryz.runUnderlying5 Tryz.runUnderlying2 rfl (by have := CellM.get_b hok; constructor <;> (have := CellM.get_b hok (w64 (a + 0)); have := CellM.get_b hok (w64 (a + 1)); have := CellM.get_b hok (w64 (a + 2)); have := CellM.get_b hok (w64 (a + 3)); have := CellM.get_b hok (w64 (a + 4)); have := CellM.get_b hok (w64 (a + 5)); omega))) rfl rfl ?_
            refine sq (q_or8 rfl rfl (by have h0 := CellM.get_b hok (w64 (a + 0)); have h1 := CellM.get_b hok (w64 (a + 1)); have h2 := CellM.get_b hok (w64 (a + 2)); have h3 := CellM.get_b hok (w64 (a + 3)); have h4 := CellM.get_b hok (w64 (a + 4)); have h5 := CellM.get_b hok (w64 (a + 5)); omega)) rfl rfl ?_
            refine sq (q_as rfl) rfl rfl ?_
            refine go_nil ?_
            refine bn (tn ?_)
            refine gc_region ?_
            refine sq (OpQ.cast (q_addi rfl rfl (by decide)) (rfl : _ = i6 (5))) rfl rfl ?_
            refine sq (q_mv rfl) rfl rfl ?_
            refine go_nil ?_
            refine an_round (gr_succ ?_)
            refine gc_seq ?_
            refine gc_region ?_
            refine sq (q_lss rfl rfl) rfl rfl ?_
            refine go_nil ?_
            refine tn ?_
            refine gc_seq ?_
            refine gc_true rfl ?_
            refine gc_skip ?_
            refine tn ?_
            refine gc_seq ?_
            refine gc_block ?_
            refine gc_seq ?_
            refine gc_region ?_
            refine sq (q_mv rfl) rfl rfl ?_
            refine sq (q_as rfl) rfl rfl ?_
            refine go_nil ?_
            refine tn ?_
            refine gc_seq ?_
            refine gc_region ?_
            refine sq (q_mv rfl) rfl rfl ?_
            refine sq (q_mv rfl) rfl rfl ?_
            refine sq (q_mv rfl) rfl rfl ?_
            refine sq (q_addw rfl rfl) rfl rfl ?_
            refine s_callE (e_call (get_spec ε b q n m hn _) rfl en238) rfl rfl ?_
            refine sq (q_mv rfl) rfl rfl ?_
            refine sq (q_ext rfl rfl) rfl rfl ?_
            refine sq (q_ext rfl rfl) rfl rfl ?_
            refine sq (q_as rfl) rfl rfl ?_
            refine sq (q_as rfl) rfl rfl ?_
            refine go_nil ?_
            refine tn ?_
            refine gc_seq ?_
            refine gc_seq ?_
            refine gc_region ?_
            refine sq (q_mv rfl) rfl rfl ?_
            refine sq (q_inil_neq (q := (m.get _).2.map ε) rfl rfl Tryz.underlying47) rfl rfl ?_
            refine go_nil ?_
            refine tn ?_
            refine gc_if rfl (fun h6 => ?_) (fun h6 => ?_)
            · refine gc_seq ?_
              refine gc_region ?_
              refine sq (q_mv rfl) rfl rfl ?_
              refine sq (q_as rfl) rfl rfl ?_
              refine sq (q_as rfl) rfl rfl ?_
              refine go_nil ?_
              refine tn ?_
              refine gc_ret ?_
              refine tr (br (tr (tr (br (tr ?_)))))
              refine ret_2 (.inl rfl) rfl rfl rfl ?_
              exact rsE (by simp_all [numberM, numF])
            · refine gc_skip ?_
              refine tn ?_
              refine gc_region ?_
              refine sq (q_mv rfl) rfl rfl ?_
              refine sq (q_shl8 rfl rfl (by have h0 := CellM.get_b hok (w64 (a + 0)); have h1 := CellM.get_b hok (w64 (a + 1)); have h2 := CellM.get_b hok (w64 (a + 2)); have h3 := CellM.get_b hok (w64 (a + 3)); have h4 := CellM.get_b hok (w64 (a + 4)); have h5 := CellM.get_b hok (w64 (a + 5)); omega)) rfl rfl ?_
              refine sq (q_mv rfl) rfl rfl ?_
              refine sq (q_convi Tryz.runUnderlying5 Tryz.runUnderlying2 rfl (by have := CellM.get_b hok; constructor <;> (have := CellM.get_b hok (w64 (a + 0)); have := CellM.get_b hok (w64 (a + 1)); have := CellM.get_b hok (w64 (a + 2)); have := CellM.get_b hok (w64 (a + 3)); have := CellM.get_b hok (w64 (a + 4)); have := CellM.get_b hok (w64 (a + 5)); omega))) rfl rfl ?_
              refine sq (q_or8 rfl rfl (by have h0 := CellM.get_b hok (w64 (a + 0)); have h1 := CellM.get_b hok (w64 (a + 1)); have h2 := CellM.get_b hok (w64 (a + 2)); have h3 := CellM.get_b hok (w64 (a + 3)); have h4 := CellM.get_b hok (w64 (a + 4)); have h5 := CellM.get_b hok (w64 (a + 5)); omega)) rfl rfl ?_
              refine sq (q_as rfl) rfl rfl ?_
              refine go_nil ?_
              refine bn (tn ?_)
              refine gc_region ?_
              refine sq (OpQ.cast (q_addi rfl rfl (by decide)) (rfl : _ = i6 (6))) rfl rfl ?_
              refine sq (q_mv rfl) rfl rfl ?_
              refine go_nil ?_
              refine an_round (gr_succ ?_)
              refine gc_seq ?_
              refine gc_region ?_
              refine sq (q_lss rfl rfl) rfl rfl ?_
              refine go_nil ?_
              refine tn ?_
              refine gc_seq ?_
              refine gc_false rfl ?_
              refine gc_exit ?_
              refine tx (tx (bx (tn ?_)))
              refine gc_seq ?_
              refine gc_region ?_
              refine sq (q_mv rfl) rfl rfl ?_
              refine sq (q_as rfl) rfl rfl ?_
              refine sq (q_as rfl) rfl rfl ?_
              refine go_nil ?_
              refine tn ?_
              refine gc_ret ?_
              refine ret_2 (.inl rfl) rfl rfl rfl ?_
              exact rsE (by simp_all [numberM, numF])

set_option maxRecDepth 4000 in
set_option maxHeartbeats 2000000 in
theorem read_spec (ε : Nat → Nat × Value) (b q n : Nat) (m : CellM) (hn : m.bs.length = n) (hok : m.OK) (k : Int) :
    Spec Tryz.prog 155 [pt b, i6 k] [] ((b, CellM.o 146 q n m) :: (q, CellM.bo 5 m) :: ro ε) (fun v L => v = .tuple #[(readM m k).1.v, .bool (readM m k).2.1, ev ε (readM m k).2.2] ∧ L = []) := by
  refine spec_of Tryz.func155 rfl Tryz.ntmps155 (by simp) fun w0 hb => ?_
  refine gc_seq ?_
  refine gc_region ?_
  refine s_new (e_alloc Tryz.zeroValue134 rfl) rfl rfl fun b1 => ?_
  refine sq (q_as rfl) rfl rfl ?_
  refine sq (q_as rfl) rfl rfl ?_
  refine go_nil ?_
  refine tn ?_
  refine gc_seq ?_
  refine gc_region ?_
  refine sq (q_mv rfl) rfl rfl ?_
  refine sq (q_mv rfl) rfl rfl ?_
  refine sq (q_mulw rfl rfl) rfl rfl ?_
  refine s_callE (e_call (get_spec ε b q n m hn _) rfl en238) rfl rfl ?_
  refine sq (q_mv rfl) rfl rfl ?_
  refine sq (q_ext rfl rfl) rfl rfl ?_
  refine sq (q_ext rfl rfl) rfl rfl ?_
  refine sq (q_as rfl) rfl rfl ?_
  refine sq (q_as rfl) rfl rfl ?_
  refine go_nil ?_
  refine tn ?_
  refine gc_seq ?_
  refine gc_seq ?_
  refine gc_region ?_
  refine sq (q_mv rfl) rfl rfl ?_
  refine sq (q_inil_neq (q := (m.get _).2.map ε) rfl rfl Tryz.underlying47) rfl rfl ?_
  refine sq (q_mv rfl) rfl rfl ?_
  refine bsp (fun h2 => ?_) (fun h2 => ?_)
  · refine sskip rfl rfl ?_
    refine sskip rfl rfl ?_
    refine sq (q_pick rfl rfl) rfl rfl ?_
    refine go_nil ?_
    refine tn ?_
    refine gc_true rfl ?_
    refine gc_seq ?_
    refine gc_region ?_
    refine sq (q_bld rfl Tryz.runUnderlying134 Tryz.zeroValue134 rfl pl134 rfl) rfl rfl ?_
    refine sq (q_mv rfl) rfl rfl ?_
    refine s_st (e_st rfl rfl Tryz.sizeOf134 rfl rfl rfl rfl) rfl rfl ?_
    refine sq (q_as rfl) rfl rfl ?_
    refine sq (q_as rfl) rfl rfl ?_
    refine go_nil ?_
    refine tn ?_
    refine gc_ret ?_
    refine tr ?_
    refine ret_ctt (.inl rfl) rfl rfl Tryz.isAgg134 Tryz.sizeOf134 rfl rfl rfl ?_
    exact rsE (by first | rfl | (simp_all [readM]; done) | (simp_all [readM]; rfl) | (simp_all [readM]; omega) | (simp_all [readM]; intros; omega) | (simp_all [readM]; (repeat' split) <;> first | rfl | (simp_all; done) | omega | (exfalso; omega)) | (simp only [readM]; (repeat' split) <;> first | (simp_all; done) | (simp_all; omega) | omega | (exfalso; simp_all; omega)) | (simp_all; (simp only [readM]; (repeat' split) <;> first | (simp_all; done) | (simp_all; omega) | omega | (exfalso; simp_all; omega))))
  · refine sq (q_mv rfl) rfl rfl ?_
    refine sq (q_neq rfl rfl) rfl rfl ?_
    refine sq (q_pick rfl rfl) rfl rfl ?_
    refine go_nil ?_
    refine tn ?_
    refine gc_if rfl (fun h3 => ?_) (fun h3 => ?_)
    · refine gc_seq ?_
      refine gc_region ?_
      refine sq (q_bld rfl Tryz.runUnderlying134 Tryz.zeroValue134 rfl pl134 rfl) rfl rfl ?_
      refine sq (q_mv rfl) rfl rfl ?_
      refine s_st (e_st rfl rfl Tryz.sizeOf134 rfl rfl rfl rfl) rfl rfl ?_
      refine sq (q_as rfl) rfl rfl ?_
      refine sq (q_as rfl) rfl rfl ?_
      refine go_nil ?_
      refine tn ?_
      refine gc_ret ?_
      refine tr ?_
      refine ret_ctt (.inl rfl) rfl rfl Tryz.isAgg134 Tryz.sizeOf134 rfl rfl rfl ?_
      exact rsE (by first | rfl | (simp_all [readM]; done) | (simp_all [readM]; rfl) | (simp_all [readM]; omega) | (simp_all [readM]; intros; omega) | (simp_all [readM]; (repeat' split) <;> first | rfl | (simp_all; done) | omega | (exfalso; omega)) | (simp only [readM]; (repeat' split) <;> first | (simp_all; done) | (simp_all; omega) | omega | (exfalso; simp_all; omega)) | (simp_all; (simp only [readM]; (repeat' split) <;> first | (simp_all; done) | (simp_all; omega) | omega | (exfalso; simp_all; omega))))
    · refine gc_skip ?_
      refine tn ?_
      refine gc_seq ?_
      refine gc_region ?_
      refine sq (q_mv rfl) rfl rfl ?_
      refine sq (q_mv rfl) rfl rfl ?_
      refine sq (q_mulw rfl rfl) rfl rfl ?_
      refine sq (q_addw rfl rfl) rfl rfl ?_
      refine s_callE (e_call (number_spec ε b q n m hn hok _) rfl en239) rfl rfl ?_
      refine sq (q_mv rfl) rfl rfl ?_
      refine sq (q_ext rfl rfl) rfl rfl ?_
      refine sq (q_ext rfl rfl) rfl rfl ?_
      refine sq (q_as rfl) rfl rfl ?_
      refine sq (q_as rfl) rfl rfl ?_
      refine go_nil ?_
      refine tn ?_
      refine gc_seq ?_
      refine gc_seq ?_
      refine gc_region ?_
      refine sq (q_mv rfl) rfl rfl ?_
      refine sq (q_inil_neq (q := (numberM m _).2.map ε) rfl rfl Tryz.underlying47) rfl rfl ?_
      refine go_nil ?_
      refine tn ?_
      refine gc_if rfl (fun h4 => ?_) (fun h4 => ?_)
      · refine gc_seq ?_
        refine gc_region ?_
        refine sq (q_bld rfl Tryz.runUnderlying134 Tryz.zeroValue134 rfl pl134 rfl) rfl rfl ?_
        refine sq (q_mv rfl) rfl rfl ?_
        refine s_st (e_st rfl rfl Tryz.sizeOf134 rfl rfl rfl rfl) rfl rfl ?_
        refine sq (q_as rfl) rfl rfl ?_
        refine sq (q_as rfl) rfl rfl ?_
        refine go_nil ?_
        refine tn ?_
        refine gc_ret ?_
        refine tr ?_
        refine ret_ctt (.inl rfl) rfl rfl Tryz.isAgg134 Tryz.sizeOf134 rfl rfl rfl ?_
        exact rsE (by first | rfl | (simp_all [readM]; done) | (simp_all [readM]; rfl) | (simp_all [readM]; omega) | (simp_all [readM]; intros; omega) | (simp_all [readM]; (repeat' split) <;> first | rfl | (simp_all; done) | omega | (exfalso; omega)) | (simp only [readM]; (repeat' split) <;> first | (simp_all; done) | (simp_all; omega) | omega | (exfalso; simp_all; omega)) | (simp_all; (simp only [readM]; (repeat' split) <;> first | (simp_all; done) | (simp_all; omega) | omega | (exfalso; simp_all; omega))))
      · refine gc_skip ?_
        refine tn ?_
        refine gc_seq ?_
        refine gc_region ?_
        refine sq (q_mv rfl) rfl rfl ?_
        refine sq (q_mv rfl) rfl rfl ?_
        refine sq (q_mulw rfl rfl) rfl rfl ?_
        refine sq (q_addw rfl rfl) rfl rfl ?_
        refine sq (q_addw rfl rfl) rfl rfl ?_
        refine s_callE (e_call (number_spec ε b q n m hn hok _) rfl en239) rfl rfl ?_
        refine sq (q_mv rfl) rfl rfl ?_
        refine sq (q_ext rfl rfl) rfl rfl ?_
        refine sq (q_ext rfl rfl) rfl rfl ?_
        refine sq (q_as rfl) rfl rfl ?_
        refine sq (q_as rfl) rfl rfl ?_
        refine go_nil ?_
        refine tn ?_
        refine gc_seq ?_
        refine gc_seq ?_
        refine gc_region ?_
        refine sq (q_mv rfl) rfl rfl ?_
        refine sq (q_inil_neq (q := (numberM m _).2.map ε) rfl rfl Tryz.underlying47) rfl rfl ?_
        refine go_nil ?_
        refine tn ?_
        refine gc_if rfl (fun h5 => ?_) (fun h5 => ?_)
        · refine gc_seq ?_
          refine gc_region ?_
          refine sq (q_bld rfl Tryz.runUnderlying134 Tryz.zeroValue134 rfl pl134 rfl) rfl rfl ?_
          refine sq (q_mv rfl) rfl rfl ?_
          refine s_st (e_st rfl rfl Tryz.sizeOf134 rfl rfl rfl rfl) rfl rfl ?_
          refine sq (q_as rfl) rfl rfl ?_
          refine sq (q_as rfl) rfl rfl ?_
          refine go_nil ?_
          refine tn ?_
          refine gc_ret ?_
          refine tr ?_
          refine ret_ctt (.inl rfl) rfl rfl Tryz.isAgg134 Tryz.sizeOf134 rfl rfl rfl ?_
          exact rsE (by first | rfl | (simp_all [readM]; done) | (simp_all [readM]; rfl) | (simp_all [readM]; omega) | (simp_all [readM]; intros; omega) | (simp_all [readM]; (repeat' split) <;> first | rfl | (simp_all; done) | omega | (exfalso; omega)) | (simp only [readM]; (repeat' split) <;> first | (simp_all; done) | (simp_all; omega) | omega | (exfalso; simp_all; omega)) | (simp_all; (simp only [readM]; (repeat' split) <;> first | (simp_all; done) | (simp_all; omega) | omega | (exfalso; simp_all; omega))))
        · refine gc_skip ?_
          refine tn ?_
          refine gc_seq ?_
          refine gc_region ?_
          refine sq (q_mv rfl) rfl rfl ?_
          refine sq (q_mv rfl) rfl rfl ?_
          refine sq (q_bld rfl Tryz.runUnderlying134 Tryz.zeroValue134 rfl pl134 rfl) rfl rfl ?_
          refine s_st (e_st rfl rfl Tryz.sizeOf134 rfl rfl rfl rfl) rfl rfl ?_
          refine sq (q_as rfl) rfl rfl ?_
          refine sq (q_as rfl) rfl rfl ?_
          refine go_nil ?_
          refine tn ?_
          refine gc_ret ?_
          refine ret_ctt (.inl rfl) rfl rfl Tryz.isAgg134 Tryz.sizeOf134 rfl rfl rfl ?_
          exact rsE (by first | rfl | (simp_all [readM]; done) | (simp_all [readM]; rfl) | (simp_all [readM]; omega) | (simp_all [readM]; intros; omega) | (simp_all [readM]; (repeat' split) <;> first | rfl | (simp_all; done) | omega | (exfalso; omega)) | (simp only [readM]; (repeat' split) <;> first | (simp_all; done) | (simp_all; omega) | omega | (exfalso; simp_all; omega)) | (simp_all; (simp only [readM]; (repeat' split) <;> first | (simp_all; done) | (simp_all; omega) | omega | (exfalso; simp_all; omega))))

set_option maxRecDepth 4000 in
set_option maxHeartbeats 2000000 in
theorem open_spec (ε : Nat → Nat × Value) (b q n : Nat) (m : CellM) (hn : m.bs.length = n) (hok : m.OK) :
    Spec Tryz.prog 67 [pt b] [] ((b, CellM.o 146 q n m) :: (q, CellM.bo 5 m) :: ro ε) (OpenR ε 207 b n m) := by
  refine spec_of Tryz.func67 rfl Tryz.ntmps67 (by simp) fun w0 hb => ?_
  refine gc_seq ?_
  refine gc_region ?_
  refine sq (q_as rfl) rfl rfl ?_
  refine sq (q_as rfl) rfl rfl ?_
  refine go_nil ?_
  refine tn ?_
  refine gc_seq ?_
  refine gc_seq ?_
  refine gc_region ?_
  refine sq (q_mv rfl) rfl rfl ?_
  refine s_callE (e_call (csize_spec b q n m) rfl en154) rfl rfl ?_
  refine sq (q_lss rfl rfl) rfl rfl ?_
  refine go_nil ?_
  refine tn ?_
  refine gc_if rfl (fun h1 => ?_) (fun h1 => ?_)
  · refine gc_seq ?_
    refine gc_draw (ord := [(0, true), (1, false), (2, false)]) [] mixed (by kernel_rfl) rfl (by kernel_rfl) (.slnil) ?_
    refine gx_q (q_ld rfl Tryz.isAgg47 rfl) rfl rfl rfl ?_
    refine x_qe (q_as rfl) rfl rfl rfl (by repeat (first | exact List.nil_sublist _ | exact List.Sublist.refl _ | exact List.sublist_append_right _ _ | apply List.Sublist.cons_cons | apply List.Sublist.cons | refine List.Sublist.trans ?_ (List.sublist_append_right _ _))) ?_
    refine x_qe (q_as rfl) rfl rfl rfl (by repeat (first | exact List.nil_sublist _ | exact List.Sublist.refl _ | exact List.sublist_append_right _ _ | apply List.Sublist.cons_cons | apply List.Sublist.cons | refine List.Sublist.trans ?_ (List.sublist_append_right _ _))) ?_
    refine gx_nil ?_
    refine tn ?_
    refine gc_ret ?_
    refine tr ?_
    refine ret_2 (.inl rfl) rfl rfl rfl ?_
    first | exact open_ok (by rw [openM_ge (by simp_all)]; (first | (simp_all [StoreM.see]; done) | (simp_all [StoreM.see]; (repeat' split) <;> first | rfl | (simp_all; done) | omega | (exfalso; omega)))) (by rw [openM_ge (by simp_all)]; (first | (simp_all [StoreM.see]; done) | (simp_all [StoreM.see]; (repeat' split) <;> first | rfl | (simp_all; done) | omega | (exfalso; omega)))) | exact open_err (by simp_all) (by rw [openM_ge (by simp_all)]; (first | (simp_all [StoreM.see]; done) | (simp_all [StoreM.see]; (repeat' split) <;> first | rfl | (simp_all; done) | omega | (exfalso; omega)))) | exact open_err (o := some 0) rfl (by simp_all [openM])
  · refine gc_skip ?_
    refine tn ?_
    refine gc_seq ?_
    refine gc_region ?_
    refine sq (q_mv rfl) rfl rfl ?_
    refine sq (q_bld rfl Tryz.runUnderlying207 Tryz.zeroValue207 rfl pl207 rfl) rfl rfl ?_
    refine s_new (e_box rfl rfl) rfl rfl fun b2 => ?_
    refine sq (q_as rfl) rfl rfl ?_
    refine go_nil ?_
    refine tn ?_
    refine gc_seq ?_
    refine gc_seq ?_
    refine gc_region ?_
    refine sq (q_mv rfl) rfl rfl ?_
    refine go_nil ?_
    refine tn ?_
    refine gc_block ?_
    refine gc_unroll 3 (gr_succ ?_)
    refine gc_seq ?_
    refine gc_region ?_
    refine sq (q_lss rfl rfl) rfl rfl ?_
    refine go_nil ?_
    refine tn ?_
    refine gc_seq ?_
    refine gc_true rfl ?_
    refine gc_skip ?_
    refine tn ?_
    refine gc_seq ?_
    refine gc_block ?_
    refine gc_seq ?_
    refine gc_region ?_
    refine sq (q_mv rfl) rfl rfl ?_
    refine sq (q_as rfl) rfl rfl ?_
    refine go_nil ?_
    refine tn ?_
    refine gc_seq ?_
    refine gc_region ?_
    refine sq (q_mv rfl) rfl rfl ?_
    refine sq (q_mv rfl) rfl rfl ?_
    refine s_callE (e_call (read_spec ε b q n m hn hok _) rfl en155) rfl rfl ?_
    refine sq (q_mv rfl) rfl rfl ?_
    refine sq (q_ext rfl rfl) rfl rfl ?_
    refine sq (q_ext rfl rfl) rfl rfl ?_
    refine sq (q_ext rfl rfl) rfl rfl ?_
    refine s_new (e_alloc Tryz.zeroValue134 rfl) rfl rfl fun b3 => ?_
    refine s_st (e_st rfl rfl Tryz.sizeOf134 rfl rfl rfl rfl) rfl rfl ?_
    refine sq (q_as rfl) rfl rfl ?_
    refine sq (q_as rfl) rfl rfl ?_
    refine go_nil ?_
    refine tn ?_
    refine gc_seq ?_
    refine gc_seq ?_
    refine gc_region ?_
    refine sq (q_mv rfl) rfl rfl ?_
    refine sq (q_inil_neq (q := (readM m _).2.2.map ε) rfl rfl Tryz.underlying47) rfl rfl ?_
    refine go_nil ?_
    refine tn ?_
    refine gc_if rfl (fun h4 => ?_) (fun h4 => ?_)
    · refine gc_seq ?_
      refine gc_region ?_
      refine sq (q_mv rfl) rfl rfl ?_
      refine sq (q_as rfl) rfl rfl ?_
      refine sq (q_as rfl) rfl rfl ?_
      refine go_nil ?_
      refine tn ?_
      refine gc_ret ?_
      refine tr (br (tr (tr (br (tr ?_)))))
      refine ret_2 (.inl rfl) rfl rfl rfl ?_
      first | exact open_ok (by rw [openM_ge (by simp_all)]; (first | (simp_all [StoreM.see]; done) | (simp_all [StoreM.see]; (repeat' split) <;> first | rfl | (simp_all; done) | omega | (exfalso; omega)))) (by rw [openM_ge (by simp_all)]; (first | (simp_all [StoreM.see]; done) | (simp_all [StoreM.see]; (repeat' split) <;> first | rfl | (simp_all; done) | omega | (exfalso; omega)))) | exact open_err (by simp_all) (by rw [openM_ge (by simp_all)]; (first | (simp_all [StoreM.see]; done) | (simp_all [StoreM.see]; (repeat' split) <;> first | rfl | (simp_all; done) | omega | (exfalso; omega)))) | exact open_err (o := some 0) rfl (by simp_all [openM])
    · refine gc_skip ?_
      refine tn ?_
      refine gc_seq ?_
      refine gc_draw (ord := [(0, false), (1, false), (2, false), (3, false), (4, false), (5, false), (6, false), (7, false), (8, true), (9, true), (10, true), (11, true), (12, true), (13, true), (14, true), (15, true), (16, true), (17, true), (18, false), (19, false), (20, false), (21, false), (22, false), (23, false), (24, false), (25, false), (26, false)]) [] mixed (by kernel_rfl) rfl (by kernel_rfl) (.cons_cons _ (.cons_cons _ (.slnil))) ?_
      refine x_qe (q_mv rfl) rfl rfl rfl (by repeat (first | exact List.nil_sublist _ | exact List.Sublist.refl _ | exact List.sublist_append_right _ _ | apply List.Sublist.cons_cons | apply List.Sublist.cons | refine List.Sublist.trans ?_ (List.sublist_append_right _ _))) ?_
      refine x_qe (q_mv rfl) rfl rfl rfl (by repeat (first | exact List.nil_sublist _ | exact List.Sublist.refl _ | exact List.sublist_append_right _ _ | apply List.Sublist.cons_cons | apply List.Sublist.cons | refine List.Sublist.trans ?_ (List.sublist_append_right _ _))) ?_
      refine xsp (fun h5 => ?_) (fun h5 => ?_)
      · refine x_qe (q_mv rfl) rfl rfl rfl (by repeat (first | exact List.nil_sublist _ | exact List.Sublist.refl _ | exact List.sublist_append_right _ _ | apply List.Sublist.cons_cons | apply List.Sublist.cons | refine List.Sublist.trans ?_ (List.sublist_append_right _ _))) ?_
        refine x_qe (q_nc rfl) rfl rfl rfl (by repeat (first | exact List.nil_sublist _ | exact List.Sublist.refl _ | exact List.sublist_append_right _ _ | apply List.Sublist.cons_cons | apply List.Sublist.cons | refine List.Sublist.trans ?_ (List.sublist_append_right _ _))) ?_
        refine x_qe (q_fa rfl Tryz.runUnderlying207 rfl Tryz.sizeOf3) rfl rfl rfl (by repeat (first | exact List.nil_sublist _ | exact List.Sublist.refl _ | exact List.sublist_append_right _ _ | apply List.Sublist.cons_cons | apply List.Sublist.cons | refine List.Sublist.trans ?_ (List.sublist_append_right _ _))) ?_
        refine x_qe (q_ld rfl Tryz.isAgg3 rfl) rfl rfl rfl (by repeat (first | exact List.nil_sublist _ | exact List.Sublist.refl _ | exact List.sublist_append_right _ _ | apply List.Sublist.cons_cons | apply List.Sublist.cons | refine List.Sublist.trans ?_ (List.sublist_append_right _ _))) ?_
        refine x_qe (q_lss rfl rfl) rfl rfl rfl (by repeat (first | exact List.nil_sublist _ | exact List.Sublist.refl _ | exact List.sublist_append_right _ _ | apply List.Sublist.cons_cons | apply List.Sublist.cons | refine List.Sublist.trans ?_ (List.sublist_append_right _ _))) ?_
        refine x_qe (q_mv rfl) rfl rfl rfl (by repeat (first | exact List.nil_sublist _ | exact List.Sublist.refl _ | exact List.sublist_append_right _ _ | apply List.Sublist.cons_cons | apply List.Sublist.cons | refine List.Sublist.trans ?_ (List.sublist_append_right _ _))) ?_
        refine xsp (fun h6 => ?_) (fun h6 => ?_)
        · refine gx_skip rfl rfl rfl ?_
          refine gx_skip rfl rfl rfl ?_
          refine gx_skip rfl rfl rfl ?_
          refine gx_skip rfl rfl rfl ?_
          refine gx_skip rfl rfl rfl ?_
          refine gx_skip rfl rfl rfl ?_
          refine gx_skip rfl rfl rfl ?_
          refine gx_skip rfl rfl rfl ?_
          refine gx_skip rfl rfl rfl ?_
          refine gx_skip rfl rfl rfl ?_
          refine gx_eskip rfl rfl rfl ?_
          refine gx_eskip rfl rfl rfl ?_
          refine gx_eskip rfl rfl rfl ?_
          refine gx_eskip rfl rfl rfl ?_
          refine gx_eskip rfl rfl rfl ?_
          refine gx_eskip rfl rfl rfl ?_
          refine gx_eskip rfl rfl rfl ?_
          refine x_qe (q_pick rfl rfl) rfl rfl rfl (by repeat (first | exact List.nil_sublist _ | exact List.Sublist.refl _ | exact List.sublist_append_right _ _ | apply List.Sublist.cons_cons | apply List.Sublist.cons | refine List.Sublist.trans ?_ (List.sublist_append_right _ _))) ?_
          refine x_qe (q_pick rfl rfl) rfl rfl rfl (by repeat (first | exact List.nil_sublist _ | exact List.Sublist.refl _ | exact List.sublist_append_right _ _ | apply List.Sublist.cons_cons | apply List.Sublist.cons | refine List.Sublist.trans ?_ (List.sublist_append_right _ _))) ?_
          refine gx_nil ?_
          refine tn ?_
          refine gc_true rfl ?_
          refine gc_region ?_
          refine sq (q_mv rfl) rfl rfl ?_
          refine sq (q_mv rfl) rfl rfl ?_
          refine sq (q_lda rfl Tryz.isAgg134 Tryz.sizeOf134 rfl) rfl rfl ?_
          refine sq (q_mv rfl) rfl rfl ?_
          refine sq (q_nc rfl) rfl rfl ?_
          refine sq (q_fa rfl Tryz.runUnderlying207 rfl Tryz.sizeOf134) rfl rfl ?_
          refine s_st (e_st rfl rfl Tryz.sizeOf134 rfl rfl rfl rfl) rfl rfl ?_
          refine sq (q_nc rfl) rfl rfl ?_
          refine sq (q_fa rfl Tryz.runUnderlying207 rfl Tryz.sizeOf3) rfl rfl ?_
          refine s_st (e_st rfl rfl Tryz.sizeOf3 rfl rfl rfl rfl) rfl rfl ?_
          refine go_nil ?_
          refine bn (tn ?_)
          refine gc_region ?_
          refine sq (OpQ.cast (q_addi rfl rfl (by decide)) (rfl : _ = i6 (1))) rfl rfl ?_
          refine sq (q_mv rfl) rfl rfl ?_
          refine go_nil ?_
          refine an_round (gr_succ ?_)
          refine gc_seq ?_
          refine gc_region ?_
          refine sq (q_lss rfl rfl) rfl rfl ?_
          refine go_nil ?_
          refine tn ?_
          refine gc_seq ?_
          refine gc_true rfl ?_
          refine gc_skip ?_
          refine tn ?_
          refine gc_seq ?_
          refine gc_block ?_
          refine gc_seq ?_
          refine gc_region ?_
          refine sq (q_mv rfl) rfl rfl ?_
          refine sq (q_as rfl) rfl rfl ?_
          refine go_nil ?_
          refine tn ?_
          refine gc_seq ?_
          refine gc_region ?_
          refine sq (q_mv rfl) rfl rfl ?_
          refine sq (q_mv rfl) rfl rfl ?_
          refine s_callE (e_call (read_spec ε b q n m hn hok _) rfl en155) rfl rfl ?_
          refine sq (q_mv rfl) rfl rfl ?_
          refine sq (q_ext rfl rfl) rfl rfl ?_
          refine sq (q_ext rfl rfl) rfl rfl ?_
          refine sq (q_ext rfl rfl) rfl rfl ?_
          refine s_new (e_alloc Tryz.zeroValue134 rfl) rfl rfl fun b7 => ?_
          refine s_st (e_st rfl rfl Tryz.sizeOf134 rfl rfl rfl rfl) rfl rfl ?_
          refine sq (q_as rfl) rfl rfl ?_
          refine sq (q_as rfl) rfl rfl ?_
          refine go_nil ?_
          refine tn ?_
          refine gc_seq ?_
          refine gc_seq ?_
          refine gc_region ?_
          refine sq (q_mv rfl) rfl rfl ?_
          refine sq (q_inil_neq (q := (readM m _).2.2.map ε) rfl rfl Tryz.underlying47) rfl rfl ?_
          refine go_nil ?_
          refine tn ?_
          refine gc_if rfl (fun h8 => ?_) (fun h8 => ?_)
          · refine gc_seq ?_
            refine gc_region ?_
            refine sq (q_mv rfl) rfl rfl ?_
            refine sq (q_as rfl) rfl rfl ?_
            refine sq (q_as rfl) rfl rfl ?_
            refine go_nil ?_
            refine tn ?_
            refine gc_ret ?_
            refine tr (br (tr (tr (br (tr ?_)))))
            refine ret_2 (.inl rfl) rfl rfl rfl ?_
            first | exact open_ok (by rw [openM_ge (by simp_all)]; (first | (simp_all [StoreM.see]; done) | (simp_all [StoreM.see]; (repeat' split) <;> first | rfl | (simp_all; done) | omega | (exfalso; omega)))) (by rw [openM_ge (by simp_all)]; (first | (simp_all [StoreM.see]; done) | (simp_all [StoreM.see]; (repeat' split) <;> first | rfl | (simp_all; done) | omega | (exfalso; omega)))) | exact open_err (by simp_all) (by rw [openM_ge (by simp_all)]; (first | (simp_all [StoreM.see]; done) | (simp_all [StoreM.see]; (repeat' split) <;> first | rfl | (simp_all; done) | omega | (exfalso; omega)))) | exact open_err (o := some 0) rfl (by simp_all [openM])
          · refine gc_skip ?_
            refine tn ?_
            refine gc_seq ?_
            refine gc_draw (ord := [(0, false), (1, false), (2, false), (3, false), (4, false), (5, false), (6, false), (7, false), (8, true), (9, true), (10, true), (11, true), (12, true), (13, true), (14, true), (15, true), (16, true), (17, true), (18, false), (19, false), (20, false), (21, false), (22, false), (23, false), (24, false), (25, false), (26, false)]) [] mixed (by kernel_rfl) rfl (by kernel_rfl) (.cons_cons _ (.cons_cons _ (.cons_cons _ (.slnil)))) ?_
            refine x_qe (q_mv rfl) rfl rfl rfl (by repeat (first | exact List.nil_sublist _ | exact List.Sublist.refl _ | exact List.sublist_append_right _ _ | apply List.Sublist.cons_cons | apply List.Sublist.cons | refine List.Sublist.trans ?_ (List.sublist_append_right _ _))) ?_
            refine x_qe (q_mv rfl) rfl rfl rfl (by repeat (first | exact List.nil_sublist _ | exact List.Sublist.refl _ | exact List.sublist_append_right _ _ | apply List.Sublist.cons_cons | apply List.Sublist.cons | refine List.Sublist.trans ?_ (List.sublist_append_right _ _))) ?_
            refine xsp (fun h9 => ?_) (fun h9 => ?_)
            · refine x_qe (q_mv rfl) rfl rfl rfl (by repeat (first | exact List.nil_sublist _ | exact List.Sublist.refl _ | exact List.sublist_append_right _ _ | apply List.Sublist.cons_cons | apply List.Sublist.cons | refine List.Sublist.trans ?_ (List.sublist_append_right _ _))) ?_
              refine x_qe (q_nc rfl) rfl rfl rfl (by repeat (first | exact List.nil_sublist _ | exact List.Sublist.refl _ | exact List.sublist_append_right _ _ | apply List.Sublist.cons_cons | apply List.Sublist.cons | refine List.Sublist.trans ?_ (List.sublist_append_right _ _))) ?_
              refine x_qe (q_fa rfl Tryz.runUnderlying207 rfl Tryz.sizeOf3) rfl rfl rfl (by repeat (first | exact List.nil_sublist _ | exact List.Sublist.refl _ | exact List.sublist_append_right _ _ | apply List.Sublist.cons_cons | apply List.Sublist.cons | refine List.Sublist.trans ?_ (List.sublist_append_right _ _))) ?_
              refine x_qe (q_ld rfl Tryz.isAgg3 rfl) rfl rfl rfl (by repeat (first | exact List.nil_sublist _ | exact List.Sublist.refl _ | exact List.sublist_append_right _ _ | apply List.Sublist.cons_cons | apply List.Sublist.cons | refine List.Sublist.trans ?_ (List.sublist_append_right _ _))) ?_
              refine x_qe (q_lss rfl rfl) rfl rfl rfl (by repeat (first | exact List.nil_sublist _ | exact List.Sublist.refl _ | exact List.sublist_append_right _ _ | apply List.Sublist.cons_cons | apply List.Sublist.cons | refine List.Sublist.trans ?_ (List.sublist_append_right _ _))) ?_
              refine x_qe (q_mv rfl) rfl rfl rfl (by repeat (first | exact List.nil_sublist _ | exact List.Sublist.refl _ | exact List.sublist_append_right _ _ | apply List.Sublist.cons_cons | apply List.Sublist.cons | refine List.Sublist.trans ?_ (List.sublist_append_right _ _))) ?_
              refine xsp (fun h10 => ?_) (fun h10 => ?_)
              · refine gx_skip rfl rfl rfl ?_
                refine gx_skip rfl rfl rfl ?_
                refine gx_skip rfl rfl rfl ?_
                refine gx_skip rfl rfl rfl ?_
                refine gx_skip rfl rfl rfl ?_
                refine gx_skip rfl rfl rfl ?_
                refine gx_skip rfl rfl rfl ?_
                refine gx_skip rfl rfl rfl ?_
                refine gx_skip rfl rfl rfl ?_
                refine gx_skip rfl rfl rfl ?_
                refine gx_eskip rfl rfl rfl ?_
                refine gx_eskip rfl rfl rfl ?_
                refine gx_eskip rfl rfl rfl ?_
                refine gx_eskip rfl rfl rfl ?_
                refine gx_eskip rfl rfl rfl ?_
                refine gx_eskip rfl rfl rfl ?_
                refine gx_eskip rfl rfl rfl ?_
                refine x_qe (q_pick rfl rfl) rfl rfl rfl (by repeat (first | exact List.nil_sublist _ | exact List.Sublist.refl _ | exact List.sublist_append_right _ _ | apply List.Sublist.cons_cons | apply List.Sublist.cons | refine List.Sublist.trans ?_ (List.sublist_append_right _ _))) ?_
                refine x_qe (q_pick rfl rfl) rfl rfl rfl (by repeat (first | exact List.nil_sublist _ | exact List.Sublist.refl _ | exact List.sublist_append_right _ _ | apply List.Sublist.cons_cons | apply List.Sublist.cons | refine List.Sublist.trans ?_ (List.sublist_append_right _ _))) ?_
                refine gx_nil ?_
                refine tn ?_
                refine gc_true rfl ?_
                refine gc_region ?_
                refine sq (q_mv rfl) rfl rfl ?_
                refine sq (q_mv rfl) rfl rfl ?_
                refine sq (q_lda rfl Tryz.isAgg134 Tryz.sizeOf134 rfl) rfl rfl ?_
                refine sq (q_mv rfl) rfl rfl ?_
                refine sq (q_nc rfl) rfl rfl ?_
                refine sq (q_fa rfl Tryz.runUnderlying207 rfl Tryz.sizeOf134) rfl rfl ?_
                refine s_st (e_st rfl rfl Tryz.sizeOf134 rfl rfl rfl rfl) rfl rfl ?_
                refine sq (q_nc rfl) rfl rfl ?_
                refine sq (q_fa rfl Tryz.runUnderlying207 rfl Tryz.sizeOf3) rfl rfl ?_
                refine s_st (e_st rfl rfl Tryz.sizeOf3 rfl rfl rfl rfl) rfl rfl ?_
                refine go_nil ?_
                refine bn (tn ?_)
                refine gc_region ?_
                refine sq (OpQ.cast (q_addi rfl rfl (by decide)) (rfl : _ = i6 (2))) rfl rfl ?_
                refine sq (q_mv rfl) rfl rfl ?_
                refine go_nil ?_
                refine an_round (gr_succ ?_)
                refine gc_seq ?_
                refine gc_region ?_
                refine sq (q_lss rfl rfl) rfl rfl ?_
                refine go_nil ?_
                refine tn ?_
                refine gc_seq ?_
                refine gc_false rfl ?_
                refine gc_exit ?_
                refine tx (tx (bx (tn ?_)))
                refine gc_seq ?_
                refine gc_region ?_
                refine sq (q_mv rfl) rfl rfl ?_
                refine sq (q_as rfl) rfl rfl ?_
                refine sq (q_as rfl) rfl rfl ?_
                refine go_nil ?_
                refine tn ?_
                refine gc_ret ?_
                refine ret_2 (.inl rfl) rfl rfl rfl ?_
                first | exact open_ok (by rw [openM_ge (by simp_all)]; (first | (simp_all [StoreM.see]; done) | (simp_all [StoreM.see]; (repeat' split) <;> first | rfl | (simp_all; done) | omega | (exfalso; omega)))) (by rw [openM_ge (by simp_all)]; (first | (simp_all [StoreM.see]; done) | (simp_all [StoreM.see]; (repeat' split) <;> first | rfl | (simp_all; done) | omega | (exfalso; omega)))) | exact open_err (by simp_all) (by rw [openM_ge (by simp_all)]; (first | (simp_all [StoreM.see]; done) | (simp_all [StoreM.see]; (repeat' split) <;> first | rfl | (simp_all; done) | omega | (exfalso; omega)))) | exact open_err (o := some 0) rfl (by simp_all [openM])
              · refine gx_q (q_fa rfl Tryz.runUnderlying134 rfl Tryz.sizeOf2) rfl rfl rfl ?_
                refine gx_q (q_ld rfl Tryz.isAgg2 rfl) rfl rfl rfl ?_
                refine gx_q (q_fa rfl Tryz.runUnderlying134 rfl Tryz.sizeOf2) rfl rfl rfl ?_
                refine gx_q (q_ld rfl Tryz.isAgg2 rfl) rfl rfl rfl ?_
                refine gx_q (q_addw rfl rfl) rfl rfl rfl ?_
                refine gx_q (q_mv rfl) rfl rfl rfl ?_
                refine gx_q (q_nc rfl) rfl rfl rfl ?_
                refine gx_q (q_fa rfl Tryz.runUnderlying207 rfl Tryz.sizeOf134) rfl rfl rfl ?_
                refine gx_q (q_fa rfl Tryz.runUnderlying134 rfl Tryz.sizeOf2) rfl rfl rfl ?_
                refine gx_q (q_ld rfl Tryz.isAgg2 rfl) rfl rfl rfl ?_
                refine x_qe (q_mv rfl) rfl rfl rfl (by repeat (first | exact List.nil_sublist _ | exact List.Sublist.refl _ | exact List.sublist_append_right _ _ | apply List.Sublist.cons_cons | apply List.Sublist.cons | refine List.Sublist.trans ?_ (List.sublist_append_right _ _))) ?_
                refine x_qe (q_nc rfl) rfl rfl rfl (by repeat (first | exact List.nil_sublist _ | exact List.Sublist.refl _ | exact List.sublist_append_right _ _ | apply List.Sublist.cons_cons | apply List.Sublist.cons | refine List.Sublist.trans ?_ (List.sublist_append_right _ _))) ?_
                refine x_qe (q_fa rfl Tryz.runUnderlying207 rfl Tryz.sizeOf134) rfl rfl rfl (by repeat (first | exact List.nil_sublist _ | exact List.Sublist.refl _ | exact List.sublist_append_right _ _ | apply List.Sublist.cons_cons | apply List.Sublist.cons | refine List.Sublist.trans ?_ (List.sublist_append_right _ _))) ?_
                refine x_qe (q_fa rfl Tryz.runUnderlying134 rfl Tryz.sizeOf2) rfl rfl rfl (by repeat (first | exact List.nil_sublist _ | exact List.Sublist.refl _ | exact List.sublist_append_right _ _ | apply List.Sublist.cons_cons | apply List.Sublist.cons | refine List.Sublist.trans ?_ (List.sublist_append_right _ _))) ?_
                refine x_qe (q_ld rfl Tryz.isAgg2 rfl) rfl rfl rfl (by repeat (first | exact List.nil_sublist _ | exact List.Sublist.refl _ | exact List.sublist_append_right _ _ | apply List.Sublist.cons_cons | apply List.Sublist.cons | refine List.Sublist.trans ?_ (List.sublist_append_right _ _))) ?_
                refine x_qe (q_addw rfl rfl) rfl rfl rfl (by repeat (first | exact List.nil_sublist _ | exact List.Sublist.refl _ | exact List.sublist_append_right _ _ | apply List.Sublist.cons_cons | apply List.Sublist.cons | refine List.Sublist.trans ?_ (List.sublist_append_right _ _))) ?_
                refine x_qe (q_gtr rfl rfl) rfl rfl rfl (by repeat (first | exact List.nil_sublist _ | exact List.Sublist.refl _ | exact List.sublist_append_right _ _ | apply List.Sublist.cons_cons | apply List.Sublist.cons | refine List.Sublist.trans ?_ (List.sublist_append_right _ _))) ?_
                refine x_qe (q_pick rfl rfl) rfl rfl rfl (by repeat (first | exact List.nil_sublist _ | exact List.Sublist.refl _ | exact List.sublist_append_right _ _ | apply List.Sublist.cons_cons | apply List.Sublist.cons | refine List.Sublist.trans ?_ (List.sublist_append_right _ _))) ?_
                refine x_qe (q_pick rfl rfl) rfl rfl rfl (by repeat (first | exact List.nil_sublist _ | exact List.Sublist.refl _ | exact List.sublist_append_right _ _ | apply List.Sublist.cons_cons | apply List.Sublist.cons | refine List.Sublist.trans ?_ (List.sublist_append_right _ _))) ?_
                refine gx_nil ?_
                refine tn ?_
                refine gc_if rfl (fun h11 => ?_) (fun h11 => ?_)
                · refine gc_region ?_
                  refine sq (q_mv rfl) rfl rfl ?_
                  refine sq (q_mv rfl) rfl rfl ?_
                  refine sq (q_lda rfl Tryz.isAgg134 Tryz.sizeOf134 rfl) rfl rfl ?_
                  refine sq (q_mv rfl) rfl rfl ?_
                  refine sq (q_nc rfl) rfl rfl ?_
                  refine sq (q_fa rfl Tryz.runUnderlying207 rfl Tryz.sizeOf134) rfl rfl ?_
                  refine s_st (e_st rfl rfl Tryz.sizeOf134 rfl rfl rfl rfl) rfl rfl ?_
                  refine sq (q_nc rfl) rfl rfl ?_
                  refine sq (q_fa rfl Tryz.runUnderlying207 rfl Tryz.sizeOf3) rfl rfl ?_
                  refine s_st (e_st rfl rfl Tryz.sizeOf3 rfl rfl rfl rfl) rfl rfl ?_
                  refine go_nil ?_
                  refine bn (tn ?_)
                  refine gc_region ?_
                  refine sq (OpQ.cast (q_addi rfl rfl (by decide)) (rfl : _ = i6 (2))) rfl rfl ?_
                  refine sq (q_mv rfl) rfl rfl ?_
                  refine go_nil ?_
                  refine an_round (gr_succ ?_)
                  refine gc_seq ?_
                  refine gc_region ?_
                  refine sq (q_lss rfl rfl) rfl rfl ?_
                  refine go_nil ?_
                  refine tn ?_
                  refine gc_seq ?_
                  refine gc_false rfl ?_
                  refine gc_exit ?_
                  refine tx (tx (bx (tn ?_)))
                  refine gc_seq ?_
                  refine gc_region ?_
                  refine sq (q_mv rfl) rfl rfl ?_
                  refine sq (q_as rfl) rfl rfl ?_
                  refine sq (q_as rfl) rfl rfl ?_
                  refine go_nil ?_
                  refine tn ?_
                  refine gc_ret ?_
                  refine ret_2 (.inl rfl) rfl rfl rfl ?_
                  first | exact open_ok (by rw [openM_ge (by simp_all)]; (first | (simp_all [StoreM.see]; done) | (simp_all [StoreM.see]; (repeat' split) <;> first | rfl | (simp_all; done) | omega | (exfalso; omega)))) (by rw [openM_ge (by simp_all)]; (first | (simp_all [StoreM.see]; done) | (simp_all [StoreM.see]; (repeat' split) <;> first | rfl | (simp_all; done) | omega | (exfalso; omega)))) | exact open_err (by simp_all) (by rw [openM_ge (by simp_all)]; (first | (simp_all [StoreM.see]; done) | (simp_all [StoreM.see]; (repeat' split) <;> first | rfl | (simp_all; done) | omega | (exfalso; omega)))) | exact open_err (o := some 0) rfl (by simp_all [openM])
                · refine gc_skip ?_
                  refine bn (tn ?_)
                  refine gc_region ?_
                  refine sq (OpQ.cast (q_addi rfl rfl (by decide)) (rfl : _ = i6 (2))) rfl rfl ?_
                  refine sq (q_mv rfl) rfl rfl ?_
                  refine go_nil ?_
                  refine an_round (gr_succ ?_)
                  refine gc_seq ?_
                  refine gc_region ?_
                  refine sq (q_lss rfl rfl) rfl rfl ?_
                  refine go_nil ?_
                  refine tn ?_
                  refine gc_seq ?_
                  refine gc_false rfl ?_
                  refine gc_exit ?_
                  refine tx (tx (bx (tn ?_)))
                  refine gc_seq ?_
                  refine gc_region ?_
                  refine sq (q_mv rfl) rfl rfl ?_
                  refine sq (q_as rfl) rfl rfl ?_
                  refine sq (q_as rfl) rfl rfl ?_
                  refine go_nil ?_
                  refine tn ?_
                  refine gc_ret ?_
                  refine ret_2 (.inl rfl) rfl rfl rfl ?_
                  first | exact open_ok (by rw [openM_ge (by simp_all)]; (first | (simp_all [StoreM.see]; done) | (simp_all [StoreM.see]; (repeat' split) <;> first | rfl | (simp_all; done) | omega | (exfalso; omega)))) (by rw [openM_ge (by simp_all)]; (first | (simp_all [StoreM.see]; done) | (simp_all [StoreM.see]; (repeat' split) <;> first | rfl | (simp_all; done) | omega | (exfalso; omega)))) | exact open_err (by simp_all) (by rw [openM_ge (by simp_all)]; (first | (simp_all [StoreM.see]; done) | (simp_all [StoreM.see]; (repeat' split) <;> first | rfl | (simp_all; done) | omega | (exfalso; omega)))) | exact open_err (o := some 0) rfl (by simp_all [openM])
            · refine gx_eskip rfl rfl rfl ?_
              refine gx_eskip rfl rfl rfl ?_
              refine gx_eskip rfl rfl rfl ?_
              refine gx_eskip rfl rfl rfl ?_
              refine gx_eskip rfl rfl rfl ?_
              refine gx_eskip rfl rfl rfl ?_
              refine gx_skip rfl rfl rfl ?_
              refine gx_skip rfl rfl rfl ?_
              refine gx_skip rfl rfl rfl ?_
              refine gx_skip rfl rfl rfl ?_
              refine gx_skip rfl rfl rfl ?_
              refine gx_skip rfl rfl rfl ?_
              refine gx_skip rfl rfl rfl ?_
              refine gx_skip rfl rfl rfl ?_
              refine gx_skip rfl rfl rfl ?_
              refine gx_skip rfl rfl rfl ?_
              refine gx_eskip rfl rfl rfl ?_
              refine gx_eskip rfl rfl rfl ?_
              refine gx_eskip rfl rfl rfl ?_
              refine gx_eskip rfl rfl rfl ?_
              refine gx_eskip rfl rfl rfl ?_
              refine gx_eskip rfl rfl rfl ?_
              refine gx_eskip rfl rfl rfl ?_
              refine gx_eskip rfl rfl rfl ?_
              refine x_qe (q_pick rfl rfl) rfl rfl rfl (by repeat (first | exact List.nil_sublist _ | exact List.Sublist.refl _ | exact List.sublist_append_right _ _ | apply List.Sublist.cons_cons | apply List.Sublist.cons | refine List.Sublist.trans ?_ (List.sublist_append_right _ _))) ?_
              refine gx_nil ?_
              refine tn ?_
              refine gc_false rfl ?_
              refine gc_skip ?_
              refine bn (tn ?_)
              refine gc_region ?_
              refine sq (OpQ.cast (q_addi rfl rfl (by decide)) (rfl : _ = i6 (2))) rfl rfl ?_
              refine sq (q_mv rfl) rfl rfl ?_
              refine go_nil ?_
              refine an_round (gr_succ ?_)
              refine gc_seq ?_
              refine gc_region ?_
              refine sq (q_lss rfl rfl) rfl rfl ?_
              refine go_nil ?_
              refine tn ?_
              refine gc_seq ?_
              refine gc_false rfl ?_
              refine gc_exit ?_
              refine tx (tx (bx (tn ?_)))
              refine gc_seq ?_
              refine gc_region ?_
              refine sq (q_mv rfl) rfl rfl ?_
              refine sq (q_as rfl) rfl rfl ?_
              refine sq (q_as rfl) rfl rfl ?_
              refine go_nil ?_
              refine tn ?_
              refine gc_ret ?_
              refine ret_2 (.inl rfl) rfl rfl rfl ?_
              first | exact open_ok (by rw [openM_ge (by simp_all)]; (first | (simp_all [StoreM.see]; done) | (simp_all [StoreM.see]; (repeat' split) <;> first | rfl | (simp_all; done) | omega | (exfalso; omega)))) (by rw [openM_ge (by simp_all)]; (first | (simp_all [StoreM.see]; done) | (simp_all [StoreM.see]; (repeat' split) <;> first | rfl | (simp_all; done) | omega | (exfalso; omega)))) | exact open_err (by simp_all) (by rw [openM_ge (by simp_all)]; (first | (simp_all [StoreM.see]; done) | (simp_all [StoreM.see]; (repeat' split) <;> first | rfl | (simp_all; done) | omega | (exfalso; omega)))) | exact open_err (o := some 0) rfl (by simp_all [openM])
        · refine gx_q (q_fa rfl Tryz.runUnderlying134 rfl Tryz.sizeOf2) rfl rfl rfl ?_
          refine gx_q (q_ld rfl Tryz.isAgg2 rfl) rfl rfl rfl ?_
          refine gx_q (q_fa rfl Tryz.runUnderlying134 rfl Tryz.sizeOf2) rfl rfl rfl ?_
          refine gx_q (q_ld rfl Tryz.isAgg2 rfl) rfl rfl rfl ?_
          refine gx_q (q_addw rfl rfl) rfl rfl rfl ?_
          refine gx_q (q_mv rfl) rfl rfl rfl ?_
          refine gx_q (q_nc rfl) rfl rfl rfl ?_
          refine gx_q (q_fa rfl Tryz.runUnderlying207 rfl Tryz.sizeOf134) rfl rfl rfl ?_
          refine gx_q (q_fa rfl Tryz.runUnderlying134 rfl Tryz.sizeOf2) rfl rfl rfl ?_
          refine gx_q (q_ld rfl Tryz.isAgg2 rfl) rfl rfl rfl ?_
          refine x_qe (q_mv rfl) rfl rfl rfl (by repeat (first | exact List.nil_sublist _ | exact List.Sublist.refl _ | exact List.sublist_append_right _ _ | apply List.Sublist.cons_cons | apply List.Sublist.cons | refine List.Sublist.trans ?_ (List.sublist_append_right _ _))) ?_
          refine x_qe (q_nc rfl) rfl rfl rfl (by repeat (first | exact List.nil_sublist _ | exact List.Sublist.refl _ | exact List.sublist_append_right _ _ | apply List.Sublist.cons_cons | apply List.Sublist.cons | refine List.Sublist.trans ?_ (List.sublist_append_right _ _))) ?_
          refine x_qe (q_fa rfl Tryz.runUnderlying207 rfl Tryz.sizeOf134) rfl rfl rfl (by repeat (first | exact List.nil_sublist _ | exact List.Sublist.refl _ | exact List.sublist_append_right _ _ | apply List.Sublist.cons_cons | apply List.Sublist.cons | refine List.Sublist.trans ?_ (List.sublist_append_right _ _))) ?_
          refine x_qe (q_fa rfl Tryz.runUnderlying134 rfl Tryz.sizeOf2) rfl rfl rfl (by repeat (first | exact List.nil_sublist _ | exact List.Sublist.refl _ | exact List.sublist_append_right _ _ | apply List.Sublist.cons_cons | apply List.Sublist.cons | refine List.Sublist.trans ?_ (List.sublist_append_right _ _))) ?_
          refine x_qe (q_ld rfl Tryz.isAgg2 rfl) rfl rfl rfl (by repeat (first | exact List.nil_sublist _ | exact List.Sublist.refl _ | exact List.sublist_append_right _ _ | apply List.Sublist.cons_cons | apply List.Sublist.cons | refine List.Sublist.trans ?_ (List.sublist_append_right _ _))) ?_
          refine x_qe (q_addw rfl rfl) rfl rfl rfl (by repeat (first | exact List.nil_sublist _ | exact List.Sublist.refl _ | exact List.sublist_append_right _ _ | apply List.Sublist.cons_cons | apply List.Sublist.cons | refine List.Sublist.trans ?_ (List.sublist_append_right _ _))) ?_
          refine x_qe (q_gtr rfl rfl) rfl rfl rfl (by repeat (first | exact List.nil_sublist _ | exact List.Sublist.refl _ | exact List.sublist_append_right _ _ | apply List.Sublist.cons_cons | apply List.Sublist.cons | refine List.Sublist.trans ?_ (List.sublist_append_right _ _))) ?_
          refine x_qe (q_pick rfl rfl) rfl rfl rfl (by repeat (first | exact List.nil_sublist _ | exact List.Sublist.refl _ | exact List.sublist_append_right _ _ | apply List.Sublist.cons_cons | apply List.Sublist.cons | refine List.Sublist.trans ?_ (List.sublist_append_right _ _))) ?_
          refine x_qe (q_pick rfl rfl) rfl rfl rfl (by repeat (first | exact List.nil_sublist _ | exact List.Sublist.refl _ | exact List.sublist_append_right _ _ | apply List.Sublist.cons_cons | apply List.Sublist.cons | refine List.Sublist.trans ?_ (List.sublist_append_right _ _))) ?_
          refine gx_nil ?_
          refine tn ?_
          refine gc_if rfl (fun h12 => ?_) (fun h12 => ?_)
          · refine gc_region ?_
            refine sq (q_mv rfl) rfl rfl ?_
            refine sq (q_mv rfl) rfl rfl ?_
            refine sq (q_lda rfl Tryz.isAgg134 Tryz.sizeOf134 rfl) rfl rfl ?_
            refine sq (q_mv rfl) rfl rfl ?_
            refine sq (q_nc rfl) rfl rfl ?_
            refine sq (q_fa rfl Tryz.runUnderlying207 rfl Tryz.sizeOf134) rfl rfl ?_
            refine s_st (e_st rfl rfl Tryz.sizeOf134 rfl rfl rfl rfl) rfl rfl ?_
            refine sq (q_nc rfl) rfl rfl ?_
            refine sq (q_fa rfl Tryz.runUnderlying207 rfl Tryz.sizeOf3) rfl rfl ?_
            refine s_st (e_st rfl rfl Tryz.sizeOf3 rfl rfl rfl rfl) rfl rfl ?_
            refine go_nil ?_
            refine bn (tn ?_)
            refine gc_region ?_
            refine sq (OpQ.cast (q_addi rfl rfl (by decide)) (rfl : _ = i6 (1))) rfl rfl ?_
            refine sq (q_mv rfl) rfl rfl ?_
            refine go_nil ?_
            refine an_round (gr_succ ?_)
            refine gc_seq ?_
            refine gc_region ?_
            refine sq (q_lss rfl rfl) rfl rfl ?_
            refine go_nil ?_
            refine tn ?_
            refine gc_seq ?_
            refine gc_true rfl ?_
            refine gc_skip ?_
            refine tn ?_
            refine gc_seq ?_
            refine gc_block ?_
            refine gc_seq ?_
            refine gc_region ?_
            refine sq (q_mv rfl) rfl rfl ?_
            refine sq (q_as rfl) rfl rfl ?_
            refine go_nil ?_
            refine tn ?_
            refine gc_seq ?_
            refine gc_region ?_
            refine sq (q_mv rfl) rfl rfl ?_
            refine sq (q_mv rfl) rfl rfl ?_
            refine s_callE (e_call (read_spec ε b q n m hn hok _) rfl en155) rfl rfl ?_
            refine sq (q_mv rfl) rfl rfl ?_
            refine sq (q_ext rfl rfl) rfl rfl ?_
            refine sq (q_ext rfl rfl) rfl rfl ?_
            refine sq (q_ext rfl rfl) rfl rfl ?_
            refine s_new (e_alloc Tryz.zeroValue134 rfl) rfl rfl fun b13 => ?_
            refine s_st (e_st rfl rfl Tryz.sizeOf134 rfl rfl rfl rfl) rfl rfl ?_
            refine sq (q_as rfl) rfl rfl ?_
            refine sq (q_as rfl) rfl rfl ?_
            refine go_nil ?_
            refine tn ?_
            refine gc_seq ?_
            refine gc_seq ?_
            refine gc_region ?_
            refine sq (q_mv rfl) rfl rfl ?_
            refine sq (q_inil_neq (q := (readM m _).2.2.map ε) rfl rfl Tryz.underlying47) rfl rfl ?_
            refine go_nil ?_
            refine tn ?_
            refine gc_if rfl (fun h14 => ?_) (fun h14 => ?_)
            · refine gc_seq ?_
              refine gc_region ?_
              refine sq (q_mv rfl) rfl rfl ?_
              refine sq (q_as rfl) rfl rfl ?_
              refine sq (q_as rfl) rfl rfl ?_
              refine go_nil ?_
              refine tn ?_
              refine gc_ret ?_
              refine tr (br (tr (tr (br (tr ?_)))))
              refine ret_2 (.inl rfl) rfl rfl rfl ?_
              first | exact open_ok (by rw [openM_ge (by simp_all)]; (first | (simp_all [StoreM.see]; done) | (simp_all [StoreM.see]; (repeat' split) <;> first | rfl | (simp_all; done) | omega | (exfalso; omega)))) (by rw [openM_ge (by simp_all)]; (first | (simp_all [StoreM.see]; done) | (simp_all [StoreM.see]; (repeat' split) <;> first | rfl | (simp_all; done) | omega | (exfalso; omega)))) | exact open_err (by simp_all) (by rw [openM_ge (by simp_all)]; (first | (simp_all [StoreM.see]; done) | (simp_all [StoreM.see]; (repeat' split) <;> first | rfl | (simp_all; done) | omega | (exfalso; omega)))) | exact open_err (o := some 0) rfl (by simp_all [openM])
            · refine gc_skip ?_
              refine tn ?_
              refine gc_seq ?_
              refine gc_draw (ord := [(0, false), (1, false), (2, false), (3, false), (4, false), (5, false), (6, false), (7, false), (8, true), (9, true), (10, true), (11, true), (12, true), (13, true), (14, true), (15, true), (16, true), (17, true), (18, false), (19, false), (20, false), (21, false), (22, false), (23, false), (24, false), (25, false), (26, false)]) [] mixed (by kernel_rfl) rfl (by kernel_rfl) (.cons_cons _ (.cons_cons _ (.cons_cons _ (.slnil)))) ?_
              refine x_qe (q_mv rfl) rfl rfl rfl (by repeat (first | exact List.nil_sublist _ | exact List.Sublist.refl _ | exact List.sublist_append_right _ _ | apply List.Sublist.cons_cons | apply List.Sublist.cons | refine List.Sublist.trans ?_ (List.sublist_append_right _ _))) ?_
              refine x_qe (q_mv rfl) rfl rfl rfl (by repeat (first | exact List.nil_sublist _ | exact List.Sublist.refl _ | exact List.sublist_append_right _ _ | apply List.Sublist.cons_cons | apply List.Sublist.cons | refine List.Sublist.trans ?_ (List.sublist_append_right _ _))) ?_
              refine xsp (fun h15 => ?_) (fun h15 => ?_)
              · refine x_qe (q_mv rfl) rfl rfl rfl (by repeat (first | exact List.nil_sublist _ | exact List.Sublist.refl _ | exact List.sublist_append_right _ _ | apply List.Sublist.cons_cons | apply List.Sublist.cons | refine List.Sublist.trans ?_ (List.sublist_append_right _ _))) ?_
                refine x_qe (q_nc rfl) rfl rfl rfl (by repeat (first | exact List.nil_sublist _ | exact List.Sublist.refl _ | exact List.sublist_append_right _ _ | apply List.Sublist.cons_cons | apply List.Sublist.cons | refine List.Sublist.trans ?_ (List.sublist_append_right _ _))) ?_
                refine x_qe (q_fa rfl Tryz.runUnderlying207 rfl Tryz.sizeOf3) rfl rfl rfl (by repeat (first | exact List.nil_sublist _ | exact List.Sublist.refl _ | exact List.sublist_append_right _ _ | apply List.Sublist.cons_cons | apply List.Sublist.cons | refine List.Sublist.trans ?_ (List.sublist_append_right _ _))) ?_
                refine x_qe (q_ld rfl Tryz.isAgg3 rfl) rfl rfl rfl (by repeat (first | exact List.nil_sublist _ | exact List.Sublist.refl _ | exact List.sublist_append_right _ _ | apply List.Sublist.cons_cons | apply List.Sublist.cons | refine List.Sublist.trans ?_ (List.sublist_append_right _ _))) ?_
                refine x_qe (q_lss rfl rfl) rfl rfl rfl (by repeat (first | exact List.nil_sublist _ | exact List.Sublist.refl _ | exact List.sublist_append_right _ _ | apply List.Sublist.cons_cons | apply List.Sublist.cons | refine List.Sublist.trans ?_ (List.sublist_append_right _ _))) ?_
                refine x_qe (q_mv rfl) rfl rfl rfl (by repeat (first | exact List.nil_sublist _ | exact List.Sublist.refl _ | exact List.sublist_append_right _ _ | apply List.Sublist.cons_cons | apply List.Sublist.cons | refine List.Sublist.trans ?_ (List.sublist_append_right _ _))) ?_
                refine xsp (fun h16 => ?_) (fun h16 => ?_)
                · refine gx_skip rfl rfl rfl ?_
                  refine gx_skip rfl rfl rfl ?_
                  refine gx_skip rfl rfl rfl ?_
                  refine gx_skip rfl rfl rfl ?_
                  refine gx_skip rfl rfl rfl ?_
                  refine gx_skip rfl rfl rfl ?_
                  refine gx_skip rfl rfl rfl ?_
                  refine gx_skip rfl rfl rfl ?_
                  refine gx_skip rfl rfl rfl ?_
                  refine gx_skip rfl rfl rfl ?_
                  refine gx_eskip rfl rfl rfl ?_
                  refine gx_eskip rfl rfl rfl ?_
                  refine gx_eskip rfl rfl rfl ?_
                  refine gx_eskip rfl rfl rfl ?_
                  refine gx_eskip rfl rfl rfl ?_
                  refine gx_eskip rfl rfl rfl ?_
                  refine gx_eskip rfl rfl rfl ?_
                  refine x_qe (q_pick rfl rfl) rfl rfl rfl (by repeat (first | exact List.nil_sublist _ | exact List.Sublist.refl _ | exact List.sublist_append_right _ _ | apply List.Sublist.cons_cons | apply List.Sublist.cons | refine List.Sublist.trans ?_ (List.sublist_append_right _ _))) ?_
                  refine x_qe (q_pick rfl rfl) rfl rfl rfl (by repeat (first | exact List.nil_sublist _ | exact List.Sublist.refl _ | exact List.sublist_append_right _ _ | apply List.Sublist.cons_cons | apply List.Sublist.cons | refine List.Sublist.trans ?_ (List.sublist_append_right _ _))) ?_
                  refine gx_nil ?_
                  refine tn ?_
                  refine gc_true rfl ?_
                  refine gc_region ?_
                  refine sq (q_mv rfl) rfl rfl ?_
                  refine sq (q_mv rfl) rfl rfl ?_
                  refine sq (q_lda rfl Tryz.isAgg134 Tryz.sizeOf134 rfl) rfl rfl ?_
                  refine sq (q_mv rfl) rfl rfl ?_
                  refine sq (q_nc rfl) rfl rfl ?_
                  refine sq (q_fa rfl Tryz.runUnderlying207 rfl Tryz.sizeOf134) rfl rfl ?_
                  refine s_st (e_st rfl rfl Tryz.sizeOf134 rfl rfl rfl rfl) rfl rfl ?_
                  refine sq (q_nc rfl) rfl rfl ?_
                  refine sq (q_fa rfl Tryz.runUnderlying207 rfl Tryz.sizeOf3) rfl rfl ?_
                  refine s_st (e_st rfl rfl Tryz.sizeOf3 rfl rfl rfl rfl) rfl rfl ?_
                  refine go_nil ?_
                  refine bn (tn ?_)
                  refine gc_region ?_
                  refine sq (OpQ.cast (q_addi rfl rfl (by decide)) (rfl : _ = i6 (2))) rfl rfl ?_
                  refine sq (q_mv rfl) rfl rfl ?_
                  refine go_nil ?_
                  refine an_round (gr_succ ?_)
                  refine gc_seq ?_
                  refine gc_region ?_
                  refine sq (q_lss rfl rfl) rfl rfl ?_
                  refine go_nil ?_
                  refine tn ?_
                  refine gc_seq ?_
                  refine gc_false rfl ?_
                  refine gc_exit ?_
                  refine tx (tx (bx (tn ?_)))
                  refine gc_seq ?_
                  refine gc_region ?_
                  refine sq (q_mv rfl) rfl rfl ?_
                  refine sq (q_as rfl) rfl rfl ?_
                  refine sq (q_as rfl) rfl rfl ?_
                  refine go_nil ?_
                  refine tn ?_
                  refine gc_ret ?_
                  refine ret_2 (.inl rfl) rfl rfl rfl ?_
                  first | exact open_ok (by rw [openM_ge (by simp_all)]; (first | (simp_all [StoreM.see]; done) | (simp_all [StoreM.see]; (repeat' split) <;> first | rfl | (simp_all; done) | omega | (exfalso; omega)))) (by rw [openM_ge (by simp_all)]; (first | (simp_all [StoreM.see]; done) | (simp_all [StoreM.see]; (repeat' split) <;> first | rfl | (simp_all; done) | omega | (exfalso; omega)))) | exact open_err (by simp_all) (by rw [openM_ge (by simp_all)]; (first | (simp_all [StoreM.see]; done) | (simp_all [StoreM.see]; (repeat' split) <;> first | rfl | (simp_all; done) | omega | (exfalso; omega)))) | exact open_err (o := some 0) rfl (by simp_all [openM])
                · refine gx_q (q_fa rfl Tryz.runUnderlying134 rfl Tryz.sizeOf2) rfl rfl rfl ?_
                  refine gx_q (q_ld rfl Tryz.isAgg2 rfl) rfl rfl rfl ?_
                  refine gx_q (q_fa rfl Tryz.runUnderlying134 rfl Tryz.sizeOf2) rfl rfl rfl ?_
                  refine gx_q (q_ld rfl Tryz.isAgg2 rfl) rfl rfl rfl ?_
                  refine gx_q (q_addw rfl rfl) rfl rfl rfl ?_
                  refine gx_q (q_mv rfl) rfl rfl rfl ?_
                  refine gx_q (q_nc rfl) rfl rfl rfl ?_
                  refine gx_q (q_fa rfl Tryz.runUnderlying207 rfl Tryz.sizeOf134) rfl rfl rfl ?_
                  refine gx_q (q_fa rfl Tryz.runUnderlying134 rfl Tryz.sizeOf2) rfl rfl rfl ?_
                  refine gx_q (q_ld rfl Tryz.isAgg2 rfl) rfl rfl rfl ?_
                  refine x_qe (q_mv rfl) rfl rfl rfl (by repeat (first | exact List.nil_sublist _ | exact List.Sublist.refl _ | exact List.sublist_append_right _ _ | apply List.Sublist.cons_cons | apply List.Sublist.cons | refine List.Sublist.trans ?_ (List.sublist_append_right _ _))) ?_
                  refine x_qe (q_nc rfl) rfl rfl rfl (by repeat (first | exact List.nil_sublist _ | exact List.Sublist.refl _ | exact List.sublist_append_right _ _ | apply List.Sublist.cons_cons | apply List.Sublist.cons | refine List.Sublist.trans ?_ (List.sublist_append_right _ _))) ?_
                  refine x_qe (q_fa rfl Tryz.runUnderlying207 rfl Tryz.sizeOf134) rfl rfl rfl (by repeat (first | exact List.nil_sublist _ | exact List.Sublist.refl _ | exact List.sublist_append_right _ _ | apply List.Sublist.cons_cons | apply List.Sublist.cons | refine List.Sublist.trans ?_ (List.sublist_append_right _ _))) ?_
                  refine x_qe (q_fa rfl Tryz.runUnderlying134 rfl Tryz.sizeOf2) rfl rfl rfl (by repeat (first | exact List.nil_sublist _ | exact List.Sublist.refl _ | exact List.sublist_append_right _ _ | apply List.Sublist.cons_cons | apply List.Sublist.cons | refine List.Sublist.trans ?_ (List.sublist_append_right _ _))) ?_
                  refine x_qe (q_ld rfl Tryz.isAgg2 rfl) rfl rfl rfl (by repeat (first | exact List.nil_sublist _ | exact List.Sublist.refl _ | exact List.sublist_append_right _ _ | apply List.Sublist.cons_cons | apply List.Sublist.cons | refine List.Sublist.trans ?_ (List.sublist_append_right _ _))) ?_
                  refine x_qe (q_addw rfl rfl) rfl rfl rfl (by repeat (first | exact List.nil_sublist _ | exact List.Sublist.refl _ | exact List.sublist_append_right _ _ | apply List.Sublist.cons_cons | apply List.Sublist.cons | refine List.Sublist.trans ?_ (List.sublist_append_right _ _))) ?_
                  refine x_qe (q_gtr rfl rfl) rfl rfl rfl (by repeat (first | exact List.nil_sublist _ | exact List.Sublist.refl _ | exact List.sublist_append_right _ _ | apply List.Sublist.cons_cons | apply List.Sublist.cons | refine List.Sublist.trans ?_ (List.sublist_append_right _ _))) ?_
                  refine x_qe (q_pick rfl rfl) rfl rfl rfl (by repeat (first | exact List.nil_sublist _ | exact List.Sublist.refl _ | exact List.sublist_append_right _ _ | apply List.Sublist.cons_cons | apply List.Sublist.cons | refine List.Sublist.trans ?_ (List.sublist_append_right _ _))) ?_
                  refine x_qe (q_pick rfl rfl) rfl rfl rfl (by repeat (first | exact List.nil_sublist _ | exact List.Sublist.refl _ | exact List.sublist_append_right _ _ | apply List.Sublist.cons_cons | apply List.Sublist.cons | refine List.Sublist.trans ?_ (List.sublist_append_right _ _))) ?_
                  refine gx_nil ?_
                  refine tn ?_
                  refine gc_if rfl (fun h17 => ?_) (fun h17 => ?_)
                  · refine gc_region ?_
                    refine sq (q_mv rfl) rfl rfl ?_
                    refine sq (q_mv rfl) rfl rfl ?_
                    refine sq (q_lda rfl Tryz.isAgg134 Tryz.sizeOf134 rfl) rfl rfl ?_
                    refine sq (q_mv rfl) rfl rfl ?_
                    refine sq (q_nc rfl) rfl rfl ?_
                    refine sq (q_fa rfl Tryz.runUnderlying207 rfl Tryz.sizeOf134) rfl rfl ?_
                    refine s_st (e_st rfl rfl Tryz.sizeOf134 rfl rfl rfl rfl) rfl rfl ?_
                    refine sq (q_nc rfl) rfl rfl ?_
                    refine sq (q_fa rfl Tryz.runUnderlying207 rfl Tryz.sizeOf3) rfl rfl ?_
                    refine s_st (e_st rfl rfl Tryz.sizeOf3 rfl rfl rfl rfl) rfl rfl ?_
                    refine go_nil ?_
                    refine bn (tn ?_)
                    refine gc_region ?_
                    refine sq (OpQ.cast (q_addi rfl rfl (by decide)) (rfl : _ = i6 (2))) rfl rfl ?_
                    refine sq (q_mv rfl) rfl rfl ?_
                    refine go_nil ?_
                    refine an_round (gr_succ ?_)
                    refine gc_seq ?_
                    refine gc_region ?_
                    refine sq (q_lss rfl rfl) rfl rfl ?_
                    refine go_nil ?_
                    refine tn ?_
                    refine gc_seq ?_
                    refine gc_false rfl ?_
                    refine gc_exit ?_
                    refine tx (tx (bx (tn ?_)))
                    refine gc_seq ?_
                    refine gc_region ?_
                    refine sq (q_mv rfl) rfl rfl ?_
                    refine sq (q_as rfl) rfl rfl ?_
                    refine sq (q_as rfl) rfl rfl ?_
                    refine go_nil ?_
                    refine tn ?_
                    refine gc_ret ?_
                    refine ret_2 (.inl rfl) rfl rfl rfl ?_
                    first | exact open_ok (by rw [openM_ge (by simp_all)]; (first | (simp_all [StoreM.see]; done) | (simp_all [StoreM.see]; (repeat' split) <;> first | rfl | (simp_all; done) | omega | (exfalso; omega)))) (by rw [openM_ge (by simp_all)]; (first | (simp_all [StoreM.see]; done) | (simp_all [StoreM.see]; (repeat' split) <;> first | rfl | (simp_all; done) | omega | (exfalso; omega)))) | exact open_err (by simp_all) (by rw [openM_ge (by simp_all)]; (first | (simp_all [StoreM.see]; done) | (simp_all [StoreM.see]; (repeat' split) <;> first | rfl | (simp_all; done) | omega | (exfalso; omega)))) | exact open_err (o := some 0) rfl (by simp_all [openM])
                  · refine gc_skip ?_
                    refine bn (tn ?_)
                    refine gc_region ?_
                    refine sq (OpQ.cast (q_addi rfl rfl (by decide)) (rfl : _ = i6 (2))) rfl rfl ?_
                    refine sq (q_mv rfl) rfl rfl ?_
                    refine go_nil ?_
                    refine an_round (gr_succ ?_)
                    refine gc_seq ?_
                    refine gc_region ?_
                    refine sq (q_lss rfl rfl) rfl rfl ?_
                    refine go_nil ?_
                    refine tn ?_
                    refine gc_seq ?_
                    refine gc_false rfl ?_
                    refine gc_exit ?_
                    refine tx (tx (bx (tn ?_)))
                    refine gc_seq ?_
                    refine gc_region ?_
                    refine sq (q_mv rfl) rfl rfl ?_
                    refine sq (q_as rfl) rfl rfl ?_
                    refine sq (q_as rfl) rfl rfl ?_
                    refine go_nil ?_
                    refine tn ?_
                    refine gc_ret ?_
                    refine ret_2 (.inl rfl) rfl rfl rfl ?_
                    first | exact open_ok (by rw [openM_ge (by simp_all)]; (first | (simp_all [StoreM.see]; done) | (simp_all [StoreM.see]; (repeat' split) <;> first | rfl | (simp_all; done) | omega | (exfalso; omega)))) (by rw [openM_ge (by simp_all)]; (first | (simp_all [StoreM.see]; done) | (simp_all [StoreM.see]; (repeat' split) <;> first | rfl | (simp_all; done) | omega | (exfalso; omega)))) | exact open_err (by simp_all) (by rw [openM_ge (by simp_all)]; (first | (simp_all [StoreM.see]; done) | (simp_all [StoreM.see]; (repeat' split) <;> first | rfl | (simp_all; done) | omega | (exfalso; omega)))) | exact open_err (o := some 0) rfl (by simp_all [openM])
              · refine gx_eskip rfl rfl rfl ?_
                refine gx_eskip rfl rfl rfl ?_
                refine gx_eskip rfl rfl rfl ?_
                refine gx_eskip rfl rfl rfl ?_
                refine gx_eskip rfl rfl rfl ?_
                refine gx_eskip rfl rfl rfl ?_
                refine gx_skip rfl rfl rfl ?_
                refine gx_skip rfl rfl rfl ?_
                refine gx_skip rfl rfl rfl ?_
                refine gx_skip rfl rfl rfl ?_
                refine gx_skip rfl rfl rfl ?_
                refine gx_skip rfl rfl rfl ?_
                refine gx_skip rfl rfl rfl ?_
                refine gx_skip rfl rfl rfl ?_
                refine gx_skip rfl rfl rfl ?_
                refine gx_skip rfl rfl rfl ?_
                refine gx_eskip rfl rfl rfl ?_
                refine gx_eskip rfl rfl rfl ?_
                refine gx_eskip rfl rfl rfl ?_
                refine gx_eskip rfl rfl rfl ?_
                refine gx_eskip rfl rfl rfl ?_
                refine gx_eskip rfl rfl rfl ?_
                refine gx_eskip rfl rfl rfl ?_
                refine gx_eskip rfl rfl rfl ?_
                refine x_qe (q_pick rfl rfl) rfl rfl rfl (by repeat (first | exact List.nil_sublist _ | exact List.Sublist.refl _ | exact List.sublist_append_right _ _ | apply List.Sublist.cons_cons | apply List.Sublist.cons | refine List.Sublist.trans ?_ (List.sublist_append_right _ _))) ?_
                refine gx_nil ?_
                refine tn ?_
                refine gc_false rfl ?_
                refine gc_skip ?_
                refine bn (tn ?_)
                refine gc_region ?_
                refine sq (OpQ.cast (q_addi rfl rfl (by decide)) (rfl : _ = i6 (2))) rfl rfl ?_
                refine sq (q_mv rfl) rfl rfl ?_
                refine go_nil ?_
                refine an_round (gr_succ ?_)
                refine gc_seq ?_
                refine gc_region ?_
                refine sq (q_lss rfl rfl) rfl rfl ?_
                refine go_nil ?_
                refine tn ?_
                refine gc_seq ?_
                refine gc_false rfl ?_
                refine gc_exit ?_
                refine tx (tx (bx (tn ?_)))
                refine gc_seq ?_
                refine gc_region ?_
                refine sq (q_mv rfl) rfl rfl ?_
                refine sq (q_as rfl) rfl rfl ?_
                refine sq (q_as rfl) rfl rfl ?_
                refine go_nil ?_
                refine tn ?_
                refine gc_ret ?_
                refine ret_2 (.inl rfl) rfl rfl rfl ?_
                first | exact open_ok (by rw [openM_ge (by simp_all)]; (first | (simp_all [StoreM.see]; done) | (simp_all [StoreM.see]; (repeat' split) <;> first | rfl | (simp_all; done) | omega | (exfalso; omega)))) (by rw [openM_ge (by simp_all)]; (first | (simp_all [StoreM.see]; done) | (simp_all [StoreM.see]; (repeat' split) <;> first | rfl | (simp_all; done) | omega | (exfalso; omega)))) | exact open_err (by simp_all) (by rw [openM_ge (by simp_all)]; (first | (simp_all [StoreM.see]; done) | (simp_all [StoreM.see]; (repeat' split) <;> first | rfl | (simp_all; done) | omega | (exfalso; omega)))) | exact open_err (o := some 0) rfl (by simp_all [openM])
          · refine gc_skip ?_
            refine bn (tn ?_)
            refine gc_region ?_
            refine sq (OpQ.cast (q_addi rfl rfl (by decide)) (rfl : _ = i6 (1))) rfl rfl ?_
            refine sq (q_mv rfl) rfl rfl ?_
            refine go_nil ?_
            refine an_round (gr_succ ?_)
            refine gc_seq ?_
            refine gc_region ?_
            refine sq (q_lss rfl rfl) rfl rfl ?_
            refine go_nil ?_
            refine tn ?_
            refine gc_seq ?_
            refine gc_true rfl ?_
            refine gc_skip ?_
            refine tn ?_
            refine gc_seq ?_
            refine gc_block ?_
            refine gc_seq ?_
            refine gc_region ?_
            refine sq (q_mv rfl) rfl rfl ?_
            refine sq (q_as rfl) rfl rfl ?_
            refine go_nil ?_
            refine tn ?_
            refine gc_seq ?_
            refine gc_region ?_
            refine sq (q_mv rfl) rfl rfl ?_
            refine sq (q_mv rfl) rfl rfl ?_
            refine s_callE (e_call (read_spec ε b q n m hn hok _) rfl en155) rfl rfl ?_
            refine sq (q_mv rfl) rfl rfl ?_
            refine sq (q_ext rfl rfl) rfl rfl ?_
            refine sq (q_ext rfl rfl) rfl rfl ?_
            refine sq (q_ext rfl rfl) rfl rfl ?_
            refine s_new (e_alloc Tryz.zeroValue134 rfl) rfl rfl fun b18 => ?_
            refine s_st (e_st rfl rfl Tryz.sizeOf134 rfl rfl rfl rfl) rfl rfl ?_
            refine sq (q_as rfl) rfl rfl ?_
            refine sq (q_as rfl) rfl rfl ?_
            refine go_nil ?_
            refine tn ?_
            refine gc_seq ?_
            refine gc_seq ?_
            refine gc_region ?_
            refine sq (q_mv rfl) rfl rfl ?_
            refine sq (q_inil_neq (q := (readM m _).2.2.map ε) rfl rfl Tryz.underlying47) rfl rfl ?_
            refine go_nil ?_
            refine tn ?_
            refine gc_if rfl (fun h19 => ?_) (fun h19 => ?_)
            · refine gc_seq ?_
              refine gc_region ?_
              refine sq (q_mv rfl) rfl rfl ?_
              refine sq (q_as rfl) rfl rfl ?_
              refine sq (q_as rfl) rfl rfl ?_
              refine go_nil ?_
              refine tn ?_
              refine gc_ret ?_
              refine tr (br (tr (tr (br (tr ?_)))))
              refine ret_2 (.inl rfl) rfl rfl rfl ?_
              first | exact open_ok (by rw [openM_ge (by simp_all)]; (first | (simp_all [StoreM.see]; done) | (simp_all [StoreM.see]; (repeat' split) <;> first | rfl | (simp_all; done) | omega | (exfalso; omega)))) (by rw [openM_ge (by simp_all)]; (first | (simp_all [StoreM.see]; done) | (simp_all [StoreM.see]; (repeat' split) <;> first | rfl | (simp_all; done) | omega | (exfalso; omega)))) | exact open_err (by simp_all) (by rw [openM_ge (by simp_all)]; (first | (simp_all [StoreM.see]; done) | (simp_all [StoreM.see]; (repeat' split) <;> first | rfl | (simp_all; done) | omega | (exfalso; omega)))) | exact open_err (o := some 0) rfl (by simp_all [openM])
            · refine gc_skip ?_
              refine tn ?_
              refine gc_seq ?_
              refine gc_draw (ord := [(0, false), (1, false), (2, false), (3, false), (4, false), (5, false), (6, false), (7, false), (8, true), (9, true), (10, true), (11, true), (12, true), (13, true), (14, true), (15, true), (16, true), (17, true), (18, false), (19, false), (20, false), (21, false), (22, false), (23, false), (24, false), (25, false), (26, false)]) [] mixed (by kernel_rfl) rfl (by kernel_rfl) (.cons_cons _ (.cons_cons _ (.cons_cons _ (.slnil)))) ?_
              refine x_qe (q_mv rfl) rfl rfl rfl (by repeat (first | exact List.nil_sublist _ | exact List.Sublist.refl _ | exact List.sublist_append_right _ _ | apply List.Sublist.cons_cons | apply List.Sublist.cons | refine List.Sublist.trans ?_ (List.sublist_append_right _ _))) ?_
              refine x_qe (q_mv rfl) rfl rfl rfl (by repeat (first | exact List.nil_sublist _ | exact List.Sublist.refl _ | exact List.sublist_append_right _ _ | apply List.Sublist.cons_cons | apply List.Sublist.cons | refine List.Sublist.trans ?_ (List.sublist_append_right _ _))) ?_
              refine xsp (fun h20 => ?_) (fun h20 => ?_)
              · refine x_qe (q_mv rfl) rfl rfl rfl (by repeat (first | exact List.nil_sublist _ | exact List.Sublist.refl _ | exact List.sublist_append_right _ _ | apply List.Sublist.cons_cons | apply List.Sublist.cons | refine List.Sublist.trans ?_ (List.sublist_append_right _ _))) ?_
                refine x_qe (q_nc rfl) rfl rfl rfl (by repeat (first | exact List.nil_sublist _ | exact List.Sublist.refl _ | exact List.sublist_append_right _ _ | apply List.Sublist.cons_cons | apply List.Sublist.cons | refine List.Sublist.trans ?_ (List.sublist_append_right _ _))) ?_
                refine x_qe (q_fa rfl Tryz.runUnderlying207 rfl Tryz.sizeOf3) rfl rfl rfl (by repeat (first | exact List.nil_sublist _ | exact List.Sublist.refl _ | exact List.sublist_append_right _ _ | apply List.Sublist.cons_cons | apply List.Sublist.cons | refine List.Sublist.trans ?_ (List.sublist_append_right _ _))) ?_
                refine x_qe (q_ld rfl Tryz.isAgg3 rfl) rfl rfl rfl (by repeat (first | exact List.nil_sublist _ | exact List.Sublist.refl _ | exact List.sublist_append_right _ _ | apply List.Sublist.cons_cons | apply List.Sublist.cons | refine List.Sublist.trans ?_ (List.sublist_append_right _ _))) ?_
                refine x_qe (q_lss rfl rfl) rfl rfl rfl (by repeat (first | exact List.nil_sublist _ | exact List.Sublist.refl _ | exact List.sublist_append_right _ _ | apply List.Sublist.cons_cons | apply List.Sublist.cons | refine List.Sublist.trans ?_ (List.sublist_append_right _ _))) ?_
                refine x_qe (q_mv rfl) rfl rfl rfl (by repeat (first | exact List.nil_sublist _ | exact List.Sublist.refl _ | exact List.sublist_append_right _ _ | apply List.Sublist.cons_cons | apply List.Sublist.cons | refine List.Sublist.trans ?_ (List.sublist_append_right _ _))) ?_
                refine xsp (fun h21 => ?_) (fun h21 => ?_)
                · refine gx_skip rfl rfl rfl ?_
                  refine gx_skip rfl rfl rfl ?_
                  refine gx_skip rfl rfl rfl ?_
                  refine gx_skip rfl rfl rfl ?_
                  refine gx_skip rfl rfl rfl ?_
                  refine gx_skip rfl rfl rfl ?_
                  refine gx_skip rfl rfl rfl ?_
                  refine gx_skip rfl rfl rfl ?_
                  refine gx_skip rfl rfl rfl ?_
                  refine gx_skip rfl rfl rfl ?_
                  refine gx_eskip rfl rfl rfl ?_
                  refine gx_eskip rfl rfl rfl ?_
                  refine gx_eskip rfl rfl rfl ?_
                  refine gx_eskip rfl rfl rfl ?_
                  refine gx_eskip rfl rfl rfl ?_
                  refine gx_eskip rfl rfl rfl ?_
                  refine gx_eskip rfl rfl rfl ?_
                  refine x_qe (q_pick rfl rfl) rfl rfl rfl (by repeat (first | exact List.nil_sublist _ | exact List.Sublist.refl _ | exact List.sublist_append_right _ _ | apply List.Sublist.cons_cons | apply List.Sublist.cons | refine List.Sublist.trans ?_ (List.sublist_append_right _ _))) ?_
                  refine x_qe (q_pick rfl rfl) rfl rfl rfl (by repeat (first | exact List.nil_sublist _ | exact List.Sublist.refl _ | exact List.sublist_append_right _ _ | apply List.Sublist.cons_cons | apply List.Sublist.cons | refine List.Sublist.trans ?_ (List.sublist_append_right _ _))) ?_
                  refine gx_nil ?_
                  refine tn ?_
                  refine gc_true rfl ?_
                  refine gc_region ?_
                  refine sq (q_mv rfl) rfl rfl ?_
                  refine sq (q_mv rfl) rfl rfl ?_
                  refine sq (q_lda rfl Tryz.isAgg134 Tryz.sizeOf134 rfl) rfl rfl ?_
                  refine sq (q_mv rfl) rfl rfl ?_
                  refine sq (q_nc rfl) rfl rfl ?_
                  refine sq (q_fa rfl Tryz.runUnderlying207 rfl Tryz.sizeOf134) rfl rfl ?_
                  refine s_st (e_st rfl rfl Tryz.sizeOf134 rfl rfl rfl rfl) rfl rfl ?_
                  refine sq (q_nc rfl) rfl rfl ?_
                  refine sq (q_fa rfl Tryz.runUnderlying207 rfl Tryz.sizeOf3) rfl rfl ?_
                  refine s_st (e_st rfl rfl Tryz.sizeOf3 rfl rfl rfl rfl) rfl rfl ?_
                  refine go_nil ?_
                  refine bn (tn ?_)
                  refine gc_region ?_
                  refine sq (OpQ.cast (q_addi rfl rfl (by decide)) (rfl : _ = i6 (2))) rfl rfl ?_
                  refine sq (q_mv rfl) rfl rfl ?_
                  refine go_nil ?_
                  refine an_round (gr_succ ?_)
                  refine gc_seq ?_
                  refine gc_region ?_
                  refine sq (q_lss rfl rfl) rfl rfl ?_
                  refine go_nil ?_
                  refine tn ?_
                  refine gc_seq ?_
                  refine gc_false rfl ?_
                  refine gc_exit ?_
                  refine tx (tx (bx (tn ?_)))
                  refine gc_seq ?_
                  refine gc_region ?_
                  refine sq (q_mv rfl) rfl rfl ?_
                  refine sq (q_as rfl) rfl rfl ?_
                  refine sq (q_as rfl) rfl rfl ?_
                  refine go_nil ?_
                  refine tn ?_
                  refine gc_ret ?_
                  refine ret_2 (.inl rfl) rfl rfl rfl ?_
                  first | exact open_ok (by rw [openM_ge (by simp_all)]; (first | (simp_all [StoreM.see]; done) | (simp_all [StoreM.see]; (repeat' split) <;> first | rfl | (simp_all; done) | omega | (exfalso; omega)))) (by rw [openM_ge (by simp_all)]; (first | (simp_all [StoreM.see]; done) | (simp_all [StoreM.see]; (repeat' split) <;> first | rfl | (simp_all; done) | omega | (exfalso; omega)))) | exact open_err (by simp_all) (by rw [openM_ge (by simp_all)]; (first | (simp_all [StoreM.see]; done) | (simp_all [StoreM.see]; (repeat' split) <;> first | rfl | (simp_all; done) | omega | (exfalso; omega)))) | exact open_err (o := some 0) rfl (by simp_all [openM])
                · refine gx_q (q_fa rfl Tryz.runUnderlying134 rfl Tryz.sizeOf2) rfl rfl rfl ?_
                  refine gx_q (q_ld rfl Tryz.isAgg2 rfl) rfl rfl rfl ?_
                  refine gx_q (q_fa rfl Tryz.runUnderlying134 rfl Tryz.sizeOf2) rfl rfl rfl ?_
                  refine gx_q (q_ld rfl Tryz.isAgg2 rfl) rfl rfl rfl ?_
                  refine gx_q (q_addw rfl rfl) rfl rfl rfl ?_
                  refine gx_q (q_mv rfl) rfl rfl rfl ?_
                  refine gx_q (q_nc rfl) rfl rfl rfl ?_
                  refine gx_q (q_fa rfl Tryz.runUnderlying207 rfl Tryz.sizeOf134) rfl rfl rfl ?_
                  refine gx_q (q_fa rfl Tryz.runUnderlying134 rfl Tryz.sizeOf2) rfl rfl rfl ?_
                  refine gx_q (q_ld rfl Tryz.isAgg2 rfl) rfl rfl rfl ?_
                  refine x_qe (q_mv rfl) rfl rfl rfl (by repeat (first | exact List.nil_sublist _ | exact List.Sublist.refl _ | exact List.sublist_append_right _ _ | apply List.Sublist.cons_cons | apply List.Sublist.cons | refine List.Sublist.trans ?_ (List.sublist_append_right _ _))) ?_
                  refine x_qe (q_nc rfl) rfl rfl rfl (by repeat (first | exact List.nil_sublist _ | exact List.Sublist.refl _ | exact List.sublist_append_right _ _ | apply List.Sublist.cons_cons | apply List.Sublist.cons | refine List.Sublist.trans ?_ (List.sublist_append_right _ _))) ?_
                  refine x_qe (q_fa rfl Tryz.runUnderlying207 rfl Tryz.sizeOf134) rfl rfl rfl (by repeat (first | exact List.nil_sublist _ | exact List.Sublist.refl _ | exact List.sublist_append_right _ _ | apply List.Sublist.cons_cons | apply List.Sublist.cons | refine List.Sublist.trans ?_ (List.sublist_append_right _ _))) ?_
                  refine x_qe (q_fa rfl Tryz.runUnderlying134 rfl Tryz.sizeOf2) rfl rfl rfl (by repeat (first | exact List.nil_sublist _ | exact List.Sublist.refl _ | exact List.sublist_append_right _ _ | apply List.Sublist.cons_cons | apply List.Sublist.cons | refine List.Sublist.trans ?_ (List.sublist_append_right _ _))) ?_
                  refine x_qe (q_ld rfl Tryz.isAgg2 rfl) rfl rfl rfl (by repeat (first | exact List.nil_sublist _ | exact List.Sublist.refl _ | exact List.sublist_append_right _ _ | apply List.Sublist.cons_cons | apply List.Sublist.cons | refine List.Sublist.trans ?_ (List.sublist_append_right _ _))) ?_
                  refine x_qe (q_addw rfl rfl) rfl rfl rfl (by repeat (first | exact List.nil_sublist _ | exact List.Sublist.refl _ | exact List.sublist_append_right _ _ | apply List.Sublist.cons_cons | apply List.Sublist.cons | refine List.Sublist.trans ?_ (List.sublist_append_right _ _))) ?_
                  refine x_qe (q_gtr rfl rfl) rfl rfl rfl (by repeat (first | exact List.nil_sublist _ | exact List.Sublist.refl _ | exact List.sublist_append_right _ _ | apply List.Sublist.cons_cons | apply List.Sublist.cons | refine List.Sublist.trans ?_ (List.sublist_append_right _ _))) ?_
                  refine x_qe (q_pick rfl rfl) rfl rfl rfl (by repeat (first | exact List.nil_sublist _ | exact List.Sublist.refl _ | exact List.sublist_append_right _ _ | apply List.Sublist.cons_cons | apply List.Sublist.cons | refine List.Sublist.trans ?_ (List.sublist_append_right _ _))) ?_
                  refine x_qe (q_pick rfl rfl) rfl rfl rfl (by repeat (first | exact List.nil_sublist _ | exact List.Sublist.refl _ | exact List.sublist_append_right _ _ | apply List.Sublist.cons_cons | apply List.Sublist.cons | refine List.Sublist.trans ?_ (List.sublist_append_right _ _))) ?_
                  refine gx_nil ?_
                  refine tn ?_
                  refine gc_if rfl (fun h22 => ?_) (fun h22 => ?_)
                  · refine gc_region ?_
                    refine sq (q_mv rfl) rfl rfl ?_
                    refine sq (q_mv rfl) rfl rfl ?_
                    refine sq (q_lda rfl Tryz.isAgg134 Tryz.sizeOf134 rfl) rfl rfl ?_
                    refine sq (q_mv rfl) rfl rfl ?_
                    refine sq (q_nc rfl) rfl rfl ?_
                    refine sq (q_fa rfl Tryz.runUnderlying207 rfl Tryz.sizeOf134) rfl rfl ?_
                    refine s_st (e_st rfl rfl Tryz.sizeOf134 rfl rfl rfl rfl) rfl rfl ?_
                    refine sq (q_nc rfl) rfl rfl ?_
                    refine sq (q_fa rfl Tryz.runUnderlying207 rfl Tryz.sizeOf3) rfl rfl ?_
                    refine s_st (e_st rfl rfl Tryz.sizeOf3 rfl rfl rfl rfl) rfl rfl ?_
                    refine go_nil ?_
                    refine bn (tn ?_)
                    refine gc_region ?_
                    refine sq (OpQ.cast (q_addi rfl rfl (by decide)) (rfl : _ = i6 (2))) rfl rfl ?_
                    refine sq (q_mv rfl) rfl rfl ?_
                    refine go_nil ?_
                    refine an_round (gr_succ ?_)
                    refine gc_seq ?_
                    refine gc_region ?_
                    refine sq (q_lss rfl rfl) rfl rfl ?_
                    refine go_nil ?_
                    refine tn ?_
                    refine gc_seq ?_
                    refine gc_false rfl ?_
                    refine gc_exit ?_
                    refine tx (tx (bx (tn ?_)))
                    refine gc_seq ?_
                    refine gc_region ?_
                    refine sq (q_mv rfl) rfl rfl ?_
                    refine sq (q_as rfl) rfl rfl ?_
                    refine sq (q_as rfl) rfl rfl ?_
                    refine go_nil ?_
                    refine tn ?_
                    refine gc_ret ?_
                    refine ret_2 (.inl rfl) rfl rfl rfl ?_
                    first | exact open_ok (by rw [openM_ge (by simp_all)]; (first | (simp_all [StoreM.see]; done) | (simp_all [StoreM.see]; (repeat' split) <;> first | rfl | (simp_all; done) | omega | (exfalso; omega)))) (by rw [openM_ge (by simp_all)]; (first | (simp_all [StoreM.see]; done) | (simp_all [StoreM.see]; (repeat' split) <;> first | rfl | (simp_all; done) | omega | (exfalso; omega)))) | exact open_err (by simp_all) (by rw [openM_ge (by simp_all)]; (first | (simp_all [StoreM.see]; done) | (simp_all [StoreM.see]; (repeat' split) <;> first | rfl | (simp_all; done) | omega | (exfalso; omega)))) | exact open_err (o := some 0) rfl (by simp_all [openM])
                  · refine gc_skip ?_
                    refine bn (tn ?_)
                    refine gc_region ?_
                    refine sq (OpQ.cast (q_addi rfl rfl (by decide)) (rfl : _ = i6 (2))) rfl rfl ?_
                    refine sq (q_mv rfl) rfl rfl ?_
                    refine go_nil ?_
                    refine an_round (gr_succ ?_)
                    refine gc_seq ?_
                    refine gc_region ?_
                    refine sq (q_lss rfl rfl) rfl rfl ?_
                    refine go_nil ?_
                    refine tn ?_
                    refine gc_seq ?_
                    refine gc_false rfl ?_
                    refine gc_exit ?_
                    refine tx (tx (bx (tn ?_)))
                    refine gc_seq ?_
                    refine gc_region ?_
                    refine sq (q_mv rfl) rfl rfl ?_
                    refine sq (q_as rfl) rfl rfl ?_
                    refine sq (q_as rfl) rfl rfl ?_
                    refine go_nil ?_
                    refine tn ?_
                    refine gc_ret ?_
                    refine ret_2 (.inl rfl) rfl rfl rfl ?_
                    first | exact open_ok (by rw [openM_ge (by simp_all)]; (first | (simp_all [StoreM.see]; done) | (simp_all [StoreM.see]; (repeat' split) <;> first | rfl | (simp_all; done) | omega | (exfalso; omega)))) (by rw [openM_ge (by simp_all)]; (first | (simp_all [StoreM.see]; done) | (simp_all [StoreM.see]; (repeat' split) <;> first | rfl | (simp_all; done) | omega | (exfalso; omega)))) | exact open_err (by simp_all) (by rw [openM_ge (by simp_all)]; (first | (simp_all [StoreM.see]; done) | (simp_all [StoreM.see]; (repeat' split) <;> first | rfl | (simp_all; done) | omega | (exfalso; omega)))) | exact open_err (o := some 0) rfl (by simp_all [openM])
              · refine gx_eskip rfl rfl rfl ?_
                refine gx_eskip rfl rfl rfl ?_
                refine gx_eskip rfl rfl rfl ?_
                refine gx_eskip rfl rfl rfl ?_
                refine gx_eskip rfl rfl rfl ?_
                refine gx_eskip rfl rfl rfl ?_
                refine gx_skip rfl rfl rfl ?_
                refine gx_skip rfl rfl rfl ?_
                refine gx_skip rfl rfl rfl ?_
                refine gx_skip rfl rfl rfl ?_
                refine gx_skip rfl rfl rfl ?_
                refine gx_skip rfl rfl rfl ?_
                refine gx_skip rfl rfl rfl ?_
                refine gx_skip rfl rfl rfl ?_
                refine gx_skip rfl rfl rfl ?_
                refine gx_skip rfl rfl rfl ?_
                refine gx_eskip rfl rfl rfl ?_
                refine gx_eskip rfl rfl rfl ?_
                refine gx_eskip rfl rfl rfl ?_
                refine gx_eskip rfl rfl rfl ?_
                refine gx_eskip rfl rfl rfl ?_
                refine gx_eskip rfl rfl rfl ?_
                refine gx_eskip rfl rfl rfl ?_
                refine gx_eskip rfl rfl rfl ?_
                refine x_qe (q_pick rfl rfl) rfl rfl rfl (by repeat (first | exact List.nil_sublist _ | exact List.Sublist.refl _ | exact List.sublist_append_right _ _ | apply List.Sublist.cons_cons | apply List.Sublist.cons | refine List.Sublist.trans ?_ (List.sublist_append_right _ _))) ?_
                refine gx_nil ?_
                refine tn ?_
                refine gc_false rfl ?_
                refine gc_skip ?_
                refine bn (tn ?_)
                refine gc_region ?_
                refine sq (OpQ.cast (q_addi rfl rfl (by decide)) (rfl : _ = i6 (2))) rfl rfl ?_
                refine sq (q_mv rfl) rfl rfl ?_
                refine go_nil ?_
                refine an_round (gr_succ ?_)
                refine gc_seq ?_
                refine gc_region ?_
                refine sq (q_lss rfl rfl) rfl rfl ?_
                refine go_nil ?_
                refine tn ?_
                refine gc_seq ?_
                refine gc_false rfl ?_
                refine gc_exit ?_
                refine tx (tx (bx (tn ?_)))
                refine gc_seq ?_
                refine gc_region ?_
                refine sq (q_mv rfl) rfl rfl ?_
                refine sq (q_as rfl) rfl rfl ?_
                refine sq (q_as rfl) rfl rfl ?_
                refine go_nil ?_
                refine tn ?_
                refine gc_ret ?_
                refine ret_2 (.inl rfl) rfl rfl rfl ?_
                first | exact open_ok (by rw [openM_ge (by simp_all)]; (first | (simp_all [StoreM.see]; done) | (simp_all [StoreM.see]; (repeat' split) <;> first | rfl | (simp_all; done) | omega | (exfalso; omega)))) (by rw [openM_ge (by simp_all)]; (first | (simp_all [StoreM.see]; done) | (simp_all [StoreM.see]; (repeat' split) <;> first | rfl | (simp_all; done) | omega | (exfalso; omega)))) | exact open_err (by simp_all) (by rw [openM_ge (by simp_all)]; (first | (simp_all [StoreM.see]; done) | (simp_all [StoreM.see]; (repeat' split) <;> first | rfl | (simp_all; done) | omega | (exfalso; omega)))) | exact open_err (o := some 0) rfl (by simp_all [openM])
      · refine gx_eskip rfl rfl rfl ?_
        refine gx_eskip rfl rfl rfl ?_
        refine gx_eskip rfl rfl rfl ?_
        refine gx_eskip rfl rfl rfl ?_
        refine gx_eskip rfl rfl rfl ?_
        refine gx_eskip rfl rfl rfl ?_
        refine gx_skip rfl rfl rfl ?_
        refine gx_skip rfl rfl rfl ?_
        refine gx_skip rfl rfl rfl ?_
        refine gx_skip rfl rfl rfl ?_
        refine gx_skip rfl rfl rfl ?_
        refine gx_skip rfl rfl rfl ?_
        refine gx_skip rfl rfl rfl ?_
        refine gx_skip rfl rfl rfl ?_
        refine gx_skip rfl rfl rfl ?_
        refine gx_skip rfl rfl rfl ?_
        refine gx_eskip rfl rfl rfl ?_
        refine gx_eskip rfl rfl rfl ?_
        refine gx_eskip rfl rfl rfl ?_
        refine gx_eskip rfl rfl rfl ?_
        refine gx_eskip rfl rfl rfl ?_
        refine gx_eskip rfl rfl rfl ?_
        refine gx_eskip rfl rfl rfl ?_
        refine gx_eskip rfl rfl rfl ?_
        refine x_qe (q_pick rfl rfl) rfl rfl rfl (by repeat (first | exact List.nil_sublist _ | exact List.Sublist.refl _ | exact List.sublist_append_right _ _ | apply List.Sublist.cons_cons | apply List.Sublist.cons | refine List.Sublist.trans ?_ (List.sublist_append_right _ _))) ?_
        refine gx_nil ?_
        refine tn ?_
        refine gc_false rfl ?_
        refine gc_skip ?_
        refine bn (tn ?_)
        refine gc_region ?_
        refine sq (OpQ.cast (q_addi rfl rfl (by decide)) (rfl : _ = i6 (1))) rfl rfl ?_
        refine sq (q_mv rfl) rfl rfl ?_
        refine go_nil ?_
        refine an_round (gr_succ ?_)
        refine gc_seq ?_
        refine gc_region ?_
        refine sq (q_lss rfl rfl) rfl rfl ?_
        refine go_nil ?_
        refine tn ?_
        refine gc_seq ?_
        refine gc_true rfl ?_
        refine gc_skip ?_
        refine tn ?_
        refine gc_seq ?_
        refine gc_block ?_
        refine gc_seq ?_
        refine gc_region ?_
        refine sq (q_mv rfl) rfl rfl ?_
        refine sq (q_as rfl) rfl rfl ?_
        refine go_nil ?_
        refine tn ?_
        refine gc_seq ?_
        refine gc_region ?_
        refine sq (q_mv rfl) rfl rfl ?_
        refine sq (q_mv rfl) rfl rfl ?_
        refine s_callE (e_call (read_spec ε b q n m hn hok _) rfl en155) rfl rfl ?_
        refine sq (q_mv rfl) rfl rfl ?_
        refine sq (q_ext rfl rfl) rfl rfl ?_
        refine sq (q_ext rfl rfl) rfl rfl ?_
        refine sq (q_ext rfl rfl) rfl rfl ?_
        refine s_new (e_alloc Tryz.zeroValue134 rfl) rfl rfl fun b23 => ?_
        refine s_st (e_st rfl rfl Tryz.sizeOf134 rfl rfl rfl rfl) rfl rfl ?_
        refine sq (q_as rfl) rfl rfl ?_
        refine sq (q_as rfl) rfl rfl ?_
        refine go_nil ?_
        refine tn ?_
        refine gc_seq ?_
        refine gc_seq ?_
        refine gc_region ?_
        refine sq (q_mv rfl) rfl rfl ?_
        refine sq (q_inil_neq (q := (readM m _).2.2.map ε) rfl rfl Tryz.underlying47) rfl rfl ?_
        refine go_nil ?_
        refine tn ?_
        refine gc_if rfl (fun h24 => ?_) (fun h24 => ?_)
        · refine gc_seq ?_
          refine gc_region ?_
          refine sq (q_mv rfl) rfl rfl ?_
          refine sq (q_as rfl) rfl rfl ?_
          refine sq (q_as rfl) rfl rfl ?_
          refine go_nil ?_
          refine tn ?_
          refine gc_ret ?_
          refine tr (br (tr (tr (br (tr ?_)))))
          refine ret_2 (.inl rfl) rfl rfl rfl ?_
          first | exact open_ok (by rw [openM_ge (by simp_all)]; (first | (simp_all [StoreM.see]; done) | (simp_all [StoreM.see]; (repeat' split) <;> first | rfl | (simp_all; done) | omega | (exfalso; omega)))) (by rw [openM_ge (by simp_all)]; (first | (simp_all [StoreM.see]; done) | (simp_all [StoreM.see]; (repeat' split) <;> first | rfl | (simp_all; done) | omega | (exfalso; omega)))) | exact open_err (by simp_all) (by rw [openM_ge (by simp_all)]; (first | (simp_all [StoreM.see]; done) | (simp_all [StoreM.see]; (repeat' split) <;> first | rfl | (simp_all; done) | omega | (exfalso; omega)))) | exact open_err (o := some 0) rfl (by simp_all [openM])
        · refine gc_skip ?_
          refine tn ?_
          refine gc_seq ?_
          refine gc_draw (ord := [(0, false), (1, false), (2, false), (3, false), (4, false), (5, false), (6, false), (7, false), (8, true), (9, true), (10, true), (11, true), (12, true), (13, true), (14, true), (15, true), (16, true), (17, true), (18, false), (19, false), (20, false), (21, false), (22, false), (23, false), (24, false), (25, false), (26, false)]) [] mixed (by kernel_rfl) rfl (by kernel_rfl) (.cons_cons _ (.cons_cons _ (.cons_cons _ (.slnil)))) ?_
          refine x_qe (q_mv rfl) rfl rfl rfl (by repeat (first | exact List.nil_sublist _ | exact List.Sublist.refl _ | exact List.sublist_append_right _ _ | apply List.Sublist.cons_cons | apply List.Sublist.cons | refine List.Sublist.trans ?_ (List.sublist_append_right _ _))) ?_
          refine x_qe (q_mv rfl) rfl rfl rfl (by repeat (first | exact List.nil_sublist _ | exact List.Sublist.refl _ | exact List.sublist_append_right _ _ | apply List.Sublist.cons_cons | apply List.Sublist.cons | refine List.Sublist.trans ?_ (List.sublist_append_right _ _))) ?_
          refine xsp (fun h25 => ?_) (fun h25 => ?_)
          · refine x_qe (q_mv rfl) rfl rfl rfl (by repeat (first | exact List.nil_sublist _ | exact List.Sublist.refl _ | exact List.sublist_append_right _ _ | apply List.Sublist.cons_cons | apply List.Sublist.cons | refine List.Sublist.trans ?_ (List.sublist_append_right _ _))) ?_
            refine x_qe (q_nc rfl) rfl rfl rfl (by repeat (first | exact List.nil_sublist _ | exact List.Sublist.refl _ | exact List.sublist_append_right _ _ | apply List.Sublist.cons_cons | apply List.Sublist.cons | refine List.Sublist.trans ?_ (List.sublist_append_right _ _))) ?_
            refine x_qe (q_fa rfl Tryz.runUnderlying207 rfl Tryz.sizeOf3) rfl rfl rfl (by repeat (first | exact List.nil_sublist _ | exact List.Sublist.refl _ | exact List.sublist_append_right _ _ | apply List.Sublist.cons_cons | apply List.Sublist.cons | refine List.Sublist.trans ?_ (List.sublist_append_right _ _))) ?_
            refine x_qe (q_ld rfl Tryz.isAgg3 rfl) rfl rfl rfl (by repeat (first | exact List.nil_sublist _ | exact List.Sublist.refl _ | exact List.sublist_append_right _ _ | apply List.Sublist.cons_cons | apply List.Sublist.cons | refine List.Sublist.trans ?_ (List.sublist_append_right _ _))) ?_
            refine x_qe (q_lss rfl rfl) rfl rfl rfl (by repeat (first | exact List.nil_sublist _ | exact List.Sublist.refl _ | exact List.sublist_append_right _ _ | apply List.Sublist.cons_cons | apply List.Sublist.cons | refine List.Sublist.trans ?_ (List.sublist_append_right _ _))) ?_
            refine x_qe (q_mv rfl) rfl rfl rfl (by repeat (first | exact List.nil_sublist _ | exact List.Sublist.refl _ | exact List.sublist_append_right _ _ | apply List.Sublist.cons_cons | apply List.Sublist.cons | refine List.Sublist.trans ?_ (List.sublist_append_right _ _))) ?_
            refine xsp (fun h26 => ?_) (fun h26 => ?_)
            · refine gx_skip rfl rfl rfl ?_
              refine gx_skip rfl rfl rfl ?_
              refine gx_skip rfl rfl rfl ?_
              refine gx_skip rfl rfl rfl ?_
              refine gx_skip rfl rfl rfl ?_
              refine gx_skip rfl rfl rfl ?_
              refine gx_skip rfl rfl rfl ?_
              refine gx_skip rfl rfl rfl ?_
              refine gx_skip rfl rfl rfl ?_
              refine gx_skip rfl rfl rfl ?_
              refine gx_eskip rfl rfl rfl ?_
              refine gx_eskip rfl rfl rfl ?_
              refine gx_eskip rfl rfl rfl ?_
              refine gx_eskip rfl rfl rfl ?_
              refine gx_eskip rfl rfl rfl ?_
              refine gx_eskip rfl rfl rfl ?_
              refine gx_eskip rfl rfl rfl ?_
              refine x_qe (q_pick rfl rfl) rfl rfl rfl (by repeat (first | exact List.nil_sublist _ | exact List.Sublist.refl _ | exact List.sublist_append_right _ _ | apply List.Sublist.cons_cons | apply List.Sublist.cons | refine List.Sublist.trans ?_ (List.sublist_append_right _ _))) ?_
              refine x_qe (q_pick rfl rfl) rfl rfl rfl (by repeat (first | exact List.nil_sublist _ | exact List.Sublist.refl _ | exact List.sublist_append_right _ _ | apply List.Sublist.cons_cons | apply List.Sublist.cons | refine List.Sublist.trans ?_ (List.sublist_append_right _ _))) ?_
              refine gx_nil ?_
              refine tn ?_
              refine gc_true rfl ?_
              refine gc_region ?_
              refine sq (q_mv rfl) rfl rfl ?_
              refine sq (q_mv rfl) rfl rfl ?_
              refine sq (q_lda rfl Tryz.isAgg134 Tryz.sizeOf134 rfl) rfl rfl ?_
              refine sq (q_mv rfl) rfl rfl ?_
              refine sq (q_nc rfl) rfl rfl ?_
              refine sq (q_fa rfl Tryz.runUnderlying207 rfl Tryz.sizeOf134) rfl rfl ?_
              refine s_st (e_st rfl rfl Tryz.sizeOf134 rfl rfl rfl rfl) rfl rfl ?_
              refine sq (q_nc rfl) rfl rfl ?_
              refine sq (q_fa rfl Tryz.runUnderlying207 rfl Tryz.sizeOf3) rfl rfl ?_
              refine s_st (e_st rfl rfl Tryz.sizeOf3 rfl rfl rfl rfl) rfl rfl ?_
              refine go_nil ?_
              refine bn (tn ?_)
              refine gc_region ?_
              refine sq (OpQ.cast (q_addi rfl rfl (by decide)) (rfl : _ = i6 (2))) rfl rfl ?_
              refine sq (q_mv rfl) rfl rfl ?_
              refine go_nil ?_
              refine an_round (gr_succ ?_)
              refine gc_seq ?_
              refine gc_region ?_
              refine sq (q_lss rfl rfl) rfl rfl ?_
              refine go_nil ?_
              refine tn ?_
              refine gc_seq ?_
              refine gc_false rfl ?_
              refine gc_exit ?_
              refine tx (tx (bx (tn ?_)))
              refine gc_seq ?_
              refine gc_region ?_
              refine sq (q_mv rfl) rfl rfl ?_
              refine sq (q_as rfl) rfl rfl ?_
              refine sq (q_as rfl) rfl rfl ?_
              refine go_nil ?_
              refine tn ?_
              refine gc_ret ?_
              refine ret_2 (.inl rfl) rfl rfl rfl ?_
              first | exact open_ok (by rw [openM_ge (by simp_all)]; (first | (simp_all [StoreM.see]; done) | (simp_all [StoreM.see]; (repeat' split) <;> first | rfl | (simp_all; done) | omega | (exfalso; omega)))) (by rw [openM_ge (by simp_all)]; (first | (simp_all [StoreM.see]; done) | (simp_all [StoreM.see]; (repeat' split) <;> first | rfl | (simp_all; done) | omega | (exfalso; omega)))) | exact open_err (by simp_all) (by rw [openM_ge (by simp_all)]; (first | (simp_all [StoreM.see]; done) | (simp_all [StoreM.see]; (repeat' split) <;> first | rfl | (simp_all; done) | omega | (exfalso; omega)))) | exact open_err (o := some 0) rfl (by simp_all [openM])
            · refine gx_q (q_fa rfl Tryz.runUnderlying134 rfl Tryz.sizeOf2) rfl rfl rfl ?_
              refine gx_q (q_ld rfl Tryz.isAgg2 rfl) rfl rfl rfl ?_
              refine gx_q (q_fa rfl Tryz.runUnderlying134 rfl Tryz.sizeOf2) rfl rfl rfl ?_
              refine gx_q (q_ld rfl Tryz.isAgg2 rfl) rfl rfl rfl ?_
              refine gx_q (q_addw rfl rfl) rfl rfl rfl ?_
              refine gx_q (q_mv rfl) rfl rfl rfl ?_
              refine gx_q (q_nc rfl) rfl rfl rfl ?_
              refine gx_q (q_fa rfl Tryz.runUnderlying207 rfl Tryz.sizeOf134) rfl rfl rfl ?_
              refine gx_q (q_fa rfl Tryz.runUnderlying134 rfl Tryz.sizeOf2) rfl rfl rfl ?_
              refine gx_q (q_ld rfl Tryz.isAgg2 rfl) rfl rfl rfl ?_
              refine x_qe (q_mv rfl) rfl rfl rfl (by repeat (first | exact List.nil_sublist _ | exact List.Sublist.refl _ | exact List.sublist_append_right _ _ | apply List.Sublist.cons_cons | apply List.Sublist.cons | refine List.Sublist.trans ?_ (List.sublist_append_right _ _))) ?_
              refine x_qe (q_nc rfl) rfl rfl rfl (by repeat (first | exact List.nil_sublist _ | exact List.Sublist.refl _ | exact List.sublist_append_right _ _ | apply List.Sublist.cons_cons | apply List.Sublist.cons | refine List.Sublist.trans ?_ (List.sublist_append_right _ _))) ?_
              refine x_qe (q_fa rfl Tryz.runUnderlying207 rfl Tryz.sizeOf134) rfl rfl rfl (by repeat (first | exact List.nil_sublist _ | exact List.Sublist.refl _ | exact List.sublist_append_right _ _ | apply List.Sublist.cons_cons | apply List.Sublist.cons | refine List.Sublist.trans ?_ (List.sublist_append_right _ _))) ?_
              refine x_qe (q_fa rfl Tryz.runUnderlying134 rfl Tryz.sizeOf2) rfl rfl rfl (by repeat (first | exact List.nil_sublist _ | exact List.Sublist.refl _ | exact List.sublist_append_right _ _ | apply List.Sublist.cons_cons | apply List.Sublist.cons | refine List.Sublist.trans ?_ (List.sublist_append_right _ _))) ?_
              refine x_qe (q_ld rfl Tryz.isAgg2 rfl) rfl rfl rfl (by repeat (first | exact List.nil_sublist _ | exact List.Sublist.refl _ | exact List.sublist_append_right _ _ | apply List.Sublist.cons_cons | apply List.Sublist.cons | refine List.Sublist.trans ?_ (List.sublist_append_right _ _))) ?_
              refine x_qe (q_addw rfl rfl) rfl rfl rfl (by repeat (first | exact List.nil_sublist _ | exact List.Sublist.refl _ | exact List.sublist_append_right _ _ | apply List.Sublist.cons_cons | apply List.Sublist.cons | refine List.Sublist.trans ?_ (List.sublist_append_right _ _))) ?_
              refine x_qe (q_gtr rfl rfl) rfl rfl rfl (by repeat (first | exact List.nil_sublist _ | exact List.Sublist.refl _ | exact List.sublist_append_right _ _ | apply List.Sublist.cons_cons | apply List.Sublist.cons | refine List.Sublist.trans ?_ (List.sublist_append_right _ _))) ?_
              refine x_qe (q_pick rfl rfl) rfl rfl rfl (by repeat (first | exact List.nil_sublist _ | exact List.Sublist.refl _ | exact List.sublist_append_right _ _ | apply List.Sublist.cons_cons | apply List.Sublist.cons | refine List.Sublist.trans ?_ (List.sublist_append_right _ _))) ?_
              refine x_qe (q_pick rfl rfl) rfl rfl rfl (by repeat (first | exact List.nil_sublist _ | exact List.Sublist.refl _ | exact List.sublist_append_right _ _ | apply List.Sublist.cons_cons | apply List.Sublist.cons | refine List.Sublist.trans ?_ (List.sublist_append_right _ _))) ?_
              refine gx_nil ?_
              refine tn ?_
              refine gc_if rfl (fun h27 => ?_) (fun h27 => ?_)
              · refine gc_region ?_
                refine sq (q_mv rfl) rfl rfl ?_
                refine sq (q_mv rfl) rfl rfl ?_
                refine sq (q_lda rfl Tryz.isAgg134 Tryz.sizeOf134 rfl) rfl rfl ?_
                refine sq (q_mv rfl) rfl rfl ?_
                refine sq (q_nc rfl) rfl rfl ?_
                refine sq (q_fa rfl Tryz.runUnderlying207 rfl Tryz.sizeOf134) rfl rfl ?_
                refine s_st (e_st rfl rfl Tryz.sizeOf134 rfl rfl rfl rfl) rfl rfl ?_
                refine sq (q_nc rfl) rfl rfl ?_
                refine sq (q_fa rfl Tryz.runUnderlying207 rfl Tryz.sizeOf3) rfl rfl ?_
                refine s_st (e_st rfl rfl Tryz.sizeOf3 rfl rfl rfl rfl) rfl rfl ?_
                refine go_nil ?_
                refine bn (tn ?_)
                refine gc_region ?_
                refine sq (OpQ.cast (q_addi rfl rfl (by decide)) (rfl : _ = i6 (2))) rfl rfl ?_
                refine sq (q_mv rfl) rfl rfl ?_
                refine go_nil ?_
                refine an_round (gr_succ ?_)
                refine gc_seq ?_
                refine gc_region ?_
                refine sq (q_lss rfl rfl) rfl rfl ?_
                refine go_nil ?_
                refine tn ?_
                refine gc_seq ?_
                refine gc_false rfl ?_
                refine gc_exit ?_
                refine tx (tx (bx (tn ?_)))
                refine gc_seq ?_
                refine gc_region ?_
                refine sq (q_mv rfl) rfl rfl ?_
                refine sq (q_as rfl) rfl rfl ?_
                refine sq (q_as rfl) rfl rfl ?_
                refine go_nil ?_
                refine tn ?_
                refine gc_ret ?_
                refine ret_2 (.inl rfl) rfl rfl rfl ?_
                first | exact open_ok (by rw [openM_ge (by simp_all)]; (first | (simp_all [StoreM.see]; done) | (simp_all [StoreM.see]; (repeat' split) <;> first | rfl | (simp_all; done) | omega | (exfalso; omega)))) (by rw [openM_ge (by simp_all)]; (first | (simp_all [StoreM.see]; done) | (simp_all [StoreM.see]; (repeat' split) <;> first | rfl | (simp_all; done) | omega | (exfalso; omega)))) | exact open_err (by simp_all) (by rw [openM_ge (by simp_all)]; (first | (simp_all [StoreM.see]; done) | (simp_all [StoreM.see]; (repeat' split) <;> first | rfl | (simp_all; done) | omega | (exfalso; omega)))) | exact open_err (o := some 0) rfl (by simp_all [openM])
              · refine gc_skip ?_
                refine bn (tn ?_)
                refine gc_region ?_
                refine sq (OpQ.cast (q_addi rfl rfl (by decide)) (rfl : _ = i6 (2))) rfl rfl ?_
                refine sq (q_mv rfl) rfl rfl ?_
                refine go_nil ?_
                refine an_round (gr_succ ?_)
                refine gc_seq ?_
                refine gc_region ?_
                refine sq (q_lss rfl rfl) rfl rfl ?_
                refine go_nil ?_
                refine tn ?_
                refine gc_seq ?_
                refine gc_false rfl ?_
                refine gc_exit ?_
                refine tx (tx (bx (tn ?_)))
                refine gc_seq ?_
                refine gc_region ?_
                refine sq (q_mv rfl) rfl rfl ?_
                refine sq (q_as rfl) rfl rfl ?_
                refine sq (q_as rfl) rfl rfl ?_
                refine go_nil ?_
                refine tn ?_
                refine gc_ret ?_
                refine ret_2 (.inl rfl) rfl rfl rfl ?_
                first | exact open_ok (by rw [openM_ge (by simp_all)]; (first | (simp_all [StoreM.see]; done) | (simp_all [StoreM.see]; (repeat' split) <;> first | rfl | (simp_all; done) | omega | (exfalso; omega)))) (by rw [openM_ge (by simp_all)]; (first | (simp_all [StoreM.see]; done) | (simp_all [StoreM.see]; (repeat' split) <;> first | rfl | (simp_all; done) | omega | (exfalso; omega)))) | exact open_err (by simp_all) (by rw [openM_ge (by simp_all)]; (first | (simp_all [StoreM.see]; done) | (simp_all [StoreM.see]; (repeat' split) <;> first | rfl | (simp_all; done) | omega | (exfalso; omega)))) | exact open_err (o := some 0) rfl (by simp_all [openM])
          · refine gx_eskip rfl rfl rfl ?_
            refine gx_eskip rfl rfl rfl ?_
            refine gx_eskip rfl rfl rfl ?_
            refine gx_eskip rfl rfl rfl ?_
            refine gx_eskip rfl rfl rfl ?_
            refine gx_eskip rfl rfl rfl ?_
            refine gx_skip rfl rfl rfl ?_
            refine gx_skip rfl rfl rfl ?_
            refine gx_skip rfl rfl rfl ?_
            refine gx_skip rfl rfl rfl ?_
            refine gx_skip rfl rfl rfl ?_
            refine gx_skip rfl rfl rfl ?_
            refine gx_skip rfl rfl rfl ?_
            refine gx_skip rfl rfl rfl ?_
            refine gx_skip rfl rfl rfl ?_
            refine gx_skip rfl rfl rfl ?_
            refine gx_eskip rfl rfl rfl ?_
            refine gx_eskip rfl rfl rfl ?_
            refine gx_eskip rfl rfl rfl ?_
            refine gx_eskip rfl rfl rfl ?_
            refine gx_eskip rfl rfl rfl ?_
            refine gx_eskip rfl rfl rfl ?_
            refine gx_eskip rfl rfl rfl ?_
            refine gx_eskip rfl rfl rfl ?_
            refine x_qe (q_pick rfl rfl) rfl rfl rfl (by repeat (first | exact List.nil_sublist _ | exact List.Sublist.refl _ | exact List.sublist_append_right _ _ | apply List.Sublist.cons_cons | apply List.Sublist.cons | refine List.Sublist.trans ?_ (List.sublist_append_right _ _))) ?_
            refine gx_nil ?_
            refine tn ?_
            refine gc_false rfl ?_
            refine gc_skip ?_
            refine bn (tn ?_)
            refine gc_region ?_
            refine sq (OpQ.cast (q_addi rfl rfl (by decide)) (rfl : _ = i6 (2))) rfl rfl ?_
            refine sq (q_mv rfl) rfl rfl ?_
            refine go_nil ?_
            refine an_round (gr_succ ?_)
            refine gc_seq ?_
            refine gc_region ?_
            refine sq (q_lss rfl rfl) rfl rfl ?_
            refine go_nil ?_
            refine tn ?_
            refine gc_seq ?_
            refine gc_false rfl ?_
            refine gc_exit ?_
            refine tx (tx (bx (tn ?_)))
            refine gc_seq ?_
            refine gc_region ?_
            refine sq (q_mv rfl) rfl rfl ?_
            refine sq (q_as rfl) rfl rfl ?_
            refine sq (q_as rfl) rfl rfl ?_
            refine go_nil ?_
            refine tn ?_
            refine gc_ret ?_
            refine ret_2 (.inl rfl) rfl rfl rfl ?_
            first | exact open_ok (by rw [openM_ge (by simp_all)]; (first | (simp_all [StoreM.see]; done) | (simp_all [StoreM.see]; (repeat' split) <;> first | rfl | (simp_all; done) | omega | (exfalso; omega)))) (by rw [openM_ge (by simp_all)]; (first | (simp_all [StoreM.see]; done) | (simp_all [StoreM.see]; (repeat' split) <;> first | rfl | (simp_all; done) | omega | (exfalso; omega)))) | exact open_err (by simp_all) (by rw [openM_ge (by simp_all)]; (first | (simp_all [StoreM.see]; done) | (simp_all [StoreM.see]; (repeat' split) <;> first | rfl | (simp_all; done) | omega | (exfalso; omega)))) | exact open_err (o := some 0) rfl (by simp_all [openM])

set_option maxRecDepth 4000 in
set_option maxHeartbeats 2000000 in
theorem sput_spec (sl : Sli) (hok : sl.OK 1) (hl : sl.n ≤ 100) (n : Int) :
    Spec Tryz.prog 118 [sl.v, i6 n] (sl.L 5) [] (fun v L => ∃ s : Sli, s.OK 1 ∧ s.n = sl.n + 6 ∧ s.xs = sl.xs ++ (bytes6 n).map u8v ∧ v = s.v ∧ L = s.L 5) := by
  refine spec_of Tryz.func118 rfl Tryz.ntmps118 (by simp) fun w0 hb => ?_
  refine gc_seq ?_
  refine gc_region ?_
  refine sq (q_as rfl) rfl rfl ?_
  refine go_nil ?_
  refine tn ?_
  refine gc_seq ?_
  refine gc_seq ?_
  refine gc_region ?_
  refine sq (q_mv rfl) rfl rfl ?_
  refine go_nil ?_
  refine tn ?_
  refine gc_block ?_
  refine gc_unroll 7 (gr_succ ?_)
  refine gc_seq ?_
  refine gc_region ?_
  refine sq (q_lss rfl rfl) rfl rfl ?_
  refine go_nil ?_
  refine tn ?_
  refine gc_seq ?_
  refine gc_true rfl ?_
  refine gc_skip ?_
  refine tn ?_
  refine gc_seq ?_
  refine gc_block ?_
  refine gc_seq ?_
  refine gc_region ?_
  refine sq (q_mv rfl) rfl rfl ?_
  refine sq (q_as rfl) rfl rfl ?_
  refine go_nil ?_
  refine tn ?_
  refine gc_region ?_
  refine sq (q_mv rfl) rfl rfl ?_
  refine sq (q_mv rfl) rfl rfl ?_
  refine sq (q_mv rfl) rfl rfl ?_
  refine sq (OpQ.cast (q_subi rfl rfl (by decide)) (rfl : _ = i6 (5))) rfl rfl ?_
  refine sq (OpQ.cast (q_mulw rfl rfl) (by rw [w64_id (by decide)]; rfl : _ = i6 (40))) rfl rfl ?_
  refine sq (OpQ.cast (q_shr rfl rfl (by decide)) (rfl : _ = i6 (n.fdiv (2 ^ 40)))) rfl rfl ?_
  refine sq (q_byte Tryz.runUnderlying2 Tryz.runUnderlying5 rfl) rfl rfl ?_
  refine s_bsl (e_bsl (zl := [.int .u8 0]) rfl Tryz.runUnderlying87 Tryz.sizeOf5 (by decide) (by decide) Tryz.zeroValue5 (by kernel_rfl) rfl) rfl rfl fun b1 => ?_
  refine s_app (e_app (sl := sl) rfl hok rfl rfl (by simp [Value.oneCell']) Tryz.underlying87 ei5 (by first | omega | (simp only [maxLen]; omega) | (simp only [maxLen, Sli.none]; omega) | (simp only [Sli.none]; omega)) (by first | omega | (simp only [maxLen]; omega) | (simp only [maxLen, Sli.none]; omega) | (simp only [Sli.none]; omega))) rfl rfl fun s2 hok2 hn2 hx2 => ?_
  refine sq (q_as rfl) rfl rfl ?_
  refine go_nil ?_
  refine bn (tn ?_)
  refine gc_region ?_
  refine sq (OpQ.cast (q_addi rfl rfl (by decide)) (rfl : _ = i6 (1))) rfl rfl ?_
  refine sq (q_mv rfl) rfl rfl ?_
  refine go_nil ?_
  refine an_round (gr_succ ?_)
  refine gc_seq ?_
  refine gc_region ?_
  refine sq (q_lss rfl rfl) rfl rfl ?_
  refine go_nil ?_
  refine tn ?_
  refine gc_seq ?_
  refine gc_true rfl ?_
  refine gc_skip ?_
  refine tn ?_
  refine gc_seq ?_
  refine gc_block ?_
  refine gc_seq ?_
  refine gc_region ?_
  refine sq (q_mv rfl) rfl rfl ?_
  refine sq (q_as rfl) rfl rfl ?_
  refine go_nil ?_
  refine tn ?_
  refine gc_region ?_
  refine sq (q_mv rfl) rfl rfl ?_
  refine sq (q_mv rfl) rfl rfl ?_
  refine sq (q_mv rfl) rfl rfl ?_
  refine sq (OpQ.cast (q_subi rfl rfl (by decide)) (rfl : _ = i6 (4))) rfl rfl ?_
  refine sq (OpQ.cast (q_mulw rfl rfl) (by rw [w64_id (by decide)]; rfl : _ = i6 (32))) rfl rfl ?_
  refine sq (OpQ.cast (q_shr rfl rfl (by decide)) (rfl : _ = i6 (n.fdiv (2 ^ 32)))) rfl rfl ?_
  refine sq (q_byte Tryz.runUnderlying2 Tryz.runUnderlying5 rfl) rfl rfl ?_
  refine s_bsl (e_bsl (zl := [.int .u8 0]) rfl Tryz.runUnderlying87 Tryz.sizeOf5 (by decide) (by decide) Tryz.zeroValue5 (by kernel_rfl) rfl) rfl rfl fun b3 => ?_
  refine s_app (e_app (sl := s2) rfl hok2 rfl rfl (by simp [Value.oneCell']) Tryz.underlying87 ei5 (by first | omega | (simp only [maxLen]; omega) | (simp only [maxLen, Sli.none]; omega) | (simp only [Sli.none]; omega)) (by first | omega | (simp only [maxLen]; omega) | (simp only [maxLen, Sli.none]; omega) | (simp only [Sli.none]; omega))) rfl rfl fun s4 hok4 hn4 hx4 => ?_
  refine sq (q_as rfl) rfl rfl ?_
  refine go_nil ?_
  refine bn (tn ?_)
  refine gc_region ?_
  refine sq (OpQ.cast (q_addi rfl rfl (by decide)) (rfl : _ = i6 (2))) rfl rfl ?_
  refine sq (q_mv rfl) rfl rfl ?_
  refine go_nil ?_
  refine an_round (gr_succ ?_)
  refine gc_seq ?_
  refine gc_region ?_
  refine sq (q_lss rfl rfl) rfl rfl ?_
  refine go_nil ?_
  refine tn ?_
  refine gc_seq ?_
  refine gc_true rfl ?_
  refine gc_skip ?_
  refine tn ?_
  refine gc_seq ?_
  refine gc_block ?_
  refine gc_seq ?_
  refine gc_region ?_
  refine sq (q_mv rfl) rfl rfl ?_
  refine sq (q_as rfl) rfl rfl ?_
  refine go_nil ?_
  refine tn ?_
  refine gc_region ?_
  refine sq (q_mv rfl) rfl rfl ?_
  refine sq (q_mv rfl) rfl rfl ?_
  refine sq (q_mv rfl) rfl rfl ?_
  refine sq (OpQ.cast (q_subi rfl rfl (by decide)) (rfl : _ = i6 (3))) rfl rfl ?_
  refine sq (OpQ.cast (q_mulw rfl rfl) (by rw [w64_id (by decide)]; rfl : _ = i6 (24))) rfl rfl ?_
  refine sq (OpQ.cast (q_shr rfl rfl (by decide)) (rfl : _ = i6 (n.fdiv (2 ^ 24)))) rfl rfl ?_
  refine sq (q_byte Tryz.runUnderlying2 Tryz.runUnderlying5 rfl) rfl rfl ?_
  refine s_bsl (e_bsl (zl := [.int .u8 0]) rfl Tryz.runUnderlying87 Tryz.sizeOf5 (by decide) (by decide) Tryz.zeroValue5 (by kernel_rfl) rfl) rfl rfl fun b5 => ?_
  refine s_app (e_app (sl := s4) rfl hok4 rfl rfl (by simp [Value.oneCell']) Tryz.underlying87 ei5 (by first | omega | (simp only [maxLen]; omega) | (simp only [maxLen, Sli.none]; omega) | (simp only [Sli.none]; omega)) (by first | omega | (simp only [maxLen]; omega) | (simp only [maxLen, Sli.none]; omega) | (simp only [Sli.none]; omega))) rfl rfl fun s6 hok6 hn6 hx6 => ?_
  refine sq (q_as rfl) rfl rfl ?_
  refine go_nil ?_
  refine bn (tn ?_)
  refine gc_region ?_
  refine sq (OpQ.cast (q_addi rfl rfl (by decide)) (rfl : _ = i6 (3))) rfl rfl ?_
  refine sq (q_mv rfl) rfl rfl ?_
  refine go_nil ?_
  refine an_round (gr_succ ?_)
  refine gc_seq ?_
  refine gc_region ?_
  refine sq (q_lss rfl rfl) rfl rfl ?_
  refine go_nil ?_
  refine tn ?_
  refine gc_seq ?_
  refine gc_true rfl ?_
  refine gc_skip ?_
  refine tn ?_
  refine gc_seq ?_
  refine gc_block ?_
  refine gc_seq ?_
  refine gc_region ?_
  refine sq (q_mv rfl) rfl rfl ?_
  refine sq (q_as rfl) rfl rfl ?_
  refine go_nil ?_
  refine tn ?_
  refine gc_region ?_
  refine sq (q_mv rfl) rfl rfl ?_
  refine sq (q_mv rfl) rfl rfl ?_
  refine sq (q_mv rfl) rfl rfl ?_
  refine sq (OpQ.cast (q_subi rfl rfl (by decide)) (rfl : _ = i6 (2))) rfl rfl ?_
  refine sq (OpQ.cast (q_mulw rfl rfl) (by rw [w64_id (by decide)]; rfl : _ = i6 (16))) rfl rfl ?_
  refine sq (OpQ.cast (q_shr rfl rfl (by decide)) (rfl : _ = i6 (n.fdiv (2 ^ 16)))) rfl rfl ?_
  refine sq (q_byte Tryz.runUnderlying2 Tryz.runUnderlying5 rfl) rfl rfl ?_
  refine s_bsl (e_bsl (zl := [.int .u8 0]) rfl Tryz.runUnderlying87 Tryz.sizeOf5 (by decide) (by decide) Tryz.zeroValue5 (by kernel_rfl) rfl) rfl rfl fun b7 => ?_
  refine s_app (e_app (sl := s6) rfl hok6 rfl rfl (by simp [Value.oneCell']) Tryz.underlying87 ei5 (by first | omega | (simp only [maxLen]; omega) | (simp only [maxLen, Sli.none]; omega) | (simp only [Sli.none]; omega)) (by first | omega | (simp only [maxLen]; omega) | (simp only [maxLen, Sli.none]; omega) | (simp only [Sli.none]; omega))) rfl rfl fun s8 hok8 hn8 hx8 => ?_
  refine sq (q_as rfl) rfl rfl ?_
  refine go_nil ?_
  refine bn (tn ?_)
  refine gc_region ?_
  refine sq (OpQ.cast (q_addi rfl rfl (by decide)) (rfl : _ = i6 (4))) rfl rfl ?_
  refine sq (q_mv rfl) rfl rfl ?_
  refine go_nil ?_
  refine an_round (gr_succ ?_)
  refine gc_seq ?_
  refine gc_region ?_
  refine sq (q_lss rfl rfl) rfl rfl ?_
  refine go_nil ?_
  refine tn ?_
  refine gc_seq ?_
  refine gc_true rfl ?_
  refine gc_skip ?_
  refine tn ?_
  refine gc_seq ?_
  refine gc_block ?_
  refine gc_seq ?_
  refine gc_region ?_
  refine sq (q_mv rfl) rfl rfl ?_
  refine sq (q_as rfl) rfl rfl ?_
  refine go_nil ?_
  refine tn ?_
  refine gc_region ?_
  refine sq (q_mv rfl) rfl rfl ?_
  refine sq (q_mv rfl) rfl rfl ?_
  refine sq (q_mv rfl) rfl rfl ?_
  refine sq (OpQ.cast (q_subi rfl rfl (by decide)) (rfl : _ = i6 (1))) rfl rfl ?_
  refine sq (OpQ.cast (q_mulw rfl rfl) (by rw [w64_id (by decide)]; rfl : _ = i6 (8))) rfl rfl ?_
  refine sq (OpQ.cast (q_shr rfl rfl (by decide)) (rfl : _ = i6 (n.fdiv (2 ^ 8)))) rfl rfl ?_
  refine sq (q_byte Tryz.runUnderlying2 Tryz.runUnderlying5 rfl) rfl rfl ?_
  refine s_bsl (e_bsl (zl := [.int .u8 0]) rfl Tryz.runUnderlying87 Tryz.sizeOf5 (by decide) (by decide) Tryz.zeroValue5 (by kernel_rfl) rfl) rfl rfl fun b9 => ?_
  refine s_app (e_app (sl := s8) rfl hok8 rfl rfl (by simp [Value.oneCell']) Tryz.underlying87 ei5 (by first | omega | (simp only [maxLen]; omega) | (simp only [maxLen, Sli.none]; omega) | (simp only [Sli.none]; omega)) (by first | omega | (simp only [maxLen]; omega) | (simp only [maxLen, Sli.none]; omega) | (simp only [Sli.none]; omega))) rfl rfl fun s10 hok10 hn10 hx10 => ?_
  refine sq (q_as rfl) rfl rfl ?_
  refine go_nil ?_
  refine bn (tn ?_)
  refine gc_region ?_
  refine sq (OpQ.cast (q_addi rfl rfl (by decide)) (rfl : _ = i6 (5))) rfl rfl ?_
  refine sq (q_mv rfl) rfl rfl ?_
  refine go_nil ?_
  refine an_round (gr_succ ?_)
  refine gc_seq ?_
  refine gc_region ?_
  refine sq (q_lss rfl rfl) rfl rfl ?_
  refine go_nil ?_
  refine tn ?_
  refine gc_seq ?_
  refine gc_true rfl ?_
  refine gc_skip ?_
  refine tn ?_
  refine gc_seq ?_
  refine gc_block ?_
  refine gc_seq ?_
  refine gc_region ?_
  refine sq (q_mv rfl) rfl rfl ?_
  refine sq (q_as rfl) rfl rfl ?_
  refine go_nil ?_
  refine tn ?_
  refine gc_region ?_
  refine sq (q_mv rfl) rfl rfl ?_
  refine sq (q_mv rfl) rfl rfl ?_
  refine sq (q_mv rfl) rfl rfl ?_
  refine sq (OpQ.cast (q_subi rfl rfl (by decide)) (rfl : _ = i6 (0))) rfl rfl ?_
  refine sq (OpQ.cast (q_mulw rfl rfl) (by rw [w64_id (by decide)]; rfl : _ = i6 (0))) rfl rfl ?_
  refine sq (OpQ.cast (q_shr rfl rfl (by decide)) (rfl : _ = i6 (n.fdiv (2 ^ 0)))) rfl rfl ?_
  refine sq (q_byte Tryz.runUnderlying2 Tryz.runUnderlying5 rfl) rfl rfl ?_
  refine s_bsl (e_bsl (zl := [.int .u8 0]) rfl Tryz.runUnderlying87 Tryz.sizeOf5 (by decide) (by decide) Tryz.zeroValue5 (by kernel_rfl) rfl) rfl rfl fun b11 => ?_
  refine s_app (e_app (sl := s10) rfl hok10 rfl rfl (by simp [Value.oneCell']) Tryz.underlying87 ei5 (by first | omega | (simp only [maxLen]; omega) | (simp only [maxLen, Sli.none]; omega) | (simp only [Sli.none]; omega)) (by first | omega | (simp only [maxLen]; omega) | (simp only [maxLen, Sli.none]; omega) | (simp only [Sli.none]; omega))) rfl rfl fun s12 hok12 hn12 hx12 => ?_
  refine sq (q_as rfl) rfl rfl ?_
  refine go_nil ?_
  refine bn (tn ?_)
  refine gc_region ?_
  refine sq (OpQ.cast (q_addi rfl rfl (by decide)) (rfl : _ = i6 (6))) rfl rfl ?_
  refine sq (q_mv rfl) rfl rfl ?_
  refine go_nil ?_
  refine an_round (gr_succ ?_)
  refine gc_seq ?_
  refine gc_region ?_
  refine sq (q_lss rfl rfl) rfl rfl ?_
  refine go_nil ?_
  refine tn ?_
  refine gc_seq ?_
  refine gc_false rfl ?_
  refine gc_exit ?_
  refine tx (tx (bx (tn ?_)))
  refine gc_seq ?_
  refine gc_region ?_
  refine sq (q_mv rfl) rfl rfl ?_
  refine sq (q_as rfl) rfl rfl ?_
  refine go_nil ?_
  refine tn ?_
  refine gc_ret ?_
  refine ret_1 (.inl rfl) rfl rfl ?_
  exact rsY (A := Sli.L 5 s12) [] ⟨s12, hok12, by omega, by simp [bytes6, *], rfl, rfl⟩

set_option maxRecDepth 4000 in
set_option maxHeartbeats 2000000 in
theorem bad_spec (ε : Nat → Nat × Value) (b s : Nat) (st : StoreM) (r : Rec) :
    Spec Tryz.prog 117 [pt s, r.v] [] ((s, StoreM.o 207 b st) :: ro ε) (fun v L => v = ev ε (badM st r) ∧ L = []) := by
  refine spec_of Tryz.func117 rfl Tryz.ntmps117 (by simp) fun w0 hb => ?_
  refine gc_seq ?_
  refine gc_region ?_
  refine s_new (e_box rfl rfl) rfl rfl fun b1 => ?_
  refine sq (q_as rfl) rfl rfl ?_
  refine go_nil ?_
  refine tn ?_
  refine gc_seq ?_
  refine gc_block ?_
  refine gc_seq ?_
  refine gc_region ?_
  refine sq (q_fa rfl Tryz.runUnderlying134 rfl Tryz.sizeOf2) rfl rfl ?_
  refine sq (q_ld rfl Tryz.isAgg2 rfl) rfl rfl ?_
  refine sq (q_lss rfl rfl) rfl rfl ?_
  refine sq (q_mv rfl) rfl rfl ?_
  refine bsp (fun h2 => ?_) (fun h2 => ?_)
  · refine sskip rfl rfl ?_
    refine sskip rfl rfl ?_
    refine sskip rfl rfl ?_
    refine sq (q_pick rfl rfl) rfl rfl ?_
    refine sq (q_mv rfl) rfl rfl ?_
    refine sskip rfl rfl ?_
    refine sskip rfl rfl ?_
    refine sskip rfl rfl ?_
    refine sq (q_pick rfl rfl) rfl rfl ?_
    refine sq (q_mv rfl) rfl rfl ?_
    refine sskip rfl rfl ?_
    refine sskip rfl rfl ?_
    refine sskip rfl rfl ?_
    refine sq (q_pick rfl rfl) rfl rfl ?_
    refine sq (q_as rfl) rfl rfl ?_
    refine go_nil ?_
    refine tn ?_
    refine gc_true rfl ?_
    refine gc_seq ?_
    refine gc_region ?_
    refine sq (q_ld rfl Tryz.isAgg47 rfl) rfl rfl ?_
    refine sq (q_as rfl) rfl rfl ?_
    refine go_nil ?_
    refine tn ?_
    refine gc_ret ?_
    refine br (tr ?_)
    refine ret_1 (.inl rfl) rfl rfl ?_
    exact rsE (by first | rfl | (simp_all [badM]; done) | (simp_all [badM]; rfl) | (simp_all [badM]; omega) | (simp_all [badM]; intros; omega) | (simp_all [badM]; (repeat' split) <;> first | rfl | (simp_all; done) | omega | (exfalso; omega)) | (simp only [badM]; (repeat' split) <;> first | (simp_all; done) | (simp_all; omega) | omega | (exfalso; simp_all; omega)) | (simp_all; (simp only [badM]; (repeat' split) <;> first | (simp_all; done) | (simp_all; omega) | omega | (exfalso; simp_all; omega))))
  · refine sq (q_fa rfl Tryz.runUnderlying134 rfl Tryz.sizeOf2) rfl rfl ?_
    refine sq (q_ld rfl Tryz.isAgg2 rfl) rfl rfl ?_
    refine sq (q_gtr rfl rfl) rfl rfl ?_
    refine sq (q_pick rfl rfl) rfl rfl ?_
    refine sq (q_mv rfl) rfl rfl ?_
    refine bsp (fun h3 => ?_) (fun h3 => ?_)
    · refine sskip rfl rfl ?_
      refine sskip rfl rfl ?_
      refine sskip rfl rfl ?_
      refine sq (q_pick rfl rfl) rfl rfl ?_
      refine sq (q_mv rfl) rfl rfl ?_
      refine sskip rfl rfl ?_
      refine sskip rfl rfl ?_
      refine sskip rfl rfl ?_
      refine sq (q_pick rfl rfl) rfl rfl ?_
      refine sq (q_as rfl) rfl rfl ?_
      refine go_nil ?_
      refine tn ?_
      refine gc_true rfl ?_
      refine gc_seq ?_
      refine gc_region ?_
      refine sq (q_ld rfl Tryz.isAgg47 rfl) rfl rfl ?_
      refine sq (q_as rfl) rfl rfl ?_
      refine go_nil ?_
      refine tn ?_
      refine gc_ret ?_
      refine br (tr ?_)
      refine ret_1 (.inl rfl) rfl rfl ?_
      exact rsE (by first | rfl | (simp_all [badM]; done) | (simp_all [badM]; rfl) | (simp_all [badM]; omega) | (simp_all [badM]; intros; omega) | (simp_all [badM]; (repeat' split) <;> first | rfl | (simp_all; done) | omega | (exfalso; omega)) | (simp only [badM]; (repeat' split) <;> first | (simp_all; done) | (simp_all; omega) | omega | (exfalso; simp_all; omega)) | (simp_all; (simp only [badM]; (repeat' split) <;> first | (simp_all; done) | (simp_all; omega) | omega | (exfalso; simp_all; omega))))
    · refine sq (q_fa rfl Tryz.runUnderlying134 rfl Tryz.sizeOf2) rfl rfl ?_
      refine sq (q_ld rfl Tryz.isAgg2 rfl) rfl rfl ?_
      refine sq (q_lss rfl rfl) rfl rfl ?_
      refine sq (q_pick rfl rfl) rfl rfl ?_
      refine sq (q_mv rfl) rfl rfl ?_
      refine bsp (fun h4 => ?_) (fun h4 => ?_)
      · refine sskip rfl rfl ?_
        refine sskip rfl rfl ?_
        refine sskip rfl rfl ?_
        refine sq (q_pick rfl rfl) rfl rfl ?_
        refine sq (q_as rfl) rfl rfl ?_
        refine go_nil ?_
        refine tn ?_
        refine gc_true rfl ?_
        refine gc_seq ?_
        refine gc_region ?_
        refine sq (q_ld rfl Tryz.isAgg47 rfl) rfl rfl ?_
        refine sq (q_as rfl) rfl rfl ?_
        refine go_nil ?_
        refine tn ?_
        refine gc_ret ?_
        refine br (tr ?_)
        refine ret_1 (.inl rfl) rfl rfl ?_
        exact rsE (by first | rfl | (simp_all [badM]; done) | (simp_all [badM]; rfl) | (simp_all [badM]; omega) | (simp_all [badM]; intros; omega) | (simp_all [badM]; (repeat' split) <;> first | rfl | (simp_all; done) | omega | (exfalso; omega)) | (simp only [badM]; (repeat' split) <;> first | (simp_all; done) | (simp_all; omega) | omega | (exfalso; simp_all; omega)) | (simp_all; (simp only [badM]; (repeat' split) <;> first | (simp_all; done) | (simp_all; omega) | omega | (exfalso; simp_all; omega))))
      · refine sq (q_fa rfl Tryz.runUnderlying134 rfl Tryz.sizeOf2) rfl rfl ?_
        refine sq (q_ld rfl Tryz.isAgg2 rfl) rfl rfl ?_
        refine sq (q_gtr rfl rfl) rfl rfl ?_
        refine sq (q_pick rfl rfl) rfl rfl ?_
        refine sq (q_as rfl) rfl rfl ?_
        refine go_nil ?_
        refine tn ?_
        refine gc_if rfl (fun h5 => ?_) (fun h5 => ?_)
        · refine gc_seq ?_
          refine gc_region ?_
          refine sq (q_ld rfl Tryz.isAgg47 rfl) rfl rfl ?_
          refine sq (q_as rfl) rfl rfl ?_
          refine go_nil ?_
          refine tn ?_
          refine gc_ret ?_
          refine br (tr ?_)
          refine ret_1 (.inl rfl) rfl rfl ?_
          exact rsE (by first | rfl | (simp_all [badM]; done) | (simp_all [badM]; rfl) | (simp_all [badM]; omega) | (simp_all [badM]; intros; omega) | (simp_all [badM]; (repeat' split) <;> first | rfl | (simp_all; done) | omega | (exfalso; omega)) | (simp only [badM]; (repeat' split) <;> first | (simp_all; done) | (simp_all; omega) | omega | (exfalso; simp_all; omega)) | (simp_all; (simp only [badM]; (repeat' split) <;> first | (simp_all; done) | (simp_all; omega) | omega | (exfalso; simp_all; omega))))
        · refine gc_seq ?_
          refine gc_draw (ord := [(0, true), (1, true), (2, false), (3, false), (4, false), (5, false), (6, false), (7, false), (8, false), (9, true), (10, true), (11, false), (12, false), (13, false), (14, false), (15, false), (16, false), (17, false), (18, false), (19, true), (20, false), (21, false), (22, false), (23, false), (24, false), (25, false), (26, false)]) [] mixed (by kernel_rfl) rfl (by kernel_rfl) (.cons_cons _ (.slnil)) ?_
          refine gx_q (q_fa rfl Tryz.runUnderlying134 rfl Tryz.sizeOf2) rfl rfl rfl ?_
          refine gx_q (q_ld rfl Tryz.isAgg2 rfl) rfl rfl rfl ?_
          refine x_qe (q_mv rfl) rfl rfl rfl (by repeat (first | exact List.nil_sublist _ | exact List.Sublist.refl _ | exact List.sublist_append_right _ _ | apply List.Sublist.cons_cons | apply List.Sublist.cons | refine List.Sublist.trans ?_ (List.sublist_append_right _ _))) ?_
          refine x_qe (q_nc rfl) rfl rfl rfl (by repeat (first | exact List.nil_sublist _ | exact List.Sublist.refl _ | exact List.sublist_append_right _ _ | apply List.Sublist.cons_cons | apply List.Sublist.cons | refine List.Sublist.trans ?_ (List.sublist_append_right _ _))) ?_
          refine x_qe (q_fa rfl Tryz.runUnderlying207 rfl Tryz.sizeOf134) rfl rfl rfl (by repeat (first | exact List.nil_sublist _ | exact List.Sublist.refl _ | exact List.sublist_append_right _ _ | apply List.Sublist.cons_cons | apply List.Sublist.cons | refine List.Sublist.trans ?_ (List.sublist_append_right _ _))) ?_
          refine x_qe (q_fa rfl Tryz.runUnderlying134 rfl Tryz.sizeOf2) rfl rfl rfl (by repeat (first | exact List.nil_sublist _ | exact List.Sublist.refl _ | exact List.sublist_append_right _ _ | apply List.Sublist.cons_cons | apply List.Sublist.cons | refine List.Sublist.trans ?_ (List.sublist_append_right _ _))) ?_
          refine x_qe (q_ld rfl Tryz.isAgg2 rfl) rfl rfl rfl (by repeat (first | exact List.nil_sublist _ | exact List.Sublist.refl _ | exact List.sublist_append_right _ _ | apply List.Sublist.cons_cons | apply List.Sublist.cons | refine List.Sublist.trans ?_ (List.sublist_append_right _ _))) ?_
          refine x_qe (q_lss rfl rfl) rfl rfl rfl (by repeat (first | exact List.nil_sublist _ | exact List.Sublist.refl _ | exact List.sublist_append_right _ _ | apply List.Sublist.cons_cons | apply List.Sublist.cons | refine List.Sublist.trans ?_ (List.sublist_append_right _ _))) ?_
          refine x_qe (q_mv rfl) rfl rfl rfl (by repeat (first | exact List.nil_sublist _ | exact List.Sublist.refl _ | exact List.sublist_append_right _ _ | apply List.Sublist.cons_cons | apply List.Sublist.cons | refine List.Sublist.trans ?_ (List.sublist_append_right _ _))) ?_
          refine xsp (fun h6 => ?_) (fun h6 => ?_)
          · refine gx_skip rfl rfl rfl ?_
            refine gx_skip rfl rfl rfl ?_
            refine gx_eskip rfl rfl rfl ?_
            refine gx_eskip rfl rfl rfl ?_
            refine gx_eskip rfl rfl rfl ?_
            refine gx_eskip rfl rfl rfl ?_
            refine gx_eskip rfl rfl rfl ?_
            refine gx_eskip rfl rfl rfl ?_
            refine x_qe (q_pick rfl rfl) rfl rfl rfl (by repeat (first | exact List.nil_sublist _ | exact List.Sublist.refl _ | exact List.sublist_append_right _ _ | apply List.Sublist.cons_cons | apply List.Sublist.cons | refine List.Sublist.trans ?_ (List.sublist_append_right _ _))) ?_
            refine x_qe (q_mv rfl) rfl rfl rfl (by repeat (first | exact List.nil_sublist _ | exact List.Sublist.refl _ | exact List.sublist_append_right _ _ | apply List.Sublist.cons_cons | apply List.Sublist.cons | refine List.Sublist.trans ?_ (List.sublist_append_right _ _))) ?_
            refine gx_skip rfl rfl rfl ?_
            refine gx_eskip rfl rfl rfl ?_
            refine gx_eskip rfl rfl rfl ?_
            refine gx_eskip rfl rfl rfl ?_
            refine gx_eskip rfl rfl rfl ?_
            refine gx_eskip rfl rfl rfl ?_
            refine x_qe (q_pick rfl rfl) rfl rfl rfl (by repeat (first | exact List.nil_sublist _ | exact List.Sublist.refl _ | exact List.sublist_append_right _ _ | apply List.Sublist.cons_cons | apply List.Sublist.cons | refine List.Sublist.trans ?_ (List.sublist_append_right _ _))) ?_
            refine x_qe (q_as rfl) rfl rfl rfl (by repeat (first | exact List.nil_sublist _ | exact List.Sublist.refl _ | exact List.sublist_append_right _ _ | apply List.Sublist.cons_cons | apply List.Sublist.cons | refine List.Sublist.trans ?_ (List.sublist_append_right _ _))) ?_
            refine gx_nil ?_
            refine tn ?_
            refine gc_true rfl ?_
            refine gc_seq ?_
            refine gc_region ?_
            refine sq (q_ld rfl Tryz.isAgg47 rfl) rfl rfl ?_
            refine sq (q_as rfl) rfl rfl ?_
            refine go_nil ?_
            refine tn ?_
            refine gc_ret ?_
            refine br (tr ?_)
            refine ret_1 (.inl rfl) rfl rfl ?_
            exact rsE (by first | rfl | (simp_all [badM]; done) | (simp_all [badM]; rfl) | (simp_all [badM]; omega) | (simp_all [badM]; intros; omega) | (simp_all [badM]; (repeat' split) <;> first | rfl | (simp_all; done) | omega | (exfalso; omega)) | (simp only [badM]; (repeat' split) <;> first | (simp_all; done) | (simp_all; omega) | omega | (exfalso; simp_all; omega)) | (simp_all; (simp only [badM]; (repeat' split) <;> first | (simp_all; done) | (simp_all; omega) | omega | (exfalso; simp_all; omega))))
          · refine gx_q (q_fa rfl Tryz.runUnderlying134 rfl Tryz.sizeOf2) rfl rfl rfl ?_
            refine gx_q (q_ld rfl Tryz.isAgg2 rfl) rfl rfl rfl ?_
            refine x_qe (q_mv rfl) rfl rfl rfl (by repeat (first | exact List.nil_sublist _ | exact List.Sublist.refl _ | exact List.sublist_append_right _ _ | apply List.Sublist.cons_cons | apply List.Sublist.cons | refine List.Sublist.trans ?_ (List.sublist_append_right _ _))) ?_
            refine x_qe (q_nc rfl) rfl rfl rfl (by repeat (first | exact List.nil_sublist _ | exact List.Sublist.refl _ | exact List.sublist_append_right _ _ | apply List.Sublist.cons_cons | apply List.Sublist.cons | refine List.Sublist.trans ?_ (List.sublist_append_right _ _))) ?_
            refine x_qe (q_fa rfl Tryz.runUnderlying207 rfl Tryz.sizeOf134) rfl rfl rfl (by repeat (first | exact List.nil_sublist _ | exact List.Sublist.refl _ | exact List.sublist_append_right _ _ | apply List.Sublist.cons_cons | apply List.Sublist.cons | refine List.Sublist.trans ?_ (List.sublist_append_right _ _))) ?_
            refine x_qe (q_fa rfl Tryz.runUnderlying134 rfl Tryz.sizeOf2) rfl rfl rfl (by repeat (first | exact List.nil_sublist _ | exact List.Sublist.refl _ | exact List.sublist_append_right _ _ | apply List.Sublist.cons_cons | apply List.Sublist.cons | refine List.Sublist.trans ?_ (List.sublist_append_right _ _))) ?_
            refine x_qe (q_ld rfl Tryz.isAgg2 rfl) rfl rfl rfl (by repeat (first | exact List.nil_sublist _ | exact List.Sublist.refl _ | exact List.sublist_append_right _ _ | apply List.Sublist.cons_cons | apply List.Sublist.cons | refine List.Sublist.trans ?_ (List.sublist_append_right _ _))) ?_
            refine x_qe (q_lss rfl rfl) rfl rfl rfl (by repeat (first | exact List.nil_sublist _ | exact List.Sublist.refl _ | exact List.sublist_append_right _ _ | apply List.Sublist.cons_cons | apply List.Sublist.cons | refine List.Sublist.trans ?_ (List.sublist_append_right _ _))) ?_
            refine x_qe (q_pick rfl rfl) rfl rfl rfl (by repeat (first | exact List.nil_sublist _ | exact List.Sublist.refl _ | exact List.sublist_append_right _ _ | apply List.Sublist.cons_cons | apply List.Sublist.cons | refine List.Sublist.trans ?_ (List.sublist_append_right _ _))) ?_
            refine x_qe (q_mv rfl) rfl rfl rfl (by repeat (first | exact List.nil_sublist _ | exact List.Sublist.refl _ | exact List.sublist_append_right _ _ | apply List.Sublist.cons_cons | apply List.Sublist.cons | refine List.Sublist.trans ?_ (List.sublist_append_right _ _))) ?_
            refine xsp (fun h7 => ?_) (fun h7 => ?_)
            · refine gx_skip rfl rfl rfl ?_
              refine gx_eskip rfl rfl rfl ?_
              refine gx_eskip rfl rfl rfl ?_
              refine gx_eskip rfl rfl rfl ?_
              refine gx_eskip rfl rfl rfl ?_
              refine gx_eskip rfl rfl rfl ?_
              refine x_qe (q_pick rfl rfl) rfl rfl rfl (by repeat (first | exact List.nil_sublist _ | exact List.Sublist.refl _ | exact List.sublist_append_right _ _ | apply List.Sublist.cons_cons | apply List.Sublist.cons | refine List.Sublist.trans ?_ (List.sublist_append_right _ _))) ?_
              refine x_qe (q_as rfl) rfl rfl rfl (by repeat (first | exact List.nil_sublist _ | exact List.Sublist.refl _ | exact List.sublist_append_right _ _ | apply List.Sublist.cons_cons | apply List.Sublist.cons | refine List.Sublist.trans ?_ (List.sublist_append_right _ _))) ?_
              refine gx_nil ?_
              refine tn ?_
              refine gc_true rfl ?_
              refine gc_seq ?_
              refine gc_region ?_
              refine sq (q_ld rfl Tryz.isAgg47 rfl) rfl rfl ?_
              refine sq (q_as rfl) rfl rfl ?_
              refine go_nil ?_
              refine tn ?_
              refine gc_ret ?_
              refine br (tr ?_)
              refine ret_1 (.inl rfl) rfl rfl ?_
              exact rsE (by first | rfl | (simp_all [badM]; done) | (simp_all [badM]; rfl) | (simp_all [badM]; omega) | (simp_all [badM]; intros; omega) | (simp_all [badM]; (repeat' split) <;> first | rfl | (simp_all; done) | omega | (exfalso; omega)) | (simp only [badM]; (repeat' split) <;> first | (simp_all; done) | (simp_all; omega) | omega | (exfalso; simp_all; omega)) | (simp_all; (simp only [badM]; (repeat' split) <;> first | (simp_all; done) | (simp_all; omega) | omega | (exfalso; simp_all; omega))))
            · refine gx_q (q_lda rfl Tryz.isAgg134 Tryz.sizeOf134 rfl) rfl rfl rfl ?_
              refine x_qe (q_mv rfl) rfl rfl rfl (by repeat (first | exact List.nil_sublist _ | exact List.Sublist.refl _ | exact List.sublist_append_right _ _ | apply List.Sublist.cons_cons | apply List.Sublist.cons | refine List.Sublist.trans ?_ (List.sublist_append_right _ _))) ?_
              refine x_qe (q_nc rfl) rfl rfl rfl (by repeat (first | exact List.nil_sublist _ | exact List.Sublist.refl _ | exact List.sublist_append_right _ _ | apply List.Sublist.cons_cons | apply List.Sublist.cons | refine List.Sublist.trans ?_ (List.sublist_append_right _ _))) ?_
              refine x_qe (q_fa rfl Tryz.runUnderlying207 rfl Tryz.sizeOf134) rfl rfl rfl (by repeat (first | exact List.nil_sublist _ | exact List.Sublist.refl _ | exact List.sublist_append_right _ _ | apply List.Sublist.cons_cons | apply List.Sublist.cons | refine List.Sublist.trans ?_ (List.sublist_append_right _ _))) ?_
              refine x_qe (q_lda rfl Tryz.isAgg134 Tryz.sizeOf134 rfl) rfl rfl rfl (by repeat (first | exact List.nil_sublist _ | exact List.Sublist.refl _ | exact List.sublist_append_right _ _ | apply List.Sublist.cons_cons | apply List.Sublist.cons | refine List.Sublist.trans ?_ (List.sublist_append_right _ _))) ?_
              refine x_qe (q_seql rfl rfl eg134 (sq134 _ _ _ _)) rfl rfl rfl (by repeat (first | exact List.nil_sublist _ | exact List.Sublist.refl _ | exact List.sublist_append_right _ _ | apply List.Sublist.cons_cons | apply List.Sublist.cons | refine List.Sublist.trans ?_ (List.sublist_append_right _ _))) ?_
              refine x_qe (q_pick rfl rfl) rfl rfl rfl (by repeat (first | exact List.nil_sublist _ | exact List.Sublist.refl _ | exact List.sublist_append_right _ _ | apply List.Sublist.cons_cons | apply List.Sublist.cons | refine List.Sublist.trans ?_ (List.sublist_append_right _ _))) ?_
              refine x_qe (q_as rfl) rfl rfl rfl (by repeat (first | exact List.nil_sublist _ | exact List.Sublist.refl _ | exact List.sublist_append_right _ _ | apply List.Sublist.cons_cons | apply List.Sublist.cons | refine List.Sublist.trans ?_ (List.sublist_append_right _ _))) ?_
              refine gx_nil ?_
              refine tn ?_
              refine gc_if rfl (fun h8 => ?_) (fun h8 => ?_)
              · refine gc_seq ?_
                refine gc_region ?_
                refine sq (q_ld rfl Tryz.isAgg47 rfl) rfl rfl ?_
                refine sq (q_as rfl) rfl rfl ?_
                refine go_nil ?_
                refine tn ?_
                refine gc_ret ?_
                refine br (tr ?_)
                refine ret_1 (.inl rfl) rfl rfl ?_
                exact rsE (by first | rfl | (simp_all [badM]; done) | (simp_all [badM]; rfl) | (simp_all [badM]; omega) | (simp_all [badM]; intros; omega) | (simp_all [badM]; (repeat' split) <;> first | rfl | (simp_all; done) | omega | (exfalso; omega)) | (simp only [badM]; (repeat' split) <;> first | (simp_all; done) | (simp_all; omega) | omega | (exfalso; simp_all; omega)) | (simp_all; (simp only [badM]; (repeat' split) <;> first | (simp_all; done) | (simp_all; omega) | omega | (exfalso; simp_all; omega))))
              · refine gc_skip ?_
                refine bn (tn ?_)
                refine gc_seq ?_
                refine gc_region ?_
                refine sq (q_as rfl) rfl rfl ?_
                refine go_nil ?_
                refine tn ?_
                refine gc_ret ?_
                refine ret_1 (.inl rfl) rfl rfl ?_
                exact rsE (by first | rfl | (simp_all [badM]; done) | (simp_all [badM]; rfl) | (simp_all [badM]; omega) | (simp_all [badM]; intros; omega) | (simp_all [badM]; (repeat' split) <;> first | rfl | (simp_all; done) | omega | (exfalso; omega)) | (simp only [badM]; (repeat' split) <;> first | (simp_all; done) | (simp_all; omega) | omega | (exfalso; simp_all; omega)) | (simp_all; (simp only [badM]; (repeat' split) <;> first | (simp_all; done) | (simp_all; omega) | omega | (exfalso; simp_all; omega))))
end Go.LL
