/- Part of a claim: contracts of the program's functions, walked op by op. -/
import Derived.Test.YthabegpfnfbmaaaGreatDoorA22
set_option linter.unusedSimpArgs false
set_option linter.unusedVariables false
namespace Go.LL
open Go.Proofs
def numM (n k : Int) : Int := n % k
theorem numM_b (n : Int) {k : Int} (h : 0 < k) : 0 ≤ numM n k ∧ numM n k < k := ⟨Int.emod_nonneg _ (by omega), Int.emod_lt_of_pos _ h⟩
theorem num_neg {n k : Int} (h : 0 < k) (hk : k ≤ 1000000) (hn : n.tmod k < 0) : w64 (n.tmod k + k) = numM n k := by
  have e := Int.tmod_eq_emod (a := n) (b := k)
  have h1 := Int.emod_nonneg n (show k ≠ 0 by omega)
  have h2 := Int.emod_lt_of_pos n h
  unfold numM
  split at e
  · omega
  · rw [w64_id (by omega)]; omega
theorem num_pos {n k : Int} (h : 0 < k) (hn : ¬ n.tmod k < 0) : n.tmod k = numM n k := by
  have e := Int.tmod_eq_emod (a := n) (b := k)
  have h1 := Int.emod_nonneg n (show k ≠ 0 by omega)
  have h2 := Int.emod_lt_of_pos n h
  unfold numM
  split at e <;> omega
theorem compact_pos {l : List Int} (h : 0 < l.length) : 0 < (Lib.compact l).length := by
  unfold Lib.compact Lib.compactUpTo
  rw [List.length_map]
  exact List.length_pos_of_mem (a := 0) (List.mem_filter.2 ⟨List.mem_range.2 h, Lib.keeps_lt_one _ 0 (by omega)⟩)
theorem compact_le (l : List Int) : (Lib.compact l).length ≤ l.length := by
  unfold Lib.compact Lib.compactUpTo
  rw [List.length_map]
  refine Nat.le_trans (List.length_filter_le _ _) ?_
  simp
theorem setL_pos {l : List Int} (h : 0 < l.length) : 0 < (setL l).length := compact_pos (by rw [sortL_len]; exact h)
theorem setL_le (l : List Int) : (setL l).length ≤ l.length := Nat.le_trans (compact_le _) (by rw [sortL_len]; exact Nat.le_refl _)
theorem carStart_ok {h : House} {pos : Int} (hk : h.ok = true) (hp : 0 ≤ pos ∧ pos ≤ top h) : (carStart h pos).2 = true := by
  unfold carStart
  rw [if_neg (by rw [hk]; simp; omega)]
abbrev c0 : CellM := ⟨List.replicate 26 0, 0, false, 0⟩
theorem c0_OK : c0.OK := fun x hx => by have := List.eq_of_mem_replicate hx; omega
theorem c0_open : (openM c0 26).2 = none := by kernel_rfl
theorem c0_life : w64 ((openM c0 26).1.life + 1) = 1 := by kernel_rfl
theorem c0_gate : max (openM c0 26).1.count 0 = 0 := by kernel_rfl
theorem c0_save : (newSave c0 26).2.2 = none := by kernel_rfl
theorem c0_st : (newSave c0 26).2.1 = ⟨0, 1, 0⟩ := by kernel_rfl
abbrev nm0 (h : House) (id pos : Int) : NodeM := ⟨h, id, 1, (carStart h pos).1, .slice none 0 0, noIns, false, false, 0, 0⟩
abbrev newL (h : House) (id pos : Int) (np : Nat) (p : NodeP) (b q r g l : Nat) : List Chunk := [(np, NodeM.o 129 p (nm0 h id pos)), (p.s, StoreM.o 207 b ⟨0, 1, 0⟩), (b, CellM.o 146 q 26 (newSave c0 26).1), (q, CellM.bo 5 (newSave c0 26).1), (p.g, GateM.o 205 ⟨⟨0, 0⟩, 0, 0⟩), (p.c, .cells #[.map none] 158 (0, 0)), (p.l, Tab.o 163 Tab.new), (r, .cells #[i6 h.floors, .map (some g), .map (some l)] 149 (0, 0)), (g, .map #[] 0), (l, .map #[] 0)]


set_option maxRecDepth 4000 in
set_option maxHeartbeats 2000000 in
theorem numW_spec (n k : Int) (h : 0 < k) (hk : k ≤ 1000000) :
    Spec Tryz.prog 9 [i6 n, i6 k] [] [] (fun v L => v = i6 (numM n k) ∧ L = []) := by
  refine spec_of Tryz.func9 rfl Tryz.ntmps9 (by simp) fun w0 hb => ?_
  refine gc_seq ?_
  refine gc_region ?_
  refine sq (q_as rfl) rfl rfl ?_
  refine go_nil ?_
  refine tn ?_
  refine gc_seq ?_
  refine gc_region ?_
  refine sq (q_mv rfl) rfl rfl ?_
  refine sq (q_mv rfl) rfl rfl ?_
  refine sq (q_rem rfl rfl (by omega)) rfl rfl ?_
  refine sq (q_as rfl) rfl rfl ?_
  refine go_nil ?_
  refine tn ?_
  refine gc_seq ?_
  refine gc_seq ?_
  refine gc_region ?_
  refine sq (q_mv rfl) rfl rfl ?_
  refine sq (q_lss rfl rfl) rfl rfl ?_
  refine go_nil ?_
  refine tn ?_
  refine gc_if rfl (fun h1 => ?_) (fun h1 => ?_)
  · refine gc_region ?_
    refine sq (q_mv rfl) rfl rfl ?_
    refine sq (q_mv rfl) rfl rfl ?_
    refine sq (q_addw rfl rfl) rfl rfl ?_
    refine sq (q_as rfl) rfl rfl ?_
    refine go_nil ?_
    refine tn ?_
    refine gc_seq ?_
    refine gc_region ?_
    refine sq (q_mv rfl) rfl rfl ?_
    refine sq (q_as rfl) rfl rfl ?_
    refine go_nil ?_
    refine tn ?_
    refine gc_ret ?_
    refine ret_1 (.inl rfl) rfl rfl ?_
    first | exact rsE (by rw [num_neg h hk (by simp_all)]) | exact rsE (by rw [num_pos h (by simp_all)])
  · refine gc_skip ?_
    refine tn ?_
    refine gc_seq ?_
    refine gc_region ?_
    refine sq (q_mv rfl) rfl rfl ?_
    refine sq (q_as rfl) rfl rfl ?_
    refine go_nil ?_
    refine tn ?_
    refine gc_ret ?_
    refine ret_1 (.inl rfl) rfl rfl ?_
    first | exact rsE (by rw [num_neg h hk (by simp_all)]) | exact rsE (by rw [num_pos h (by simp_all)])

set_option maxRecDepth 4000 in
set_option maxHeartbeats 2000000 in
theorem made_spec (ε : Nat → Nat × Value) (h : House) (id pos : Int) (hk : h.ok = true) (hp : 0 ≤ pos ∧ pos ≤ top h) (hi : 0 ≤ id ∧ id < h.cars) :
    Spec Tryz.prog 10 [h.v, i6 id, i6 pos] [] (ro ε) (fun v L => ∃ np p b q r g l, v = .tuple #[pt np, pt r] ∧ L = newL h id pos np p b q r g l) := by
  have hkb := House.ok_b hk
  refine spec_of Tryz.func10 rfl Tryz.ntmps10 (by simp) fun w0 hb => ?_
  refine gc_seq ?_
  refine gc_region ?_
  refine s_new (e_box rfl rfl) rfl rfl fun b1 => ?_
  refine sq (q_as rfl) rfl rfl ?_
  refine sq (q_as rfl) rfl rfl ?_
  refine go_nil ?_
  refine tn ?_
  refine gc_seq ?_
  refine gc_region ?_
  refine s_call (e_call (cnew_spec) rfl en14) rfl rfl ?_
  rintro _ _ ⟨cb, cq, rfl, rfl⟩
  refine app2 ?_
  refine sq (q_mv rfl) rfl rfl ?_
  refine sq (q_ext rfl rfl) rfl rfl ?_
  refine sq (q_ext rfl rfl) rfl rfl ?_
  refine sq (q_as rfl) rfl rfl ?_
  refine sq (q_as rfl) rfl rfl ?_
  refine go_nil ?_
  refine tn ?_
  refine gc_seq ?_
  refine gc_region ?_
  refine sq (q_fa rfl Tryz.runUnderlying29 rfl Tryz.sizeOf3) rfl rfl ?_
  refine sq (q_ld rfl Tryz.isAgg3 rfl) rfl rfl ?_
  refine s_call (e_call (rnew_spec h.floors (by omega)) rfl en15) rfl rfl ?_
  rintro _ _ ⟨rb, rg, rl, rfl, rfl⟩
  refine app3 ?_
  refine sq (q_mv rfl) rfl rfl ?_
  refine sq (q_ext rfl rfl) rfl rfl ?_
  refine sq (q_ext rfl rfl) rfl rfl ?_
  refine sq (q_as rfl) rfl rfl ?_
  refine sq (q_as rfl) rfl rfl ?_
  refine go_nil ?_
  refine tn ?_
  refine gc_seq ?_
  refine gc_seq ?_
  refine gc_region ?_
  refine sq (q_mv rfl) rfl rfl ?_
  refine sq (q_pnil_eql rfl rfl Tryz.underlying45) rfl rfl ?_
  refine sq (q_mv rfl) rfl rfl ?_
  refine bsp (fun h4 => ?_) (fun h4 => ?_)
  · refine sskip rfl rfl ?_
    refine sskip rfl rfl ?_
    refine sq (q_pick rfl rfl) rfl rfl ?_
    refine sq (q_mv rfl) rfl rfl ?_
    refine sskip rfl rfl ?_
    refine sskip rfl rfl ?_
    refine sq (q_pick rfl rfl) rfl rfl ?_
    refine sq (q_mv rfl) rfl rfl ?_
    refine sskip rfl rfl ?_
    refine sskip rfl rfl ?_
    refine sq (q_pick rfl rfl) rfl rfl ?_
    refine go_nil ?_
    refine tn ?_
    refine gc_true rfl ?_
    refine gc_seq ?_
    exfalso; simp_all
  · refine sq (q_mv rfl) rfl rfl ?_
    refine sq (q_pnil_eql rfl rfl Tryz.underlying25) rfl rfl ?_
    refine sq (q_pick rfl rfl) rfl rfl ?_
    refine sq (q_mv rfl) rfl rfl ?_
    refine bsp (fun h5 => ?_) (fun h5 => ?_)
    · refine sskip rfl rfl ?_
      refine sskip rfl rfl ?_
      refine sq (q_pick rfl rfl) rfl rfl ?_
      refine sq (q_mv rfl) rfl rfl ?_
      refine sskip rfl rfl ?_
      refine sskip rfl rfl ?_
      refine sq (q_pick rfl rfl) rfl rfl ?_
      refine go_nil ?_
      refine tn ?_
      refine gc_true rfl ?_
      refine gc_seq ?_
      exfalso; simp_all
    · refine sq (q_mv rfl) rfl rfl ?_
      refine sq (q_inil_neq (q := none) rfl rfl Tryz.underlying47) rfl rfl ?_
      refine sq (q_pick rfl rfl) rfl rfl ?_
      refine sq (q_mv rfl) rfl rfl ?_
      refine bsp (fun h6 => ?_) (fun h6 => ?_)
      · refine sskip rfl rfl ?_
        refine sskip rfl rfl ?_
        refine sq (q_pick rfl rfl) rfl rfl ?_
        refine go_nil ?_
        refine tn ?_
        refine gc_true rfl ?_
        refine gc_seq ?_
        exfalso; simp_all
      · refine sq (q_mv rfl) rfl rfl ?_
        refine sq (q_inil_neq (q := none) rfl rfl Tryz.underlying47) rfl rfl ?_
        refine sq (q_pick rfl rfl) rfl rfl ?_
        refine go_nil ?_
        refine tn ?_
        refine gc_if rfl (fun h7 => ?_) (fun h7 => ?_)
        · refine gc_seq ?_
          exfalso; simp_all
        · refine gc_skip ?_
          refine tn ?_
          refine gc_seq ?_
          refine gc_region ?_
          refine sq (q_lda rfl Tryz.isAgg29 Tryz.sizeOf29 rfl) rfl rfl ?_
          refine sq (q_mv rfl) rfl rfl ?_
          refine sq (q_mv rfl) rfl rfl ?_
          refine sq (q_mv rfl) rfl rfl ?_
          refine s_call (e_call (nodeNew_ok ε h id pos cb cq 26 c0 rfl c0_OK (carStart_ok hk hp) hi c0_open c0_save) rfl en19) rfl rfl ?_
          rintro _ _ ⟨nn, pp, eb, rfl, rfl⟩
          refine app8 ?_
          rw [c0_life, c0_gate, c0_st]
          refine sq (q_mv rfl) rfl rfl ?_
          refine sq (q_ext rfl rfl) rfl rfl ?_
          refine sq (q_ext rfl rfl) rfl rfl ?_
          refine sq (q_ext rfl rfl) rfl rfl ?_
          refine sq (q_as rfl) rfl rfl ?_
          refine sq (q_as rfl) rfl rfl ?_
          refine sq (q_as rfl) rfl rfl ?_
          refine go_nil ?_
          refine tn ?_
          refine gc_seq ?_
          refine gc_seq ?_
          refine gc_region ?_
          refine sq (q_mv rfl) rfl rfl ?_
          refine sq (q_inil_neq (q := none) rfl rfl Tryz.underlying47) rfl rfl ?_
          refine go_nil ?_
          refine tn ?_
          refine gc_if rfl (fun h9 => ?_) (fun h9 => ?_)
          · refine gc_seq ?_
            exfalso; simp_all
          · refine gc_skip ?_
            refine tn ?_
            refine gc_seq ?_
            refine gc_region ?_
            refine sq (q_mv rfl) rfl rfl ?_
            refine sq (q_mv rfl) rfl rfl ?_
            refine sq (q_as rfl) rfl rfl ?_
            refine sq (q_as rfl) rfl rfl ?_
            refine go_nil ?_
            refine tn ?_
            refine gc_ret ?_
            refine ret_2 (.inl rfl) rfl rfl rfl ?_
            exact rsX [nn, pp.s, cb, cq, pp.g, pp.c, pp.l, rb, rg, rl] ⟨nn, pp, cb, cq, rb, rg, rl, rfl, rfl⟩
end Go.LL
