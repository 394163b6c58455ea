/- Part of a claim: contracts of the program's functions, walked op by op. -/
import Derived.Test.YthabegpfnfbmaaaGreatDoorA11
import Derived.Test.YthabegpfnfbmaaaGreatDoorMO8
set_option linter.unusedSimpArgs false
set_option linter.unusedVariables false
namespace Go.LL
open Go.Proofs

set_option maxRecDepth 4000 in
set_option maxHeartbeats 2000000 in
theorem floors_spec (np : Nat) (p : NodeP) (nm : NodeM)  :
    Spec Tryz.prog 191 [pt np] [] [(np, NodeM.o 129 p nm)] (fun v L => ∃ s : Sli, SlI s (insTo nm.ins 64) ∧ v = s.v ∧ L = s.L 3) := by
  refine spec_of Tryz.func191 rfl Tryz.ntmps191 (by simp) fun w0 hb => ?_
  refine gc_seq ?_
  refine gc_region ?_
  refine sq (q_as rfl) rfl rfl ?_
  refine go_nil ?_
  refine tn ?_
  refine gc_seq ?_
  refine gc_region ?_
  refine sq (q_as rfl) rfl rfl ?_
  refine go_nil ?_
  refine tn ?_
  refine gc_seq ?_
  refine gc_seq ?_
  refine gc_region ?_
  refine sq (q_mv rfl) rfl rfl ?_
  refine sq (q_nc rfl) rfl rfl ?_
  refine sq (q_fa rfl Tryz.runUnderlying129 rfl Tryz.sizeOf126) rfl rfl ?_
  refine sq (q_lda rfl Tryz.isAgg126 Tryz.sizeOf126 rfl) rfl rfl ?_
  refine sq (q_mv rfl) rfl rfl ?_
  refine go_nil ?_
  refine tn ?_
  refine gc_block ?_
  refine gc_loop (A := Int × Sli) (fun y => 0 ≤ y.1 ∧ y.1 ≤ 64 ∧ SlI y.2 (insTo nm.ins y.1.toNat)) (fun y => [(3, y.2.v), (9, .agg (ins64 nm.ins).toArray), (10, i6 y.1)]) (fun y => y.2.L 3) (fun y => (64 - y.1).toNat) (0, Sli.none) ⟨by omega, by omega, ⟨Sli.none_ok, rfl, rfl⟩⟩ ⟨rfl, rfl, rfl, trivial⟩ hpS (fun y hI => ?_)
  refine gc_seq ?_
  refine gc_region ?_
  refine sq (q_lss rfl rfl) rfl rfl ?_
  refine go_nil ?_
  refine tn ?_
  refine gc_seq ?_
  refine gc_if rfl (fun h1 => ?_) (fun h1 => ?_)
  · refine gc_skip ?_
    refine tn ?_
    refine gc_seq ?_
    refine gc_block ?_
    refine gc_seq ?_
    refine gc_region ?_
    refine sq (q_mv rfl) rfl rfl ?_
    refine sq (q_ixs rfl rfl Tryz.runUnderlying126 Tryz.isAgg4 Tryz.sizeOf4 (by obtain ⟨hI1, hI2, _⟩ := hI; simp only [decide_eq_true_eq] at *; omega) (ins64_nth nm.ins y.1.toNat (by obtain ⟨hI1, hI2, _⟩ := hI; simp only [decide_eq_true_eq] at *; omega))) rfl rfl ?_
    refine sq (q_as rfl) rfl rfl ?_
    refine sq (q_as rfl) rfl rfl ?_
    refine go_nil ?_
    refine tn ?_
    refine gc_seq ?_
    refine gc_region ?_
    refine sq (q_mv rfl) rfl rfl ?_
    refine go_nil ?_
    refine tn ?_
    refine gc_if rfl (fun h2 => ?_) (fun h2 => ?_)
    · refine gc_region ?_
      refine sq (q_mv rfl) rfl rfl ?_
      refine sq (q_mv rfl) rfl rfl ?_
      refine s_bsl (e_bsl (zl := [.int .i64 0]) rfl Tryz.runUnderlying36 Tryz.sizeOf3 (by decide) (by decide) Tryz.zeroValue3 (by kernel_rfl) rfl) rfl rfl fun b3 => ?_
      refine s_app (e_app (sl := y.2) rfl hI.2.2.ok rfl rfl (by simp [Value.oneCell']) Tryz.underlying36 ei3 (by have h1 := insTo_len nm.ins y.1.toNat; have h2 := hI.2.2.n; have h3 := hI.2.1; have h4 := hI.1; first | omega | (simp only [maxLen]; omega)) (by have h1 := insTo_len nm.ins y.1.toNat; have h2 := hI.2.2.n; have h3 := hI.2.1; have h4 := hI.1; first | omega | (simp only [maxLen]; omega))) rfl rfl fun s4 hok4 hn4 hx4 => ?_
      refine sq (q_as rfl) rfl rfl ?_
      refine go_nil ?_
      refine bn (tn ?_)
      refine gc_region ?_
      refine sq (q_addi rfl rfl (by obtain ⟨hI1, hI2, _⟩ := hI; simp only [decide_eq_true_eq] at *; omega)) rfl rfl ?_
      refine sq (q_mv rfl) rfl rfl ?_
      refine go_nil ?_
      first | exact aq_round (y.1 + 1, y.2) ⟨by have := hI.1; omega, by simp_all; omega, by rw [show (y.1 + 1).toNat = y.1.toNat + 1 by (have := hI.1; omega), ins_no (by simp_all)]; exact hI.2.2⟩ (by simp_all; omega) ⟨rfl, rfl, rfl, trivial⟩ hpS | exact aq_round (y.1 + 1, s4) ⟨by have := hI.1; omega, by simp_all; omega, by rw [show (y.1 + 1).toNat = y.1.toNat + 1 by (have := hI.1; omega), ins_yes (by simp_all)]; exact ⟨hok4, by simp [*, hI.2.2.n], by simp [*, hI.2.2.xs]; omega⟩⟩ (by simp_all; omega) ⟨rfl, rfl, rfl, trivial⟩ hpS
    · refine gc_skip ?_
      refine bn (tn ?_)
      refine gc_region ?_
      refine sq (q_addi rfl rfl (by obtain ⟨hI1, hI2, _⟩ := hI; simp only [decide_eq_true_eq] at *; omega)) rfl rfl ?_
      refine sq (q_mv rfl) rfl rfl ?_
      refine go_nil ?_
      first | exact aq_round (y.1 + 1, y.2) ⟨by have := hI.1; omega, by simp_all; omega, by rw [show (y.1 + 1).toNat = y.1.toNat + 1 by (have := hI.1; omega), ins_no (by simp_all)]; exact hI.2.2⟩ (by simp_all; omega) ⟨rfl, rfl, rfl, trivial⟩ hpS | exact aq_round (y.1 + 1, y.2) ⟨by have := hI.1; omega, by simp_all; omega, by rw [show (y.1 + 1).toNat = y.1.toNat + 1 by (have := hI.1; omega), ins_yes (by simp_all)]; exact ⟨hI.2.2.ok, by simp [*, hI.2.2.n], by simp [*, hI.2.2.xs]; omega⟩⟩ (by simp_all; omega) ⟨rfl, rfl, rfl, trivial⟩ hpS
  · refine gc_exit ?_
    refine tx (tx (bx (tn ?_)))
    refine gc_seq ?_
    refine gc_region ?_
    refine sq (q_mv rfl) rfl rfl ?_
    refine sq (q_as rfl) rfl rfl ?_
    refine go_nil ?_
    refine tn ?_
    refine gc_ret ?_
    refine ret_1 (.inl rfl) rfl rfl ?_
    have e : y.1.toNat = 64 := (by simp_all; omega)
    have e2 := hI.2.2
    rw [e] at e2
    exact rsY (A := Sli.L 3 y.2) [] ⟨y.2, e2, rfl, rfl⟩

set_option maxRecDepth 4000 in
set_option maxHeartbeats 2000000 in
theorem of_spec (s : Sli) (l : List Int) (hs : SlI s l) :
    Spec Tryz.prog 212 [s.v, .slice none 0 0] [] (s.L 3) (fun v L => v = (Stops.mk (ofF l 0#64) 0#64 0#64).v ∧ L = []) := by
  refine spec_of Tryz.func212 rfl Tryz.ntmps212 (by simp) fun w0 hb => ?_
  refine gc_seq ?_
  refine gc_region ?_
  refine s_new (e_alloc Tryz.zeroValue213 rfl) rfl rfl fun b1 => ?_
  refine go_nil ?_
  refine tn ?_
  refine gc_seq ?_
  refine gc_region ?_
  refine s_new (e_alloc Tryz.zeroValue213 rfl) rfl rfl fun b2 => ?_
  refine go_nil ?_
  refine tn ?_
  refine gc_seq ?_
  refine gc_seq ?_
  refine gc_region ?_
  refine sq (q_mv rfl) rfl rfl ?_
  refine sq (q_lenS Tryz.runUnderlying36 rfl) rfl rfl ?_
  refine sq (q_mv rfl) rfl rfl ?_
  refine go_nil ?_
  refine tn ?_
  refine gc_block ?_
  refine gc_loop (A := Int × BitVec 64) (fun y => 0 ≤ y.1 ∧ y.1 ≤ s.n ∧ ofF l 0#64 = ofF (l.drop y.1.toNat) y.2) (fun y => [(1, .slice none 0 0), (4, pt b1), (5, pt b2), (10, s.v), (11, i6 (s.n : Int)), (12, i6 y.1)]) (fun y => (b2, .cells #[uv y.2, .int .u64 0, .int .u64 0] 213 (0, 0)) :: (b1, .cells #[.int .u64 0, .int .u64 0, .int .u64 0] 213 (0, 0)) :: []) (fun y => ((s.n : Int) - y.1).toNat) (0, 0#64) ⟨by omega, by omega, rfl⟩ ⟨rfl, rfl, rfl, rfl, rfl, rfl, trivial⟩ ⟨_, .refl _, List.Sublist.refl _⟩ (fun y hI => ?_)
  refine gc_seq ?_
  refine gc_region ?_
  refine sq (q_lss rfl rfl) rfl rfl ?_
  refine go_nil ?_
  refine tn ?_
  refine gc_seq ?_
  refine gc_if rfl (fun h3 => ?_) (fun h3 => ?_)
  · refine gc_skip ?_
    refine tn ?_
    refine gc_seq ?_
    refine gc_block ?_
    refine gc_seq ?_
    refine gc_region ?_
    refine sq (q_iaSl (sl := s) hs.ok rfl rfl Tryz.runUnderlying36 Tryz.sizeOf3 (by have h1 := hI.1; have h2 := hI.2.1; have h3 := hs.n; simp only [decide_eq_true_eq] at *; omega)) rfl rfl ?_
    refine sq (q_ldSl (sl := s) (e := 3) hs.ok rfl Tryz.isAgg3 (map_lds hs.xs y.1.toNat (by have h1 := hI.1; have h2 := hI.2.1; have h3 := hs.n; simp only [decide_eq_true_eq] at *; omega))) rfl rfl ?_
    refine sq (q_as rfl) rfl rfl ?_
    refine go_nil ?_
    refine tn ?_
    refine gc_seq ?_
    refine gc_region ?_
    refine sq (q_mv rfl) rfl rfl ?_
    refine s_callE (e_call (fl_spec _) rfl en275) rfl rfl ?_
    refine go_nil ?_
    refine tn ?_
    refine gc_if rfl (fun h4 => ?_) (fun h4 => ?_)
    · refine gc_draw (ord := [(0, true), (1, true), (2, false), (3, false), (4, false), (5, false)]) [6] mixed (by kernel_rfl) rfl (by kernel_rfl) (.cons_cons _ (.cons_cons _ (.slnil))) ?_
      refine gx_q (q_fa rfl Tryz.runUnderlying213 rfl Tryz.sizeOf211) rfl rfl rfl ?_
      refine gx_q (q_ld rfl Tryz.isAgg211 rfl) rfl rfl rfl ?_
      refine x_qe (q_mv rfl) rfl rfl rfl (by repeat (first | exact List.nil_sublist _ | exact List.Sublist.refl _ | exact List.sublist_append_right _ _ | apply List.Sublist.cons_cons | apply List.Sublist.cons | refine List.Sublist.trans ?_ (List.sublist_append_right _ _))) ?_
      refine x_qe (q_shlU (a := 1#64) rfl rfl (by first | omega | (simp_all [fl]; done) | (simp_all [fl]; omega))) rfl rfl rfl (by repeat (first | exact List.nil_sublist _ | exact List.Sublist.refl _ | exact List.sublist_append_right _ _ | apply List.Sublist.cons_cons | apply List.Sublist.cons | refine List.Sublist.trans ?_ (List.sublist_append_right _ _))) ?_
      refine x_qe (q_orU rfl rfl) rfl rfl rfl (by repeat (first | exact List.nil_sublist _ | exact List.Sublist.refl _ | exact List.sublist_append_right _ _ | apply List.Sublist.cons_cons | apply List.Sublist.cons | refine List.Sublist.trans ?_ (List.sublist_append_right _ _))) ?_
      refine x_qe (q_fa rfl Tryz.runUnderlying213 rfl Tryz.sizeOf211) rfl rfl rfl (by repeat (first | exact List.nil_sublist _ | exact List.Sublist.refl _ | exact List.sublist_append_right _ _ | apply List.Sublist.cons_cons | apply List.Sublist.cons | refine List.Sublist.trans ?_ (List.sublist_append_right _ _))) ?_
      refine gx_tail ?_
      refine t_st (e_st rfl rfl Tryz.sizeOf211 rfl rfl rfl rfl) rfl rfl rfl ?_
      refine gt_nil ?_
      refine bn (tn ?_)
      refine gc_region ?_
      refine sq (q_addi rfl rfl (by have h1 := hI.1; have h2 := hI.2.1; have h3 := hs.ok.le; have h4 := hs.ok.max; simp only [maxLen] at h4; simp only [decide_eq_true_eq] at *; omega)) rfl rfl ?_
      refine sq (q_mv rfl) rfl rfl ?_
      refine go_nil ?_
      first | exact aq_round (y.1 + 1, y.2) ⟨by have := hI.1; omega, by simp_all; omega, by rw [hI.2.2, show (y.1 + 1).toNat = y.1.toNat + 1 by (have := hI.1; omega), ofF_at (by have h1 := hI.1; have h2 := hI.2.1; have h3 := hs.n; simp only [decide_eq_true_eq] at *; omega), if_neg (by simp_all)]⟩ (by simp_all; omega) ⟨rfl, rfl, rfl, rfl, rfl, rfl, trivial⟩ hpS | exact aq_round (y.1 + 1, y.2 ||| 1#64 <<< (l.getD y.1.toNat 0).toNat) ⟨by have := hI.1; omega, by simp_all; omega, by rw [hI.2.2, show (y.1 + 1).toNat = y.1.toNat + 1 by (have := hI.1; omega), ofF_at (by have h1 := hI.1; have h2 := hI.2.1; have h3 := hs.n; simp only [decide_eq_true_eq] at *; omega), if_pos (by simp_all)]⟩ (by simp_all; omega) ⟨rfl, rfl, rfl, rfl, rfl, rfl, trivial⟩ hpS
    · refine gc_skip ?_
      refine bn (tn ?_)
      refine gc_region ?_
      refine sq (q_addi rfl rfl (by have h1 := hI.1; have h2 := hI.2.1; have h3 := hs.ok.le; have h4 := hs.ok.max; simp only [maxLen] at h4; simp only [decide_eq_true_eq] at *; omega)) rfl rfl ?_
      refine sq (q_mv rfl) rfl rfl ?_
      refine go_nil ?_
      first | exact aq_round (y.1 + 1, y.2) ⟨by have := hI.1; omega, by simp_all; omega, by rw [hI.2.2, show (y.1 + 1).toNat = y.1.toNat + 1 by (have := hI.1; omega), ofF_at (by have h1 := hI.1; have h2 := hI.2.1; have h3 := hs.n; simp only [decide_eq_true_eq] at *; omega), if_neg (by simp_all)]⟩ (by simp_all; omega) ⟨rfl, rfl, rfl, rfl, rfl, rfl, trivial⟩ hpS | exact aq_round (y.1 + 1, y.2 ||| 1#64 <<< (l.getD y.1.toNat 0).toNat) ⟨by have := hI.1; omega, by simp_all; omega, by rw [hI.2.2, show (y.1 + 1).toNat = y.1.toNat + 1 by (have := hI.1; omega), ofF_at (by have h1 := hI.1; have h2 := hI.2.1; have h3 := hs.n; simp only [decide_eq_true_eq] at *; omega), if_pos (by simp_all)]⟩ (by simp_all; omega) ⟨rfl, rfl, rfl, rfl, rfl, rfl, trivial⟩ hpS
  · refine gc_exit ?_
    refine tx (tx (bx (tn ?_)))
    refine gc_seq ?_
    refine gc_seq ?_
    refine gc_region ?_
    refine sq (q_mv rfl) rfl rfl ?_
    refine sq (q_lenS Tryz.runUnderlying58 rfl) rfl rfl ?_
    refine sq (q_mv rfl) rfl rfl ?_
    refine go_nil ?_
    refine tn ?_
    refine gc_block ?_
    refine gc_unroll 1 (gr_succ ?_)
    refine gc_seq ?_
    refine gc_region ?_
    refine sq (q_lss rfl rfl) rfl rfl ?_
    refine go_nil ?_
    refine tn ?_
    refine gc_seq ?_
    refine gc_if rfl (fun h5 => ?_) (fun h5 => ?_)
    · refine gc_skip ?_
      refine tn ?_
      refine gc_seq ?_
      refine gc_block ?_
      refine gc_seq ?_
      exfalso; simp_all
    · refine gc_exit ?_
      refine tx (tx (bx (tn ?_)))
      refine gc_seq ?_
      refine gc_region ?_
      refine sq (q_lda rfl Tryz.isAgg213 Tryz.sizeOf213 rfl) rfl rfl ?_
      refine s_st (e_st rfl rfl Tryz.sizeOf213 rfl rfl rfl rfl) rfl rfl ?_
      refine go_nil ?_
      refine tn ?_
      refine gc_ret ?_
      refine ret_c (.inl rfl) rfl rfl Tryz.isAgg213 Tryz.sizeOf213 rfl ?_
      have e : l.drop y.1.toNat = [] := (List.drop_eq_nil_of_le (by have h1 := hI.1; have h3 := hs.n; first | (simp_all; done) | (simp_all; omega)))
      have e2 := hI.2.2
      rw [e, ofF] at e2
      exact rsE (by rw [e2]; rfl)
end Go.LL
