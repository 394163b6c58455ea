/- Part of a claim: contracts of the program's functions, walked op by op. -/
import Derived.Test.YthabegpfnfbmaaaGreatDoorA14
set_option linter.unusedSimpArgs false
set_option linter.unusedVariables false
namespace Go.LL
open Go.Proofs

set_option maxRecDepth 4000 in
set_option maxHeartbeats 2000000 in
theorem leaveNone_spec (np : Nat) (p : NodeP) (nm : NodeM) (h1 : nm.out = false) (h2 : (Door.mk nm.c.s.door nm.c.held).stuck nm.h.dwell = false) :
    Spec Tryz.prog 61 [pt np] [] [(np, NodeM.o 129 p nm)] (fun v L => v = .slice none 0 0 ∧ L = []) := by
  refine spec_of Tryz.func61 rfl Tryz.ntmps61 (by simp) fun w0 hb => ?_
  refine gc_seq ?_
  refine gc_region ?_
  refine sq (q_as rfl) rfl rfl ?_
  refine go_nil ?_
  refine tn ?_
  refine gc_seq ?_
  refine gc_draw (ord := [(0, true), (1, true), (2, true), (3, true), (4, true), (5, true), (6, true), (7, true), (8, true), (9, true), (10, true), (11, true), (12, false)]) [13] mixed (by kernel_rfl) rfl (by kernel_rfl) (.slnil) ?_
  refine gx_q (q_mv rfl) rfl rfl rfl ?_
  refine gx_q (q_nc rfl) rfl rfl rfl ?_
  refine gx_q (q_fa rfl Tryz.runUnderlying129 rfl Tryz.sizeOf64) rfl rfl rfl ?_
  refine gx_q (q_fa rfl Tryz.runUnderlying64 rfl Tryz.sizeOf62) rfl rfl rfl ?_
  refine gx_q (q_fa rfl Tryz.runUnderlying62 rfl Tryz.sizeOf3) rfl rfl rfl ?_
  refine gx_q (q_ld rfl Tryz.isAgg3 rfl) rfl rfl rfl ?_
  refine gx_q (q_mv rfl) rfl rfl rfl ?_
  refine gx_q (q_nc rfl) rfl rfl rfl ?_
  refine gx_q (q_fa rfl Tryz.runUnderlying129 rfl Tryz.sizeOf64) rfl rfl rfl ?_
  refine gx_q (q_fa rfl Tryz.runUnderlying64 rfl Tryz.sizeOf3) rfl rfl rfl ?_
  refine gx_q (q_ld rfl Tryz.isAgg3 rfl) rfl rfl rfl ?_
  refine gx_q (q_bld rfl Tryz.runUnderlying238 Tryz.zeroValue238 rfl pl238 rfl) rfl rfl rfl ?_
  refine x_new (e_alloc Tryz.zeroValue238 rfl) rfl rfl rfl (by repeat (first | exact List.nil_sublist _ | exact List.Sublist.refl _ | exact List.sublist_append_right _ _ | apply List.Sublist.cons_cons | apply List.Sublist.cons | refine List.Sublist.trans ?_ (List.sublist_append_right _ _))) fun b1 => ?_
  refine gx_tail ?_
  refine t_st (e_st rfl rfl Tryz.sizeOf238 rfl rfl rfl rfl) rfl rfl rfl ?_
  refine gt_nil ?_
  refine tn ?_
  refine gc_seq ?_
  refine gc_block ?_
  refine gc_seq ?_
  refine gc_draw (ord := [(0, false), (1, false), (2, false), (3, false), (4, false), (5, false), (6, true), (7, false), (8, false), (9, false), (10, false), (11, false), (12, false), (13, false), (14, false)]) [] mixed (by kernel_rfl) rfl (by kernel_rfl) (.cons_cons _ (.slnil)) ?_
  refine x_qe (q_mv rfl) rfl rfl rfl (by repeat (first | exact List.nil_sublist _ | exact List.Sublist.refl _ | exact List.sublist_append_right _ _ | apply List.Sublist.cons_cons | apply List.Sublist.cons | refine List.Sublist.trans ?_ (List.sublist_append_right _ _))) ?_
  refine x_qe (q_nc rfl) rfl rfl rfl (by repeat (first | exact List.nil_sublist _ | exact List.Sublist.refl _ | exact List.sublist_append_right _ _ | apply List.Sublist.cons_cons | apply List.Sublist.cons | refine List.Sublist.trans ?_ (List.sublist_append_right _ _))) ?_
  refine x_qe (q_fa rfl Tryz.runUnderlying129 rfl Tryz.sizeOf4) rfl rfl rfl (by repeat (first | exact List.nil_sublist _ | exact List.Sublist.refl _ | exact List.sublist_append_right _ _ | apply List.Sublist.cons_cons | apply List.Sublist.cons | refine List.Sublist.trans ?_ (List.sublist_append_right _ _))) ?_
  refine x_qe (q_ld rfl Tryz.isAgg4 rfl) rfl rfl rfl (by repeat (first | exact List.nil_sublist _ | exact List.Sublist.refl _ | exact List.sublist_append_right _ _ | apply List.Sublist.cons_cons | apply List.Sublist.cons | refine List.Sublist.trans ?_ (List.sublist_append_right _ _))) ?_
  refine x_qe (q_not rfl) rfl rfl rfl (by repeat (first | exact List.nil_sublist _ | exact List.Sublist.refl _ | exact List.sublist_append_right _ _ | apply List.Sublist.cons_cons | apply List.Sublist.cons | refine List.Sublist.trans ?_ (List.sublist_append_right _ _))) ?_
  refine x_qe (q_mv rfl) rfl rfl rfl (by repeat (first | exact List.nil_sublist _ | exact List.Sublist.refl _ | exact List.sublist_append_right _ _ | apply List.Sublist.cons_cons | apply List.Sublist.cons | refine List.Sublist.trans ?_ (List.sublist_append_right _ _))) ?_
  refine xsp (fun h2 => ?_) (fun h2 => ?_)
  · refine gx_q (q_lda rfl Tryz.isAgg238 Tryz.sizeOf238 rfl) rfl rfl rfl ?_
    refine x_qe (q_mv rfl) rfl rfl rfl (by repeat (first | exact List.nil_sublist _ | exact List.Sublist.refl _ | exact List.sublist_append_right _ _ | apply List.Sublist.cons_cons | apply List.Sublist.cons | refine List.Sublist.trans ?_ (List.sublist_append_right _ _))) ?_
    refine x_qe (q_nc rfl) rfl rfl rfl (by repeat (first | exact List.nil_sublist _ | exact List.Sublist.refl _ | exact List.sublist_append_right _ _ | apply List.Sublist.cons_cons | apply List.Sublist.cons | refine List.Sublist.trans ?_ (List.sublist_append_right _ _))) ?_
    refine x_qe (q_fa rfl Tryz.runUnderlying129 rfl Tryz.sizeOf29) rfl rfl rfl (by repeat (first | exact List.nil_sublist _ | exact List.Sublist.refl _ | exact List.sublist_append_right _ _ | apply List.Sublist.cons_cons | apply List.Sublist.cons | refine List.Sublist.trans ?_ (List.sublist_append_right _ _))) ?_
    refine x_qe (q_fa rfl Tryz.runUnderlying29 rfl Tryz.sizeOf3) rfl rfl rfl (by repeat (first | exact List.nil_sublist _ | exact List.Sublist.refl _ | exact List.sublist_append_right _ _ | apply List.Sublist.cons_cons | apply List.Sublist.cons | refine List.Sublist.trans ?_ (List.sublist_append_right _ _))) ?_
    refine x_qe (q_ld rfl Tryz.isAgg3 rfl) rfl rfl rfl (by repeat (first | exact List.nil_sublist _ | exact List.Sublist.refl _ | exact List.sublist_append_right _ _ | apply List.Sublist.cons_cons | apply List.Sublist.cons | refine List.Sublist.trans ?_ (List.sublist_append_right _ _))) ?_
    refine x_callE (e_call (doorStuck_spec ⟨_, _⟩ _) rfl en142) rfl rfl rfl (by repeat (first | exact List.nil_sublist _ | exact List.Sublist.refl _ | exact List.sublist_append_right _ _ | apply List.Sublist.cons_cons | apply List.Sublist.cons | refine List.Sublist.trans ?_ (List.sublist_append_right _ _))) ?_
    refine x_qe (q_pick rfl rfl) rfl rfl rfl (by repeat (first | exact List.nil_sublist _ | exact List.Sublist.refl _ | exact List.sublist_append_right _ _ | apply List.Sublist.cons_cons | apply List.Sublist.cons | refine List.Sublist.trans ?_ (List.sublist_append_right _ _))) ?_
    refine x_qe (q_as rfl) rfl rfl rfl (by repeat (first | exact List.nil_sublist _ | exact List.Sublist.refl _ | exact List.sublist_append_right _ _ | apply List.Sublist.cons_cons | apply List.Sublist.cons | refine List.Sublist.trans ?_ (List.sublist_append_right _ _))) ?_
    refine gx_nil ?_
    refine tn ?_
    refine gc_if rfl (fun h3 => ?_) (fun h3 => ?_)
    · refine gc_seq ?_
      exfalso; simp_all
    · refine gc_seq ?_
      refine gc_region ?_
      refine sq (q_mv rfl) rfl rfl ?_
      refine sq (q_nc rfl) rfl rfl ?_
      refine sq (q_fa rfl Tryz.runUnderlying129 rfl Tryz.sizeOf4) rfl rfl ?_
      refine sq (q_ld rfl Tryz.isAgg4 rfl) rfl rfl ?_
      refine sq (q_mv rfl) rfl rfl ?_
      refine bsp (fun h4 => ?_) (fun h4 => ?_)
      · refine sq (q_lda rfl Tryz.isAgg238 Tryz.sizeOf238 rfl) rfl rfl ?_
        refine s_callE (e_call (doorIs_spec ⟨_, _⟩) rfl en143) rfl rfl ?_
        refine sq (q_not rfl) rfl rfl ?_
        refine sq (q_pick rfl rfl) rfl rfl ?_
        refine sq (q_as rfl) rfl rfl ?_
        refine go_nil ?_
        refine tn ?_
        refine gc_if rfl (fun h5 => ?_) (fun h5 => ?_)
        · refine gc_seq ?_
          exfalso; simp_all
        · refine gc_skip ?_
          refine bn (tn ?_)
          refine gc_seq ?_
          refine gc_region ?_
          refine sq (q_as rfl) rfl rfl ?_
          refine go_nil ?_
          refine tn ?_
          refine gc_ret ?_
          refine ret_1 (.inl rfl) rfl rfl ?_
          exact rsE (by first | rfl | (simp_all; done) | (simp_all; rfl) | (simp_all; omega) | (simp_all; intros; omega) | (simp_all; (repeat' split) <;> first | rfl | (simp_all; done) | omega | (exfalso; omega)))
      · refine sskip rfl rfl ?_
        refine sskip rfl rfl ?_
        refine sskip rfl rfl ?_
        refine sq (q_pick rfl rfl) rfl rfl ?_
        refine sq (q_as rfl) rfl rfl ?_
        refine go_nil ?_
        refine tn ?_
        refine gc_false rfl ?_
        refine gc_skip ?_
        refine bn (tn ?_)
        refine gc_seq ?_
        refine gc_region ?_
        refine sq (q_as rfl) rfl rfl ?_
        refine go_nil ?_
        refine tn ?_
        refine gc_ret ?_
        refine ret_1 (.inl rfl) rfl rfl ?_
        exact rsE (by first | rfl | (simp_all; done) | (simp_all; rfl) | (simp_all; omega) | (simp_all; intros; omega) | (simp_all; (repeat' split) <;> first | rfl | (simp_all; done) | omega | (exfalso; omega)))
  · refine gx_skip rfl rfl rfl ?_
    refine gx_eskip rfl rfl rfl ?_
    refine gx_eskip rfl rfl rfl ?_
    refine gx_eskip rfl rfl rfl ?_
    refine gx_eskip rfl rfl rfl ?_
    refine gx_eskip rfl rfl rfl ?_
    refine gx_eskip rfl rfl rfl ?_
    refine x_qe (q_pick rfl rfl) rfl rfl rfl (by repeat (first | exact List.nil_sublist _ | exact List.Sublist.refl _ | exact List.sublist_append_right _ _ | apply List.Sublist.cons_cons | apply List.Sublist.cons | refine List.Sublist.trans ?_ (List.sublist_append_right _ _))) ?_
    refine x_qe (q_as rfl) rfl rfl rfl (by repeat (first | exact List.nil_sublist _ | exact List.Sublist.refl _ | exact List.sublist_append_right _ _ | apply List.Sublist.cons_cons | apply List.Sublist.cons | refine List.Sublist.trans ?_ (List.sublist_append_right _ _))) ?_
    refine gx_nil ?_
    refine tn ?_
    refine gc_false rfl ?_
    refine gc_seq ?_
    refine gc_region ?_
    refine sq (q_mv rfl) rfl rfl ?_
    refine sq (q_nc rfl) rfl rfl ?_
    refine sq (q_fa rfl Tryz.runUnderlying129 rfl Tryz.sizeOf4) rfl rfl ?_
    refine sq (q_ld rfl Tryz.isAgg4 rfl) rfl rfl ?_
    refine sq (q_mv rfl) rfl rfl ?_
    refine bsp (fun h6 => ?_) (fun h6 => ?_)
    · refine sq (q_lda rfl Tryz.isAgg238 Tryz.sizeOf238 rfl) rfl rfl ?_
      refine s_callE (e_call (doorIs_spec ⟨_, _⟩) rfl en143) rfl rfl ?_
      refine sq (q_not rfl) rfl rfl ?_
      refine sq (q_pick rfl rfl) rfl rfl ?_
      refine sq (q_as rfl) rfl rfl ?_
      refine go_nil ?_
      refine tn ?_
      refine gc_if rfl (fun h7 => ?_) (fun h7 => ?_)
      · refine gc_seq ?_
        exfalso; simp_all
      · refine gc_skip ?_
        refine bn (tn ?_)
        refine gc_seq ?_
        refine gc_region ?_
        refine sq (q_as rfl) rfl rfl ?_
        refine go_nil ?_
        refine tn ?_
        refine gc_ret ?_
        refine ret_1 (.inl rfl) rfl rfl ?_
        exact rsE (by first | rfl | (simp_all; done) | (simp_all; rfl) | (simp_all; omega) | (simp_all; intros; omega) | (simp_all; (repeat' split) <;> first | rfl | (simp_all; done) | omega | (exfalso; omega)))
    · refine sskip rfl rfl ?_
      refine sskip rfl rfl ?_
      refine sskip rfl rfl ?_
      refine sq (q_pick rfl rfl) rfl rfl ?_
      refine sq (q_as rfl) rfl rfl ?_
      refine go_nil ?_
      refine tn ?_
      refine gc_false rfl ?_
      refine gc_skip ?_
      refine bn (tn ?_)
      refine gc_seq ?_
      refine gc_region ?_
      refine sq (q_as rfl) rfl rfl ?_
      refine go_nil ?_
      refine tn ?_
      refine gc_ret ?_
      refine ret_1 (.inl rfl) rfl rfl ?_
      exact rsE (by first | rfl | (simp_all; done) | (simp_all; rfl) | (simp_all; omega) | (simp_all; intros; omega) | (simp_all; (repeat' split) <;> first | rfl | (simp_all; done) | omega | (exfalso; omega)))

set_option maxRecDepth 4000 in
set_option maxHeartbeats 2000000 in
theorem life_spec (np : Nat) (p : NodeP) (nm : NodeM)  :
    Spec Tryz.prog 21 [pt np] [] [(np, NodeM.o 129 p nm)] (fun v L => v = i6 nm.life ∧ L = []) := by
  refine spec_of Tryz.func21 rfl Tryz.ntmps21 (by simp) fun w0 hb => ?_
  refine gc_seq ?_
  refine gc_region ?_
  refine sq (q_as rfl) rfl rfl ?_
  refine go_nil ?_
  refine tn ?_
  refine gc_seq ?_
  refine gc_region ?_
  refine sq (q_mv rfl) rfl rfl ?_
  refine sq (q_nc rfl) rfl rfl ?_
  refine sq (q_fa rfl Tryz.runUnderlying129 rfl Tryz.sizeOf2) rfl rfl ?_
  refine sq (q_ld rfl Tryz.isAgg2 rfl) rfl rfl ?_
  refine sq (q_as rfl) rfl rfl ?_
  refine go_nil ?_
  refine tn ?_
  refine gc_ret ?_
  refine ret_1 (.inl rfl) rfl rfl ?_
  exact rsE (by first | rfl | (simp_all; done) | (simp_all; rfl) | (simp_all; omega) | (simp_all; intros; omega) | (simp_all; (repeat' split) <;> first | rfl | (simp_all; done) | omega | (exfalso; omega)))

set_option maxRecDepth 4000 in
set_option maxHeartbeats 2000000 in
theorem patience_spec (n : Int) (h : 0 ≤ n ∧ n ≤ 1000) :
    Spec Tryz.prog 234 [i6 n] [] [] (fun v L => v = i6 (4 * n + 8) ∧ L = []) := by
  refine spec_of Tryz.func234 rfl Tryz.ntmps234 (by simp) fun w0 hb => ?_
  refine gc_seq ?_
  refine gc_region ?_
  refine sq (q_as rfl) rfl rfl ?_
  refine go_nil ?_
  refine tn ?_
  refine gc_seq ?_
  refine gc_region ?_
  refine sq (q_mv rfl) rfl rfl ?_
  refine sq (q_mulw rfl rfl) rfl rfl ?_
  refine sq (q_addw rfl rfl) rfl rfl ?_
  refine sq (q_as rfl) rfl rfl ?_
  refine go_nil ?_
  refine tn ?_
  refine gc_ret ?_
  refine ret_1 (.inl rfl) rfl rfl ?_
  exact rsE (by rw [w64_id (n := 4 * n) (by omega), w64_id (by omega)])
end Go.LL
