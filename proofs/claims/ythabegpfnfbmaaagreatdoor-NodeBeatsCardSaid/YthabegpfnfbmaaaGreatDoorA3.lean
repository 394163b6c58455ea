/- Part of a claim: contracts of the program's functions, walked op by op. -/
import Derived.Test.YthabegpfnfbmaaaGreatDoorA2
set_option linter.unusedSimpArgs false
set_option linter.unusedVariables false
namespace Go.LL
open Go.Proofs

set_option maxRecDepth 4000 in
set_option maxHeartbeats 2000000 in
theorem start_spec (h : House) (pos : Int) :
    Spec Tryz.prog 66 [h.v, i6 pos] [] [] (fun v L => v = .tuple #[(carStart h pos).1.v, .bool (carStart h pos).2] ∧ L = []) := by
  refine spec_of Tryz.func66 rfl Tryz.ntmps66 (by simp) fun w0 hb => ?_
  refine gc_seq ?_
  refine gc_region ?_
  refine s_new (e_box rfl rfl) rfl rfl fun b1 => ?_
  refine s_new (e_alloc Tryz.zeroValue64 rfl) rfl rfl fun b2 => ?_
  refine sq (q_as rfl) rfl rfl ?_
  refine go_nil ?_
  refine tn ?_
  refine gc_seq ?_
  refine gc_seq ?_
  refine gc_region ?_
  refine sq (q_lda rfl Tryz.isAgg29 Tryz.sizeOf29 rfl) rfl rfl ?_
  refine s_callE (e_call (valid_spec h) rfl en151) rfl rfl ?_
  refine sq (q_not rfl) rfl rfl ?_
  refine sq (q_mv rfl) rfl rfl ?_
  refine bsp (fun h3 => ?_) (fun h3 => ?_)
  · refine sskip rfl rfl ?_
    refine sskip rfl rfl ?_
    refine sq (q_pick rfl rfl) rfl rfl ?_
    refine sq (q_mv rfl) rfl rfl ?_
    refine sskip rfl rfl ?_
    refine sskip rfl rfl ?_
    refine sskip rfl rfl ?_
    refine sskip rfl rfl ?_
    refine sq (q_pick rfl rfl) rfl rfl ?_
    refine go_nil ?_
    refine tn ?_
    refine gc_true rfl ?_
    refine gc_seq ?_
    refine gc_region ?_
    refine sq (q_bld rfl Tryz.runUnderlying64 Tryz.zeroValue64 rfl pl64 rfl) rfl rfl ?_
    refine s_st (e_st rfl rfl Tryz.sizeOf64 rfl rfl rfl rfl) rfl rfl ?_
    refine sq (q_as rfl) rfl rfl ?_
    refine go_nil ?_
    refine tn ?_
    refine gc_ret ?_
    refine tr ?_
    refine ret_ct (.inl rfl) rfl rfl Tryz.isAgg64 Tryz.sizeOf64 rfl rfl ?_
    exact rsE (by first | rfl | (simp_all [carStart]; done) | (simp_all [carStart]; rfl) | (simp_all [carStart]; omega) | (simp_all [carStart]; intros; omega) | (simp_all [carStart]; (repeat' split) <;> first | rfl | (simp_all; done) | omega | (exfalso; omega)) | (simp only [carStart]; (repeat' split) <;> first | (simp_all; done) | (simp_all; omega) | omega | (exfalso; simp_all; omega)) | (simp_all; (simp only [carStart]; (repeat' split) <;> first | (simp_all; done) | (simp_all; omega) | omega | (exfalso; simp_all; omega))))
  · refine sq (q_mv rfl) rfl rfl ?_
    refine sq (q_lss rfl rfl) rfl rfl ?_
    refine sq (q_pick rfl rfl) rfl rfl ?_
    refine sq (q_mv rfl) rfl rfl ?_
    refine bsp (fun h4 => ?_) (fun h4 => ?_)
    · refine sskip rfl rfl ?_
      refine sskip rfl rfl ?_
      refine sskip rfl rfl ?_
      refine sskip rfl rfl ?_
      refine sq (q_pick rfl rfl) rfl rfl ?_
      refine go_nil ?_
      refine tn ?_
      refine gc_true rfl ?_
      refine gc_seq ?_
      refine gc_region ?_
      refine sq (q_bld rfl Tryz.runUnderlying64 Tryz.zeroValue64 rfl pl64 rfl) rfl rfl ?_
      refine s_st (e_st rfl rfl Tryz.sizeOf64 rfl rfl rfl rfl) rfl rfl ?_
      refine sq (q_as rfl) rfl rfl ?_
      refine go_nil ?_
      refine tn ?_
      refine gc_ret ?_
      refine tr ?_
      refine ret_ct (.inl rfl) rfl rfl Tryz.isAgg64 Tryz.sizeOf64 rfl rfl ?_
      exact rsE (by first | rfl | (simp_all [carStart]; done) | (simp_all [carStart]; rfl) | (simp_all [carStart]; omega) | (simp_all [carStart]; intros; omega) | (simp_all [carStart]; (repeat' split) <;> first | rfl | (simp_all; done) | omega | (exfalso; omega)) | (simp only [carStart]; (repeat' split) <;> first | (simp_all; done) | (simp_all; omega) | omega | (exfalso; simp_all; omega)) | (simp_all; (simp only [carStart]; (repeat' split) <;> first | (simp_all; done) | (simp_all; omega) | omega | (exfalso; simp_all; omega))))
    · refine sq (q_mv rfl) rfl rfl ?_
      refine sq (q_lda rfl Tryz.isAgg29 Tryz.sizeOf29 rfl) rfl rfl ?_
      refine s_callE (e_call (top_spec h) rfl en152) rfl rfl ?_
      refine sq (q_gtr rfl rfl) rfl rfl ?_
      refine sq (q_pick rfl rfl) rfl rfl ?_
      refine go_nil ?_
      refine tn ?_
      refine gc_if rfl (fun h5 => ?_) (fun h5 => ?_)
      · refine gc_seq ?_
        refine gc_region ?_
        refine sq (q_bld rfl Tryz.runUnderlying64 Tryz.zeroValue64 rfl pl64 rfl) rfl rfl ?_
        refine s_st (e_st rfl rfl Tryz.sizeOf64 rfl rfl rfl rfl) rfl rfl ?_
        refine sq (q_as rfl) rfl rfl ?_
        refine go_nil ?_
        refine tn ?_
        refine gc_ret ?_
        refine tr ?_
        refine ret_ct (.inl rfl) rfl rfl Tryz.isAgg64 Tryz.sizeOf64 rfl rfl ?_
        exact rsE (by first | rfl | (simp_all [carStart]; done) | (simp_all [carStart]; rfl) | (simp_all [carStart]; omega) | (simp_all [carStart]; intros; omega) | (simp_all [carStart]; (repeat' split) <;> first | rfl | (simp_all; done) | omega | (exfalso; omega)) | (simp only [carStart]; (repeat' split) <;> first | (simp_all; done) | (simp_all; omega) | omega | (exfalso; simp_all; omega)) | (simp_all; (simp only [carStart]; (repeat' split) <;> first | (simp_all; done) | (simp_all; omega) | omega | (exfalso; simp_all; omega))))
      · refine gc_skip ?_
        refine tn ?_
        refine gc_seq ?_
        refine gc_region ?_
        refine sq (q_mv rfl) rfl rfl ?_
        refine sq (q_lda rfl Tryz.isAgg29 Tryz.sizeOf29 rfl) rfl rfl ?_
        refine sq (q_mv rfl) rfl rfl ?_
        refine s_callE (e_call (level_spec h _) rfl en153) rfl rfl ?_
        refine sq (q_not rfl) rfl rfl ?_
        refine sq (q_bld rfl Tryz.runUnderlying62 Tryz.zeroValue62 rfl pl62 rfl) rfl rfl ?_
        refine sq (q_bld rfl Tryz.runUnderlying64 Tryz.zeroValue64 rfl pl64 rfl) rfl rfl ?_
        refine s_st (e_st rfl rfl Tryz.sizeOf64 rfl rfl rfl rfl) rfl rfl ?_
        refine sq (q_as rfl) rfl rfl ?_
        refine go_nil ?_
        refine tn ?_
        refine gc_ret ?_
        refine ret_ct (.inl rfl) rfl rfl Tryz.isAgg64 Tryz.sizeOf64 rfl rfl ?_
        exact rsE (by first | rfl | (simp_all [carStart]; done) | (simp_all [carStart]; rfl) | (simp_all [carStart]; omega) | (simp_all [carStart]; intros; omega) | (simp_all [carStart]; (repeat' split) <;> first | rfl | (simp_all; done) | omega | (exfalso; omega)) | (simp only [carStart]; (repeat' split) <;> first | (simp_all; done) | (simp_all; omega) | omega | (exfalso; simp_all; omega)) | (simp_all; (simp only [carStart]; (repeat' split) <;> first | (simp_all; done) | (simp_all; omega) | omega | (exfalso; simp_all; omega))))

set_option maxRecDepth 4000 in
set_option maxHeartbeats 2000000 in
theorem ccut_spec (h : House) (c : Car) :
    Spec Tryz.prog 73 [h.v, c.v] [] [] (fun v L => v = (carStart h c.s.pos).1.v ∧ L = []) := by
  refine spec_of Tryz.func73 rfl Tryz.ntmps73 (by simp) fun w0 hb => ?_
  refine gc_seq ?_
  refine gc_region ?_
  refine s_new (e_box rfl rfl) rfl rfl fun b1 => ?_
  refine s_new (e_box rfl rfl) rfl rfl fun b2 => ?_
  refine s_new (e_alloc Tryz.zeroValue64 rfl) rfl rfl fun b3 => ?_
  refine go_nil ?_
  refine tn ?_
  refine gc_seq ?_
  refine gc_region ?_
  refine sq (q_lda rfl Tryz.isAgg29 Tryz.sizeOf29 rfl) rfl rfl ?_
  refine sq (q_fa rfl Tryz.runUnderlying64 rfl Tryz.sizeOf62) rfl rfl ?_
  refine sq (q_fa rfl Tryz.runUnderlying62 rfl Tryz.sizeOf3) rfl rfl ?_
  refine sq (q_ld rfl Tryz.isAgg3 rfl) rfl rfl ?_
  refine s_callE (e_call (start_spec h _) rfl en66) rfl rfl ?_
  refine sq (q_mv rfl) rfl rfl ?_
  refine sq (q_ext rfl rfl) rfl rfl ?_
  refine sq (q_ext rfl rfl) rfl rfl ?_
  refine s_new (e_alloc Tryz.zeroValue64 rfl) rfl rfl fun b4 => ?_
  refine s_st (e_st rfl rfl Tryz.sizeOf64 rfl rfl rfl rfl) rfl rfl ?_
  refine sq (q_as rfl) rfl rfl ?_
  refine go_nil ?_
  refine tn ?_
  refine gc_seq ?_
  refine gc_region ?_
  refine sq (q_lda rfl Tryz.isAgg64 Tryz.sizeOf64 rfl) rfl rfl ?_
  refine s_st (e_st rfl rfl Tryz.sizeOf64 rfl rfl rfl rfl) rfl rfl ?_
  refine go_nil ?_
  refine tn ?_
  refine gc_ret ?_
  refine ret_c (.inl rfl) rfl rfl Tryz.isAgg64 Tryz.sizeOf64 rfl ?_
  exact rsE (by first | rfl | (simp_all; done) | (simp_all; rfl) | (simp_all; omega) | (simp_all; intros; omega) | (simp_all; (repeat' split) <;> first | rfl | (simp_all; done) | omega | (exfalso; omega)))

set_option maxRecDepth 4000 in
set_option maxHeartbeats 2000000 in
theorem low_spec (n : Int) (hn : 0 ≤ n) :
    Spec Tryz.prog 287 [i6 n] [] [] (fun v L => v = uv (lowB n) ∧ L = []) := by
  refine spec_of Tryz.func287 rfl Tryz.ntmps287 (by simp) fun w0 hb => ?_
  refine gc_seq ?_
  refine gc_region ?_
  refine sq (q_as rfl) rfl rfl ?_
  refine go_nil ?_
  refine tn ?_
  refine gc_seq ?_
  refine gc_region ?_
  refine sq (q_mv rfl) rfl rfl ?_
  refine sq (q_shlU (a := 1#64) rfl rfl hn) rfl rfl ?_
  refine sq (q_subU (b := 1#64) rfl rfl) rfl rfl ?_
  refine sq (q_as rfl) rfl rfl ?_
  refine go_nil ?_
  refine tn ?_
  refine gc_ret ?_
  refine ret_1 (.inl rfl) rfl rfl ?_
  exact rsE (by first | rfl | (simp_all [lowB]; done) | (simp_all [lowB]; rfl) | (simp_all [lowB]; omega) | (simp_all [lowB]; intros; omega) | (simp_all [lowB]; (repeat' split) <;> first | rfl | (simp_all; done) | omega | (exfalso; omega)) | (simp only [lowB]; (repeat' split) <;> first | (simp_all; done) | (simp_all; omega) | omega | (exfalso; simp_all; omega)) | (simp_all; (simp only [lowB]; (repeat' split) <;> first | (simp_all; done) | (simp_all; omega) | omega | (exfalso; simp_all; omega))))

set_option maxRecDepth 4000 in
set_option maxHeartbeats 2000000 in
theorem house_spec (h : House) (s : Stops) (hh : h.ok = true) :
    Spec Tryz.prog 226 [h.v, s.v] [] [] (fun v L => v = (s.house h).v ∧ L = []) := by
  refine spec_of Tryz.func226 rfl Tryz.ntmps226 (by simp) fun w0 hb => ?_
  refine gc_seq ?_
  refine gc_region ?_
  refine s_new (e_box rfl rfl) rfl rfl fun b1 => ?_
  refine s_new (e_box rfl rfl) rfl rfl fun b2 => ?_
  refine s_new (e_alloc Tryz.zeroValue213 rfl) rfl rfl fun b3 => ?_
  refine go_nil ?_
  refine tn ?_
  refine gc_seq ?_
  refine gc_draw (ord := [(0, true), (1, true), (2, true), (3, true), (6, true), (7, true), (8, true), (9, true), (10, true), (13, true), (14, true), (15, true), (16, true), (4, false), (5, true), (11, false), (12, true), (17, false), (18, false), (19, false), (20, false)]) [21] mixed (by kernel_rfl) rfl (by kernel_rfl) (.cons_cons _ (.cons_cons _ (.cons_cons _ (.slnil)))) ?_
  refine gx_q (q_fa rfl Tryz.runUnderlying213 rfl Tryz.sizeOf211) rfl rfl rfl ?_
  refine gx_q (q_ld rfl Tryz.isAgg211 rfl) rfl rfl rfl ?_
  refine gx_q (q_fa rfl Tryz.runUnderlying29 rfl Tryz.sizeOf3) rfl rfl rfl ?_
  refine gx_q (q_ld rfl Tryz.isAgg3 rfl) rfl rfl rfl ?_
  refine gx_q (q_fa rfl Tryz.runUnderlying213 rfl Tryz.sizeOf211) rfl rfl rfl ?_
  refine gx_q (q_ld rfl Tryz.isAgg211 rfl) rfl rfl rfl ?_
  refine gx_q (q_fa rfl Tryz.runUnderlying29 rfl Tryz.sizeOf3) rfl rfl rfl ?_
  refine gx_q (q_ld rfl Tryz.isAgg3 rfl) rfl rfl rfl ?_
  refine gx_q (q_subi rfl rfl (by have := House.ok_b hh; omega)) rfl rfl rfl ?_
  refine gx_q (q_fa rfl Tryz.runUnderlying213 rfl Tryz.sizeOf211) rfl rfl rfl ?_
  refine gx_q (q_ld rfl Tryz.isAgg211 rfl) rfl rfl rfl ?_
  refine gx_q (q_fa rfl Tryz.runUnderlying29 rfl Tryz.sizeOf3) rfl rfl rfl ?_
  refine gx_q (q_ld rfl Tryz.isAgg3 rfl) rfl rfl rfl ?_
  refine x_callE (e_call (low_spec _ (by have := House.ok_b hh; omega)) rfl en287) rfl rfl rfl (by repeat (first | exact List.nil_sublist _ | exact List.Sublist.refl _ | exact List.sublist_append_right _ _ | apply List.Sublist.cons_cons | apply List.Sublist.cons | refine List.Sublist.trans ?_ (List.sublist_append_right _ _))) ?_
  refine gx_q (q_andU rfl rfl) rfl rfl rfl ?_
  refine x_callE (e_call (low_spec _ (by have := House.ok_b hh; omega)) rfl en287) rfl rfl rfl (by repeat (first | exact List.nil_sublist _ | exact List.Sublist.refl _ | exact List.sublist_append_right _ _ | apply List.Sublist.cons_cons | apply List.Sublist.cons | refine List.Sublist.trans ?_ (List.sublist_append_right _ _))) ?_
  refine gx_q (q_andU rfl rfl) rfl rfl rfl ?_
  refine x_callE (e_call (low_spec _ (by have := House.ok_b hh; omega)) rfl en287) rfl rfl rfl (by repeat (first | exact List.nil_sublist _ | exact List.Sublist.refl _ | exact List.sublist_append_right _ _ | apply List.Sublist.cons_cons | apply List.Sublist.cons | refine List.Sublist.trans ?_ (List.sublist_append_right _ _))) ?_
  refine x_qe (q_andU rfl rfl) rfl rfl rfl (by repeat (first | exact List.nil_sublist _ | exact List.Sublist.refl _ | exact List.sublist_append_right _ _ | apply List.Sublist.cons_cons | apply List.Sublist.cons | refine List.Sublist.trans ?_ (List.sublist_append_right _ _))) ?_
  refine x_qe (q_andNotU (b := 1#64) rfl rfl) rfl rfl rfl (by repeat (first | exact List.nil_sublist _ | exact List.Sublist.refl _ | exact List.sublist_append_right _ _ | apply List.Sublist.cons_cons | apply List.Sublist.cons | refine List.Sublist.trans ?_ (List.sublist_append_right _ _))) ?_
  refine x_qe (q_bld rfl Tryz.runUnderlying213 Tryz.zeroValue213 rfl pl213 rfl) rfl rfl rfl (by repeat (first | exact List.nil_sublist _ | exact List.Sublist.refl _ | exact List.sublist_append_right _ _ | apply List.Sublist.cons_cons | apply List.Sublist.cons | refine List.Sublist.trans ?_ (List.sublist_append_right _ _))) ?_
  refine gx_tail ?_
  refine t_st (e_st rfl rfl Tryz.sizeOf213 rfl rfl rfl rfl) rfl rfl rfl ?_
  refine gt_nil ?_
  refine tn ?_
  refine gc_ret ?_
  refine ret_c (.inl rfl) rfl rfl Tryz.isAgg213 Tryz.sizeOf213 rfl ?_
  exact rsE (by first | rfl | (simp_all [Stops.house]; done) | (simp_all [Stops.house]; rfl) | (simp_all [Stops.house]; omega) | (simp_all [Stops.house]; intros; omega) | (simp_all [Stops.house]; (repeat' split) <;> first | rfl | (simp_all; done) | omega | (exfalso; omega)) | (simp only [Stops.house]; (repeat' split) <;> first | (simp_all; done) | (simp_all; omega) | omega | (exfalso; simp_all; omega)) | (simp_all; (simp only [Stops.house]; (repeat' split) <;> first | (simp_all; done) | (simp_all; omega) | omega | (exfalso; simp_all; omega))))

set_option maxRecDepth 4000 in
set_option maxHeartbeats 2000000 in
theorem cright_spec (h : House) (c : Car) :
    Spec Tryz.prog 225 [h.v, c.v] [] [] (fun v L => v = .bool (c.right h) ∧ L = []) := by
  refine spec_of Tryz.func225 rfl Tryz.ntmps225 (by simp) fun w0 hb => ?_
  refine gc_seq ?_
  refine gc_region ?_
  refine s_new (e_box rfl rfl) rfl rfl fun b1 => ?_
  refine s_new (e_box rfl rfl) rfl rfl fun b2 => ?_
  refine sq (q_as rfl) rfl rfl ?_
  refine go_nil ?_
  refine tn ?_
  refine gc_seq ?_
  refine gc_region ?_
  refine sq (q_lda rfl Tryz.isAgg29 Tryz.sizeOf29 rfl) rfl rfl ?_
  refine sq (q_fa rfl Tryz.runUnderlying64 rfl Tryz.sizeOf62) rfl rfl ?_
  refine sq (q_lda rfl Tryz.isAgg62 Tryz.sizeOf62 rfl) rfl rfl ?_
  refine s_callE (e_call (right_spec h ⟨_, _, _, _⟩) rfl en286) rfl rfl ?_
  refine sq (q_mv rfl) rfl rfl ?_
  refine bsp (fun h3 => ?_) (fun h3 => ?_)
  · refine sq (q_fa rfl Tryz.runUnderlying64 rfl Tryz.sizeOf3) rfl rfl ?_
    refine sq (q_ld rfl Tryz.isAgg3 rfl) rfl rfl ?_
    refine sq (q_eql rfl rfl) rfl rfl ?_
    refine sq (q_mv rfl) rfl rfl ?_
    refine bsp (fun h4 => ?_) (fun h4 => ?_)
    · refine sskip rfl rfl ?_
      refine sskip rfl rfl ?_
      refine sskip rfl rfl ?_
      refine sskip rfl rfl ?_
      refine sskip rfl rfl ?_
      refine sskip rfl rfl ?_
      refine sskip rfl rfl ?_
      refine sskip rfl rfl ?_
      refine sskip rfl rfl ?_
      refine sq (q_pick rfl rfl) rfl rfl ?_
      refine sq (q_pick rfl rfl) rfl rfl ?_
      refine sq (q_as rfl) rfl rfl ?_
      refine go_nil ?_
      refine tn ?_
      refine gc_ret ?_
      refine ret_1 (.inl rfl) rfl rfl ?_
      exact rsE (by first | rfl | (simp_all [Car.right]; done) | (simp_all [Car.right]; rfl) | (simp_all [Car.right]; omega) | (simp_all [Car.right]; intros; omega) | (simp_all [Car.right]; (repeat' split) <;> first | rfl | (simp_all; done) | omega | (exfalso; omega)) | (simp only [Car.right]; (repeat' split) <;> first | (simp_all; done) | (simp_all; omega) | omega | (exfalso; simp_all; omega)) | (simp_all; (simp only [Car.right]; (repeat' split) <;> first | (simp_all; done) | (simp_all; omega) | omega | (exfalso; simp_all; omega))))
    · refine sq (q_fa rfl Tryz.runUnderlying64 rfl Tryz.sizeOf3) rfl rfl ?_
      refine sq (q_ld rfl Tryz.isAgg3 rfl) rfl rfl ?_
      refine sq (q_gtr rfl rfl) rfl rfl ?_
      refine sq (q_mv rfl) rfl rfl ?_
      refine bsp (fun h5 => ?_) (fun h5 => ?_)
      · refine sq (q_fa rfl Tryz.runUnderlying64 rfl Tryz.sizeOf62) rfl rfl ?_
        refine sq (q_fa rfl Tryz.runUnderlying62 rfl Tryz.sizeOf3) rfl rfl ?_
        refine sq (q_ld rfl Tryz.isAgg3 rfl) rfl rfl ?_
        refine sq (q_eql rfl rfl) rfl rfl ?_
        refine sq (q_pick rfl rfl) rfl rfl ?_
        refine sq (q_pick rfl rfl) rfl rfl ?_
        refine sq (q_pick rfl rfl) rfl rfl ?_
        refine sq (q_as rfl) rfl rfl ?_
        refine go_nil ?_
        refine tn ?_
        refine gc_ret ?_
        refine ret_1 (.inl rfl) rfl rfl ?_
        exact rsE (by first | rfl | (simp_all [Car.right]; done) | (simp_all [Car.right]; rfl) | (simp_all [Car.right]; omega) | (simp_all [Car.right]; intros; omega) | (simp_all [Car.right]; (repeat' split) <;> first | rfl | (simp_all; done) | omega | (exfalso; omega)) | (simp only [Car.right]; (repeat' split) <;> first | (simp_all; done) | (simp_all; omega) | omega | (exfalso; simp_all; omega)) | (simp_all; (simp only [Car.right]; (repeat' split) <;> first | (simp_all; done) | (simp_all; omega) | omega | (exfalso; simp_all; omega))))
      · refine sskip rfl rfl ?_
        refine sskip rfl rfl ?_
        refine sskip rfl rfl ?_
        refine sskip rfl rfl ?_
        refine sq (q_pick rfl rfl) rfl rfl ?_
        refine sq (q_pick rfl rfl) rfl rfl ?_
        refine sq (q_pick rfl rfl) rfl rfl ?_
        refine sq (q_as rfl) rfl rfl ?_
        refine go_nil ?_
        refine tn ?_
        refine gc_ret ?_
        refine ret_1 (.inl rfl) rfl rfl ?_
        exact rsE (by first | rfl | (simp_all [Car.right]; done) | (simp_all [Car.right]; rfl) | (simp_all [Car.right]; omega) | (simp_all [Car.right]; intros; omega) | (simp_all [Car.right]; (repeat' split) <;> first | rfl | (simp_all; done) | omega | (exfalso; omega)) | (simp only [Car.right]; (repeat' split) <;> first | (simp_all; done) | (simp_all; omega) | omega | (exfalso; simp_all; omega)) | (simp_all; (simp only [Car.right]; (repeat' split) <;> first | (simp_all; done) | (simp_all; omega) | omega | (exfalso; simp_all; omega))))
  · refine sskip rfl rfl ?_
    refine sskip rfl rfl ?_
    refine sskip rfl rfl ?_
    refine sskip rfl rfl ?_
    refine sskip rfl rfl ?_
    refine sskip rfl rfl ?_
    refine sskip rfl rfl ?_
    refine sskip rfl rfl ?_
    refine sskip rfl rfl ?_
    refine sskip rfl rfl ?_
    refine sskip rfl rfl ?_
    refine sskip rfl rfl ?_
    refine sskip rfl rfl ?_
    refine sskip rfl rfl ?_
    refine sq (q_pick rfl rfl) rfl rfl ?_
    refine sq (q_as rfl) rfl rfl ?_
    refine go_nil ?_
    refine tn ?_
    refine gc_ret ?_
    refine ret_1 (.inl rfl) rfl rfl ?_
    exact rsE (by first | rfl | (simp_all [Car.right]; done) | (simp_all [Car.right]; rfl) | (simp_all [Car.right]; omega) | (simp_all [Car.right]; intros; omega) | (simp_all [Car.right]; (repeat' split) <;> first | rfl | (simp_all; done) | omega | (exfalso; omega)) | (simp only [Car.right]; (repeat' split) <;> first | (simp_all; done) | (simp_all; omega) | omega | (exfalso; simp_all; omega)) | (simp_all; (simp only [Car.right]; (repeat' split) <;> first | (simp_all; done) | (simp_all; omega) | omega | (exfalso; simp_all; omega))))

set_option maxRecDepth 4000 in
set_option maxHeartbeats 2000000 in
theorem cbetween_spec (h : House) (c : Car) :
    Spec Tryz.prog 228 [h.v, c.v] [] [] (fun v L => v = .tuple #[(c.between h).1.v, (c.between h).2.v] ∧ L = []) := by
  refine spec_of Tryz.func228 rfl Tryz.ntmps228 (by simp) fun w0 hb => ?_
  refine gc_seq ?_
  refine gc_region ?_
  refine s_new (e_box rfl rfl) rfl rfl fun b1 => ?_
  refine s_new (e_box rfl rfl) rfl rfl fun b2 => ?_
  refine s_new (e_alloc Tryz.zeroValue64 rfl) rfl rfl fun b3 => ?_
  refine s_new (e_alloc Tryz.zeroValue232 rfl) rfl rfl fun b4 => ?_
  refine go_nil ?_
  refine tn ?_
  refine gc_seq ?_
  refine gc_seq ?_
  refine gc_region ?_
  refine sq (q_fa rfl Tryz.runUnderlying64 rfl Tryz.sizeOf62) rfl rfl ?_
  refine sq (q_fa rfl Tryz.runUnderlying62 rfl Tryz.sizeOf4) rfl rfl ?_
  refine sq (q_ld rfl Tryz.isAgg4 rfl) rfl rfl ?_
  refine go_nil ?_
  refine tn ?_
  refine gc_if rfl (fun h5 => ?_) (fun h5 => ?_)
  · refine gc_region ?_
    refine sq (q_fa rfl Tryz.runUnderlying64 rfl Tryz.sizeOf62) rfl rfl ?_
    refine sq (q_fa rfl Tryz.runUnderlying62 rfl Tryz.sizeOf3) rfl rfl ?_
    refine s_st (e_st rfl rfl Tryz.sizeOf3 rfl rfl rfl rfl) rfl rfl ?_
    refine go_nil ?_
    refine tn ?_
    refine gc_seq ?_
    refine gc_region ?_
    refine sq (q_lda rfl Tryz.isAgg29 Tryz.sizeOf29 rfl) rfl rfl ?_
    refine sq (q_fa rfl Tryz.runUnderlying64 rfl Tryz.sizeOf62) rfl rfl ?_
    refine sq (q_fa rfl Tryz.runUnderlying62 rfl Tryz.sizeOf3) rfl rfl ?_
    refine sq (q_ld rfl Tryz.isAgg3 rfl) rfl rfl ?_
    refine sq (q_fa rfl Tryz.runUnderlying64 rfl Tryz.sizeOf62) rfl rfl ?_
    refine sq (q_fa rfl Tryz.runUnderlying62 rfl Tryz.sizeOf3) rfl rfl ?_
    refine sq (q_ld rfl Tryz.isAgg3 rfl) rfl rfl ?_
    refine s_callE (e_call (goTo_spec h _ _) rfl en288) rfl rfl ?_
    refine sq (q_mv rfl) rfl rfl ?_
    refine sq (q_ext rfl rfl) rfl rfl ?_
    refine sq (q_ext rfl rfl) rfl rfl ?_
    refine sq (q_as rfl) rfl rfl ?_
    refine sq (q_as rfl) rfl rfl ?_
    refine go_nil ?_
    refine tn ?_
    refine gc_seq ?_
    refine gc_seq ?_
    refine gc_region ?_
    refine sq (q_mv rfl) rfl rfl ?_
    refine sq (q_not rfl) rfl rfl ?_
    refine go_nil ?_
    refine tn ?_
    refine gc_if rfl (fun h6 => ?_) (fun h6 => ?_)
    · refine gc_seq ?_
      refine gc_region ?_
      refine sq (q_lda rfl Tryz.isAgg64 Tryz.sizeOf64 rfl) rfl rfl ?_
      refine sq (q_bld rfl Tryz.runUnderlying232 Tryz.zeroValue232 rfl pl232 rfl) rfl rfl ?_
      refine s_st (e_st rfl rfl Tryz.sizeOf64 rfl rfl rfl rfl) rfl rfl ?_
      refine s_st (e_st rfl rfl Tryz.sizeOf232 rfl rfl rfl rfl) rfl rfl ?_
      refine go_nil ?_
      refine tn ?_
      refine gc_ret ?_
      refine tr ?_
      refine ret_cc (.inl rfl) rfl rfl Tryz.isAgg64 Tryz.sizeOf64 rfl rfl Tryz.isAgg232 Tryz.sizeOf232 rfl ?_
      exact rsE (by first | rfl | (simp_all [Car.between]; done) | (simp_all [Car.between]; rfl) | (simp_all [Car.between]; omega) | (simp_all [Car.between]; intros; omega) | (simp_all [Car.between]; (repeat' split) <;> first | rfl | (simp_all; done) | omega | (exfalso; omega)) | (simp only [Car.between]; (repeat' split) <;> first | (simp_all; done) | (simp_all; omega) | omega | (exfalso; simp_all; omega)) | (simp_all; (simp only [Car.between]; (repeat' split) <;> first | (simp_all; done) | (simp_all; omega) | omega | (exfalso; simp_all; omega))))
    · refine gc_skip ?_
      refine tn ?_
      refine gc_seq ?_
      refine gc_region ?_
      refine sq (q_mv rfl) rfl rfl ?_
      refine sq (q_fa rfl Tryz.runUnderlying64 rfl Tryz.sizeOf62) rfl rfl ?_
      refine sq (q_fa rfl Tryz.runUnderlying62 rfl Tryz.sizeOf3) rfl rfl ?_
      refine sq (q_ld rfl Tryz.isAgg3 rfl) rfl rfl ?_
      refine sq (q_subw rfl rfl) rfl rfl ?_
      refine sq (q_bld rfl Tryz.runUnderlying232 Tryz.zeroValue232 rfl pl232 rfl) rfl rfl ?_
      refine s_new (e_alloc Tryz.zeroValue232 rfl) rfl rfl fun b7 => ?_
      refine s_st (e_st rfl rfl Tryz.sizeOf232 rfl rfl rfl rfl) rfl rfl ?_
      refine go_nil ?_
      refine tn ?_
      refine gc_seq ?_
      refine gc_region ?_
      refine sq (q_mv rfl) rfl rfl ?_
      refine sq (q_fa rfl Tryz.runUnderlying64 rfl Tryz.sizeOf62) rfl rfl ?_
      refine sq (q_fa rfl Tryz.runUnderlying62 rfl Tryz.sizeOf3) rfl rfl ?_
      refine s_st (e_st rfl rfl Tryz.sizeOf3 rfl rfl rfl rfl) rfl rfl ?_
      refine go_nil ?_
      refine tn ?_
      refine gc_seq ?_
      refine gc_seq ?_
      refine gc_region ?_
      refine sq (q_fa rfl Tryz.runUnderlying64 rfl Tryz.sizeOf62) rfl rfl ?_
      refine sq (q_fa rfl Tryz.runUnderlying62 rfl Tryz.sizeOf4) rfl rfl ?_
      refine sq (q_ld rfl Tryz.isAgg4 rfl) rfl rfl ?_
      refine sq (q_mv rfl) rfl rfl ?_
      refine bsp (fun h8 => ?_) (fun h8 => ?_)
      · refine sq (q_lda rfl Tryz.isAgg29 Tryz.sizeOf29 rfl) rfl rfl ?_
        refine sq (q_mv rfl) rfl rfl ?_
        refine s_callE (e_call (level_spec h _) rfl en153) rfl rfl ?_
        refine sq (q_pick rfl rfl) rfl rfl ?_
        refine go_nil ?_
        refine tn ?_
        refine gc_if rfl (fun h9 => ?_) (fun h9 => ?_)
        · refine gc_region ?_
          refine sq (q_fa rfl Tryz.runUnderlying64 rfl Tryz.sizeOf62) rfl rfl ?_
          refine sq (q_fa rfl Tryz.runUnderlying62 rfl Tryz.sizeOf4) rfl rfl ?_
          refine s_st (e_st rfl rfl Tryz.sizeOf4 rfl rfl rfl rfl) rfl rfl ?_
          refine sq (q_fa rfl Tryz.runUnderlying64 rfl Tryz.sizeOf62) rfl rfl ?_
          refine sq (q_fa rfl Tryz.runUnderlying62 rfl Tryz.sizeOf3) rfl rfl ?_
          refine s_st (e_st rfl rfl Tryz.sizeOf3 rfl rfl rfl rfl) rfl rfl ?_
          refine go_nil ?_
          refine tn ?_
          refine gc_seq ?_
          refine gc_draw (ord := [(0, true), (1, true), (2, false)]) [3] mixed (by kernel_rfl) rfl (by kernel_rfl) (.cons_cons _ (.cons_cons _ (.cons _ (.cons_cons _ (.cons_cons _ (.slnil)))))) ?_
          refine gx_q (q_lda rfl Tryz.isAgg64 Tryz.sizeOf64 rfl) rfl rfl rfl ?_
          refine gx_q (q_lda rfl Tryz.isAgg232 Tryz.sizeOf232 rfl) rfl rfl rfl ?_
          refine x_st (e_st rfl rfl Tryz.sizeOf64 rfl rfl rfl rfl) rfl rfl rfl (by repeat (first | exact List.nil_sublist _ | exact List.Sublist.refl _ | exact List.sublist_append_right _ _ | apply List.Sublist.cons_cons | apply List.Sublist.cons | refine List.Sublist.trans ?_ (List.sublist_append_right _ _))) ?_
          refine gx_tail ?_
          refine t_st (e_st rfl rfl Tryz.sizeOf232 rfl rfl rfl rfl) rfl rfl rfl ?_
          refine gt_nil ?_
          refine tn ?_
          refine gc_ret ?_
          refine ret_cc (.inl rfl) rfl rfl Tryz.isAgg64 Tryz.sizeOf64 rfl rfl Tryz.isAgg232 Tryz.sizeOf232 rfl ?_
          exact rsE (by first | rfl | (simp_all [Car.between]; done) | (simp_all [Car.between]; rfl) | (simp_all [Car.between]; omega) | (simp_all [Car.between]; intros; omega) | (simp_all [Car.between]; (repeat' split) <;> first | rfl | (simp_all; done) | omega | (exfalso; omega)) | (simp only [Car.between]; (repeat' split) <;> first | (simp_all; done) | (simp_all; omega) | omega | (exfalso; simp_all; omega)) | (simp_all; (simp only [Car.between]; (repeat' split) <;> first | (simp_all; done) | (simp_all; omega) | omega | (exfalso; simp_all; omega))))
        · refine gc_skip ?_
          refine tn ?_
          refine gc_seq ?_
          refine gc_draw (ord := [(0, true), (1, true), (2, false)]) [3] mixed (by kernel_rfl) rfl (by kernel_rfl) (.cons_cons _ (.cons_cons _ (.cons _ (.cons_cons _ (.cons_cons _ (.slnil)))))) ?_
          refine gx_q (q_lda rfl Tryz.isAgg64 Tryz.sizeOf64 rfl) rfl rfl rfl ?_
          refine gx_q (q_lda rfl Tryz.isAgg232 Tryz.sizeOf232 rfl) rfl rfl rfl ?_
          refine x_st (e_st rfl rfl Tryz.sizeOf64 rfl rfl rfl rfl) rfl rfl rfl (by repeat (first | exact List.nil_sublist _ | exact List.Sublist.refl _ | exact List.sublist_append_right _ _ | apply List.Sublist.cons_cons | apply List.Sublist.cons | refine List.Sublist.trans ?_ (List.sublist_append_right _ _))) ?_
          refine gx_tail ?_
          refine t_st (e_st rfl rfl Tryz.sizeOf232 rfl rfl rfl rfl) rfl rfl rfl ?_
          refine gt_nil ?_
          refine tn ?_
          refine gc_ret ?_
          refine ret_cc (.inl rfl) rfl rfl Tryz.isAgg64 Tryz.sizeOf64 rfl rfl Tryz.isAgg232 Tryz.sizeOf232 rfl ?_
          exact rsE (by first | rfl | (simp_all [Car.between]; done) | (simp_all [Car.between]; rfl) | (simp_all [Car.between]; omega) | (simp_all [Car.between]; intros; omega) | (simp_all [Car.between]; (repeat' split) <;> first | rfl | (simp_all; done) | omega | (exfalso; omega)) | (simp only [Car.between]; (repeat' split) <;> first | (simp_all; done) | (simp_all; omega) | omega | (exfalso; simp_all; omega)) | (simp_all; (simp only [Car.between]; (repeat' split) <;> first | (simp_all; done) | (simp_all; omega) | omega | (exfalso; simp_all; omega))))
      · refine sskip rfl rfl ?_
        refine sskip rfl rfl ?_
        refine sskip rfl rfl ?_
        refine sq (q_pick rfl rfl) rfl rfl ?_
        refine go_nil ?_
        refine tn ?_
        refine gc_false rfl ?_
        refine gc_skip ?_
        refine tn ?_
        refine gc_seq ?_
        refine gc_draw (ord := [(0, true), (1, true), (2, false)]) [3] mixed (by kernel_rfl) rfl (by kernel_rfl) (.cons_cons _ (.cons_cons _ (.cons _ (.cons_cons _ (.cons_cons _ (.slnil)))))) ?_
        refine gx_q (q_lda rfl Tryz.isAgg64 Tryz.sizeOf64 rfl) rfl rfl rfl ?_
        refine gx_q (q_lda rfl Tryz.isAgg232 Tryz.sizeOf232 rfl) rfl rfl rfl ?_
        refine x_st (e_st rfl rfl Tryz.sizeOf64 rfl rfl rfl rfl) rfl rfl rfl (by repeat (first | exact List.nil_sublist _ | exact List.Sublist.refl _ | exact List.sublist_append_right _ _ | apply List.Sublist.cons_cons | apply List.Sublist.cons | refine List.Sublist.trans ?_ (List.sublist_append_right _ _))) ?_
        refine gx_tail ?_
        refine t_st (e_st rfl rfl Tryz.sizeOf232 rfl rfl rfl rfl) rfl rfl rfl ?_
        refine gt_nil ?_
        refine tn ?_
        refine gc_ret ?_
        refine ret_cc (.inl rfl) rfl rfl Tryz.isAgg64 Tryz.sizeOf64 rfl rfl Tryz.isAgg232 Tryz.sizeOf232 rfl ?_
        exact rsE (by first | rfl | (simp_all [Car.between]; done) | (simp_all [Car.between]; rfl) | (simp_all [Car.between]; omega) | (simp_all [Car.between]; intros; omega) | (simp_all [Car.between]; (repeat' split) <;> first | rfl | (simp_all; done) | omega | (exfalso; omega)) | (simp only [Car.between]; (repeat' split) <;> first | (simp_all; done) | (simp_all; omega) | omega | (exfalso; simp_all; omega)) | (simp_all; (simp only [Car.between]; (repeat' split) <;> first | (simp_all; done) | (simp_all; omega) | omega | (exfalso; simp_all; omega))))
  · refine gc_skip ?_
    refine tn ?_
    refine gc_seq ?_
    refine gc_region ?_
    refine sq (q_lda rfl Tryz.isAgg29 Tryz.sizeOf29 rfl) rfl rfl ?_
    refine sq (q_fa rfl Tryz.runUnderlying64 rfl Tryz.sizeOf62) rfl rfl ?_
    refine sq (q_fa rfl Tryz.runUnderlying62 rfl Tryz.sizeOf3) rfl rfl ?_
    refine sq (q_ld rfl Tryz.isAgg3 rfl) rfl rfl ?_
    refine sq (q_fa rfl Tryz.runUnderlying64 rfl Tryz.sizeOf62) rfl rfl ?_
    refine sq (q_fa rfl Tryz.runUnderlying62 rfl Tryz.sizeOf3) rfl rfl ?_
    refine sq (q_ld rfl Tryz.isAgg3 rfl) rfl rfl ?_
    refine s_callE (e_call (goTo_spec h _ _) rfl en288) rfl rfl ?_
    refine sq (q_mv rfl) rfl rfl ?_
    refine sq (q_ext rfl rfl) rfl rfl ?_
    refine sq (q_ext rfl rfl) rfl rfl ?_
    refine sq (q_as rfl) rfl rfl ?_
    refine sq (q_as rfl) rfl rfl ?_
    refine go_nil ?_
    refine tn ?_
    refine gc_seq ?_
    refine gc_seq ?_
    refine gc_region ?_
    refine sq (q_mv rfl) rfl rfl ?_
    refine sq (q_not rfl) rfl rfl ?_
    refine go_nil ?_
    refine tn ?_
    refine gc_if rfl (fun h10 => ?_) (fun h10 => ?_)
    · refine gc_seq ?_
      refine gc_region ?_
      refine sq (q_lda rfl Tryz.isAgg64 Tryz.sizeOf64 rfl) rfl rfl ?_
      refine sq (q_bld rfl Tryz.runUnderlying232 Tryz.zeroValue232 rfl pl232 rfl) rfl rfl ?_
      refine s_st (e_st rfl rfl Tryz.sizeOf64 rfl rfl rfl rfl) rfl rfl ?_
      refine s_st (e_st rfl rfl Tryz.sizeOf232 rfl rfl rfl rfl) rfl rfl ?_
      refine go_nil ?_
      refine tn ?_
      refine gc_ret ?_
      refine tr ?_
      refine ret_cc (.inl rfl) rfl rfl Tryz.isAgg64 Tryz.sizeOf64 rfl rfl Tryz.isAgg232 Tryz.sizeOf232 rfl ?_
      exact rsE (by first | rfl | (simp_all [Car.between]; done) | (simp_all [Car.between]; rfl) | (simp_all [Car.between]; omega) | (simp_all [Car.between]; intros; omega) | (simp_all [Car.between]; (repeat' split) <;> first | rfl | (simp_all; done) | omega | (exfalso; omega)) | (simp only [Car.between]; (repeat' split) <;> first | (simp_all; done) | (simp_all; omega) | omega | (exfalso; simp_all; omega)) | (simp_all; (simp only [Car.between]; (repeat' split) <;> first | (simp_all; done) | (simp_all; omega) | omega | (exfalso; simp_all; omega))))
    · refine gc_skip ?_
      refine tn ?_
      refine gc_seq ?_
      refine gc_region ?_
      refine sq (q_mv rfl) rfl rfl ?_
      refine sq (q_fa rfl Tryz.runUnderlying64 rfl Tryz.sizeOf62) rfl rfl ?_
      refine sq (q_fa rfl Tryz.runUnderlying62 rfl Tryz.sizeOf3) rfl rfl ?_
      refine sq (q_ld rfl Tryz.isAgg3 rfl) rfl rfl ?_
      refine sq (q_subw rfl rfl) rfl rfl ?_
      refine sq (q_bld rfl Tryz.runUnderlying232 Tryz.zeroValue232 rfl pl232 rfl) rfl rfl ?_
      refine s_new (e_alloc Tryz.zeroValue232 rfl) rfl rfl fun b11 => ?_
      refine s_st (e_st rfl rfl Tryz.sizeOf232 rfl rfl rfl rfl) rfl rfl ?_
      refine go_nil ?_
      refine tn ?_
      refine gc_seq ?_
      refine gc_region ?_
      refine sq (q_mv rfl) rfl rfl ?_
      refine sq (q_fa rfl Tryz.runUnderlying64 rfl Tryz.sizeOf62) rfl rfl ?_
      refine sq (q_fa rfl Tryz.runUnderlying62 rfl Tryz.sizeOf3) rfl rfl ?_
      refine s_st (e_st rfl rfl Tryz.sizeOf3 rfl rfl rfl rfl) rfl rfl ?_
      refine go_nil ?_
      refine tn ?_
      refine gc_seq ?_
      refine gc_seq ?_
      refine gc_region ?_
      refine sq (q_fa rfl Tryz.runUnderlying64 rfl Tryz.sizeOf62) rfl rfl ?_
      refine sq (q_fa rfl Tryz.runUnderlying62 rfl Tryz.sizeOf4) rfl rfl ?_
      refine sq (q_ld rfl Tryz.isAgg4 rfl) rfl rfl ?_
      refine sq (q_mv rfl) rfl rfl ?_
      refine bsp (fun h12 => ?_) (fun h12 => ?_)
      · refine sq (q_lda rfl Tryz.isAgg29 Tryz.sizeOf29 rfl) rfl rfl ?_
        refine sq (q_mv rfl) rfl rfl ?_
        refine s_callE (e_call (level_spec h _) rfl en153) rfl rfl ?_
        refine sq (q_pick rfl rfl) rfl rfl ?_
        refine go_nil ?_
        refine tn ?_
        refine gc_if rfl (fun h13 => ?_) (fun h13 => ?_)
        · refine gc_region ?_
          refine sq (q_fa rfl Tryz.runUnderlying64 rfl Tryz.sizeOf62) rfl rfl ?_
          refine sq (q_fa rfl Tryz.runUnderlying62 rfl Tryz.sizeOf4) rfl rfl ?_
          refine s_st (e_st rfl rfl Tryz.sizeOf4 rfl rfl rfl rfl) rfl rfl ?_
          refine sq (q_fa rfl Tryz.runUnderlying64 rfl Tryz.sizeOf62) rfl rfl ?_
          refine sq (q_fa rfl Tryz.runUnderlying62 rfl Tryz.sizeOf3) rfl rfl ?_
          refine s_st (e_st rfl rfl Tryz.sizeOf3 rfl rfl rfl rfl) rfl rfl ?_
          refine go_nil ?_
          refine tn ?_
          refine gc_seq ?_
          refine gc_draw (ord := [(0, true), (1, true), (2, false)]) [3] mixed (by kernel_rfl) rfl (by kernel_rfl) (.cons_cons _ (.cons_cons _ (.cons _ (.cons_cons _ (.cons_cons _ (.slnil)))))) ?_
          refine gx_q (q_lda rfl Tryz.isAgg64 Tryz.sizeOf64 rfl) rfl rfl rfl ?_
          refine gx_q (q_lda rfl Tryz.isAgg232 Tryz.sizeOf232 rfl) rfl rfl rfl ?_
          refine x_st (e_st rfl rfl Tryz.sizeOf64 rfl rfl rfl rfl) rfl rfl rfl (by repeat (first | exact List.nil_sublist _ | exact List.Sublist.refl _ | exact List.sublist_append_right _ _ | apply List.Sublist.cons_cons | apply List.Sublist.cons | refine List.Sublist.trans ?_ (List.sublist_append_right _ _))) ?_
          refine gx_tail ?_
          refine t_st (e_st rfl rfl Tryz.sizeOf232 rfl rfl rfl rfl) rfl rfl rfl ?_
          refine gt_nil ?_
          refine tn ?_
          refine gc_ret ?_
          refine ret_cc (.inl rfl) rfl rfl Tryz.isAgg64 Tryz.sizeOf64 rfl rfl Tryz.isAgg232 Tryz.sizeOf232 rfl ?_
          exact rsE (by first | rfl | (simp_all [Car.between]; done) | (simp_all [Car.between]; rfl) | (simp_all [Car.between]; omega) | (simp_all [Car.between]; intros; omega) | (simp_all [Car.between]; (repeat' split) <;> first | rfl | (simp_all; done) | omega | (exfalso; omega)) | (simp only [Car.between]; (repeat' split) <;> first | (simp_all; done) | (simp_all; omega) | omega | (exfalso; simp_all; omega)) | (simp_all; (simp only [Car.between]; (repeat' split) <;> first | (simp_all; done) | (simp_all; omega) | omega | (exfalso; simp_all; omega))))
        · refine gc_skip ?_
          refine tn ?_
          refine gc_seq ?_
          refine gc_draw (ord := [(0, true), (1, true), (2, false)]) [3] mixed (by kernel_rfl) rfl (by kernel_rfl) (.cons_cons _ (.cons_cons _ (.cons _ (.cons_cons _ (.cons_cons _ (.slnil)))))) ?_
          refine gx_q (q_lda rfl Tryz.isAgg64 Tryz.sizeOf64 rfl) rfl rfl rfl ?_
          refine gx_q (q_lda rfl Tryz.isAgg232 Tryz.sizeOf232 rfl) rfl rfl rfl ?_
          refine x_st (e_st rfl rfl Tryz.sizeOf64 rfl rfl rfl rfl) rfl rfl rfl (by repeat (first | exact List.nil_sublist _ | exact List.Sublist.refl _ | exact List.sublist_append_right _ _ | apply List.Sublist.cons_cons | apply List.Sublist.cons | refine List.Sublist.trans ?_ (List.sublist_append_right _ _))) ?_
          refine gx_tail ?_
          refine t_st (e_st rfl rfl Tryz.sizeOf232 rfl rfl rfl rfl) rfl rfl rfl ?_
          refine gt_nil ?_
          refine tn ?_
          refine gc_ret ?_
          refine ret_cc (.inl rfl) rfl rfl Tryz.isAgg64 Tryz.sizeOf64 rfl rfl Tryz.isAgg232 Tryz.sizeOf232 rfl ?_
          exact rsE (by first | rfl | (simp_all [Car.between]; done) | (simp_all [Car.between]; rfl) | (simp_all [Car.between]; omega) | (simp_all [Car.between]; intros; omega) | (simp_all [Car.between]; (repeat' split) <;> first | rfl | (simp_all; done) | omega | (exfalso; omega)) | (simp only [Car.between]; (repeat' split) <;> first | (simp_all; done) | (simp_all; omega) | omega | (exfalso; simp_all; omega)) | (simp_all; (simp only [Car.between]; (repeat' split) <;> first | (simp_all; done) | (simp_all; omega) | omega | (exfalso; simp_all; omega))))
      · refine sskip rfl rfl ?_
        refine sskip rfl rfl ?_
        refine sskip rfl rfl ?_
        refine sq (q_pick rfl rfl) rfl rfl ?_
        refine go_nil ?_
        refine tn ?_
        refine gc_false rfl ?_
        refine gc_skip ?_
        refine tn ?_
        refine gc_seq ?_
        refine gc_draw (ord := [(0, true), (1, true), (2, false)]) [3] mixed (by kernel_rfl) rfl (by kernel_rfl) (.cons_cons _ (.cons_cons _ (.cons _ (.cons_cons _ (.cons_cons _ (.slnil)))))) ?_
        refine gx_q (q_lda rfl Tryz.isAgg64 Tryz.sizeOf64 rfl) rfl rfl rfl ?_
        refine gx_q (q_lda rfl Tryz.isAgg232 Tryz.sizeOf232 rfl) rfl rfl rfl ?_
        refine x_st (e_st rfl rfl Tryz.sizeOf64 rfl rfl rfl rfl) rfl rfl rfl (by repeat (first | exact List.nil_sublist _ | exact List.Sublist.refl _ | exact List.sublist_append_right _ _ | apply List.Sublist.cons_cons | apply List.Sublist.cons | refine List.Sublist.trans ?_ (List.sublist_append_right _ _))) ?_
        refine gx_tail ?_
        refine t_st (e_st rfl rfl Tryz.sizeOf232 rfl rfl rfl rfl) rfl rfl rfl ?_
        refine gt_nil ?_
        refine tn ?_
        refine gc_ret ?_
        refine ret_cc (.inl rfl) rfl rfl Tryz.isAgg64 Tryz.sizeOf64 rfl rfl Tryz.isAgg232 Tryz.sizeOf232 rfl ?_
        exact rsE (by first | rfl | (simp_all [Car.between]; done) | (simp_all [Car.between]; rfl) | (simp_all [Car.between]; omega) | (simp_all [Car.between]; intros; omega) | (simp_all [Car.between]; (repeat' split) <;> first | rfl | (simp_all; done) | omega | (exfalso; omega)) | (simp only [Car.between]; (repeat' split) <;> first | (simp_all; done) | (simp_all; omega) | omega | (exfalso; simp_all; omega)) | (simp_all; (simp only [Car.between]; (repeat' split) <;> first | (simp_all; done) | (simp_all; omega) | omega | (exfalso; simp_all; omega))))

set_option maxRecDepth 4000 in
set_option maxHeartbeats 2000000 in
theorem clevel_spec (h : House) (c : Car) (s : Stops) :
    Spec Tryz.prog 229 [h.v, c.v, s.v] [] dbt (fun v L => v = .tuple #[(c.level h s).1.v, (c.level h s).2.v] ∧ L = []) := by
  refine spec_of Tryz.func229 rfl Tryz.ntmps229 (by simp) fun w0 hb => ?_
  refine gc_seq ?_
  refine gc_region ?_
  refine s_new (e_box rfl rfl) rfl rfl fun b1 => ?_
  refine s_new (e_box rfl rfl) rfl rfl fun b2 => ?_
  refine s_new (e_box rfl rfl) rfl rfl fun b3 => ?_
  refine s_new (e_alloc Tryz.zeroValue64 rfl) rfl rfl fun b4 => ?_
  refine s_new (e_alloc Tryz.zeroValue232 rfl) rfl rfl fun b5 => ?_
  refine go_nil ?_
  refine tn ?_
  refine gc_seq ?_
  refine gc_region ?_
  refine sq (q_lda rfl Tryz.isAgg29 Tryz.sizeOf29 rfl) rfl rfl ?_
  refine sq (q_fa rfl Tryz.runUnderlying64 rfl Tryz.sizeOf62) rfl rfl ?_
  refine sq (q_fa rfl Tryz.runUnderlying62 rfl Tryz.sizeOf3) rfl rfl ?_
  refine sq (q_ld rfl Tryz.isAgg3 rfl) rfl rfl ?_
  refine s_callE (e_call (floor_spec h _) rfl en162) rfl rfl ?_
  refine sq (q_as rfl) rfl rfl ?_
  refine go_nil ?_
  refine tn ?_
  refine gc_seq ?_
  refine gc_region ?_
  refine sq (q_lda rfl Tryz.isAgg213 Tryz.sizeOf213 rfl) rfl rfl ?_
  refine sq (q_mv rfl) rfl rfl ?_
  refine sq (q_fa rfl Tryz.runUnderlying64 rfl Tryz.sizeOf62) rfl rfl ?_
  refine sq (q_fa rfl Tryz.runUnderlying62 rfl Tryz.sizeOf3) rfl rfl ?_
  refine sq (q_ld rfl Tryz.isAgg3 rfl) rfl rfl ?_
  refine s_callE (e_call (planAt_spec s _ _) rfl en289) rfl rfl ?_
  refine s_new (e_alloc Tryz.zeroValue368 rfl) rfl rfl fun b6 => ?_
  refine s_st (e_st rfl rfl Tryz.sizeOf368 rfl rfl rfl rfl) rfl rfl ?_
  refine go_nil ?_
  refine tn ?_
  refine gc_seq ?_
  refine gc_draw (ord := [(0, true), (1, true), (2, false), (3, false), (4, false)]) [5, 6, 7] mixed (by kernel_rfl) rfl (by kernel_rfl) (.cons_cons _ (.cons_cons _ (.cons_cons _ (.cons_cons _ (.cons _ (.cons_cons _ (.slnil))))))) ?_
  refine gx_q (q_fa rfl Tryz.runUnderlying368 rfl Tryz.sizeOf3) rfl rfl rfl ?_
  refine gx_q (q_ld rfl Tryz.isAgg3 rfl) rfl rfl rfl ?_
  refine x_qe (q_fa rfl Tryz.runUnderlying64 rfl Tryz.sizeOf62) rfl rfl rfl (by repeat (first | exact List.nil_sublist _ | exact List.Sublist.refl _ | exact List.sublist_append_right _ _ | apply List.Sublist.cons_cons | apply List.Sublist.cons | refine List.Sublist.trans ?_ (List.sublist_append_right _ _))) ?_
  refine x_qe (q_fa rfl Tryz.runUnderlying62 rfl Tryz.sizeOf4) rfl rfl rfl (by repeat (first | exact List.nil_sublist _ | exact List.Sublist.refl _ | exact List.sublist_append_right _ _ | apply List.Sublist.cons_cons | apply List.Sublist.cons | refine List.Sublist.trans ?_ (List.sublist_append_right _ _))) ?_
  refine x_st (e_st rfl rfl Tryz.sizeOf4 rfl rfl rfl rfl) rfl rfl rfl (by repeat (first | exact List.nil_sublist _ | exact List.Sublist.refl _ | exact List.sublist_append_right _ _ | apply List.Sublist.cons_cons | apply List.Sublist.cons | refine List.Sublist.trans ?_ (List.sublist_append_right _ _))) ?_
  refine gx_tail ?_
  refine t_q (q_fa rfl Tryz.runUnderlying64 rfl Tryz.sizeOf62) rfl rfl rfl ?_
  refine t_q (q_fa rfl Tryz.runUnderlying62 rfl Tryz.sizeOf3) rfl rfl rfl ?_
  refine t_st (e_st rfl rfl Tryz.sizeOf3 rfl rfl rfl rfl) rfl rfl rfl ?_
  refine gt_nil ?_
  refine tn ?_
  refine gc_seq ?_
  refine gc_seq ?_
  refine gc_region ?_
  refine sq (q_fa rfl Tryz.runUnderlying368 rfl Tryz.sizeOf4) rfl rfl ?_
  refine sq (q_ld rfl Tryz.isAgg4 rfl) rfl rfl ?_
  refine go_nil ?_
  refine tn ?_
  refine gc_if rfl (fun h7 => ?_) (fun h7 => ?_)
  · refine gc_seq ?_
    refine gc_region ?_
    refine sq (q_fa rfl Tryz.runUnderlying29 rfl Tryz.sizeOf3) rfl rfl ?_
    refine sq (q_ld rfl Tryz.isAgg3 rfl) rfl rfl ?_
    refine s_callE (e_call (doorOpen_spec _) rfl en290) rfl rfl ?_
    refine s_new (e_alloc Tryz.zeroValue238 rfl) rfl rfl fun b8 => ?_
    refine s_st (e_st rfl rfl Tryz.sizeOf238 rfl rfl rfl rfl) rfl rfl ?_
    refine go_nil ?_
    refine tn ?_
    refine gc_seq ?_
    refine gc_draw (ord := [(0, true), (1, true), (2, true), (3, true), (4, false), (5, false), (6, false)]) [7, 8] mixed (by kernel_rfl) rfl (by kernel_rfl) (.cons_cons _ (.cons_cons _ (.cons_cons _ (.cons_cons _ (.cons_cons _ (.cons _ (.cons_cons _ (.slnil)))))))) ?_
    refine gx_q (q_fa rfl Tryz.runUnderlying238 rfl Tryz.sizeOf3) rfl rfl rfl ?_
    refine gx_q (q_ld rfl Tryz.isAgg3 rfl) rfl rfl rfl ?_
    refine gx_q (q_fa rfl Tryz.runUnderlying238 rfl Tryz.sizeOf3) rfl rfl rfl ?_
    refine gx_q (q_ld rfl Tryz.isAgg3 rfl) rfl rfl rfl ?_
    refine x_qe (q_fa rfl Tryz.runUnderlying64 rfl Tryz.sizeOf62) rfl rfl rfl (by repeat (first | exact List.nil_sublist _ | exact List.Sublist.refl _ | exact List.sublist_append_right _ _ | apply List.Sublist.cons_cons | apply List.Sublist.cons | refine List.Sublist.trans ?_ (List.sublist_append_right _ _))) ?_
    refine x_qe (q_fa rfl Tryz.runUnderlying62 rfl Tryz.sizeOf3) rfl rfl rfl (by repeat (first | exact List.nil_sublist _ | exact List.Sublist.refl _ | exact List.sublist_append_right _ _ | apply List.Sublist.cons_cons | apply List.Sublist.cons | refine List.Sublist.trans ?_ (List.sublist_append_right _ _))) ?_
    refine x_st (e_st rfl rfl Tryz.sizeOf3 rfl rfl rfl rfl) rfl rfl rfl (by repeat (first | exact List.nil_sublist _ | exact List.Sublist.refl _ | exact List.sublist_append_right _ _ | apply List.Sublist.cons_cons | apply List.Sublist.cons | refine List.Sublist.trans ?_ (List.sublist_append_right _ _))) ?_
    refine gx_tail ?_
    refine t_q (q_fa rfl Tryz.runUnderlying64 rfl Tryz.sizeOf3) rfl rfl rfl ?_
    refine t_st (e_st rfl rfl Tryz.sizeOf3 rfl rfl rfl rfl) rfl rfl rfl ?_
    refine gt_nil ?_
    refine tn ?_
    refine gc_seq ?_
    refine gc_region ?_
    refine sq (q_fa rfl Tryz.runUnderlying368 rfl Tryz.sizeOf3) rfl rfl ?_
    refine sq (q_ld rfl Tryz.isAgg3 rfl) rfl rfl ?_
    refine sq (q_bld rfl Tryz.runUnderlying232 Tryz.zeroValue232 rfl pl232 rfl) rfl rfl ?_
    refine s_new (e_alloc Tryz.zeroValue232 rfl) rfl rfl fun b9 => ?_
    refine s_st (e_st rfl rfl Tryz.sizeOf232 rfl rfl rfl rfl) rfl rfl ?_
    refine go_nil ?_
    refine tn ?_
    refine gc_seq ?_
    refine gc_seq ?_
    refine gc_region ?_
    refine sq (q_lda rfl Tryz.isAgg213 Tryz.sizeOf213 rfl) rfl rfl ?_
    refine sq (q_mv rfl) rfl rfl ?_
    refine s_callE (e_call (aat_spec s _) rfl en138) rfl rfl ?_
    refine go_nil ?_
    refine tn ?_
    refine gc_if rfl (fun h10 => ?_) (fun h10 => ?_)
    · refine gc_region ?_
      refine sq (q_mv rfl) rfl rfl ?_
      refine sq (q_shlU (a := 1#64) rfl rfl (by have := floorAt_b h c.s.pos; omega)) rfl rfl ?_
      refine sq (q_fa rfl Tryz.runUnderlying232 rfl Tryz.sizeOf213) rfl rfl ?_
      refine sq (q_fa rfl Tryz.runUnderlying213 rfl Tryz.sizeOf211) rfl rfl ?_
      refine s_st (e_st rfl rfl Tryz.sizeOf211 rfl rfl rfl rfl) rfl rfl ?_
      refine go_nil ?_
      refine tn ?_
      refine gc_seq ?_
      refine gc_seq ?_
      refine gc_region ?_
      refine sq (q_lda rfl Tryz.isAgg213 Tryz.sizeOf213 rfl) rfl rfl ?_
      refine sq (q_mv rfl) rfl rfl ?_
      refine sq (q_fa rfl Tryz.runUnderlying368 rfl Tryz.sizeOf3) rfl rfl ?_
      refine sq (q_ld rfl Tryz.isAgg3 rfl) rfl rfl ?_
      refine s_callE (e_call (hall_spec s _ _) rfl en140) rfl rfl ?_
      refine go_nil ?_
      refine tn ?_
      refine gc_if rfl (fun h11 => ?_) (fun h11 => ?_)
      · refine gc_region ?_
        refine sq (q_fa rfl Tryz.runUnderlying232 rfl Tryz.sizeOf213) rfl rfl ?_
        refine sq (q_lda rfl Tryz.isAgg213 Tryz.sizeOf213 rfl) rfl rfl ?_
        refine sq (q_mv rfl) rfl rfl ?_
        refine sq (q_fa rfl Tryz.runUnderlying368 rfl Tryz.sizeOf3) rfl rfl ?_
        refine sq (q_ld rfl Tryz.isAgg3 rfl) rfl rfl ?_
        refine sq (q_bld rfl Tryz.runUnderlying70 Tryz.zeroValue70 rfl pl70 rfl) rfl rfl ?_
        refine s_callE (e_call (put_spec ⟨1#64 <<< (floorAt h c.s.pos).toNat, 0#64, 0#64⟩ _ _) rfl en276) rfl rfl ?_
        refine sq (q_fa rfl Tryz.runUnderlying232 rfl Tryz.sizeOf213) rfl rfl ?_
        refine s_st (e_st rfl rfl Tryz.sizeOf213 rfl rfl rfl rfl) rfl rfl ?_
        refine go_nil ?_
        refine tn ?_
        refine gc_seq ?_
        refine gc_draw (ord := [(0, true), (1, true), (2, false)]) [3] mixed (by kernel_rfl) rfl (by kernel_rfl) (.cons_cons _ (.cons_cons _ (.cons_cons _ (.cons_cons _ (.cons _ (.cons_cons _ (.cons_cons _ (.cons_cons _ (.slnil))))))))) ?_
        refine gx_q (q_lda rfl Tryz.isAgg64 Tryz.sizeOf64 rfl) rfl rfl rfl ?_
        refine gx_q (q_lda rfl Tryz.isAgg232 Tryz.sizeOf232 rfl) rfl rfl rfl ?_
        refine x_st (e_st rfl rfl Tryz.sizeOf64 rfl rfl rfl rfl) rfl rfl rfl (by repeat (first | exact List.nil_sublist _ | exact List.Sublist.refl _ | exact List.sublist_append_right _ _ | apply List.Sublist.cons_cons | apply List.Sublist.cons | refine List.Sublist.trans ?_ (List.sublist_append_right _ _))) ?_
        refine gx_tail ?_
        refine t_st (e_st rfl rfl Tryz.sizeOf232 rfl rfl rfl rfl) rfl rfl rfl ?_
        refine gt_nil ?_
        refine tn ?_
        refine gc_ret ?_
        refine tr ?_
        refine ret_cc (.inl rfl) rfl rfl Tryz.isAgg64 Tryz.sizeOf64 rfl rfl Tryz.isAgg232 Tryz.sizeOf232 rfl ?_
        exact rsE (by first | rfl | (simp_all [Car.level]; done) | (simp_all [Car.level]; rfl) | (simp_all [Car.level]; omega) | (simp_all [Car.level]; intros; omega) | (simp_all [Car.level]; (repeat' split) <;> first | rfl | (simp_all; done) | omega | (exfalso; omega)) | (simp only [Car.level]; (repeat' split) <;> first | (simp_all; done) | (simp_all; omega) | omega | (exfalso; simp_all; omega)) | (simp_all; (simp only [Car.level]; (repeat' split) <;> first | (simp_all; done) | (simp_all; omega) | omega | (exfalso; simp_all; omega))))
      · refine gc_skip ?_
        refine tn ?_
        refine gc_seq ?_
        refine gc_draw (ord := [(0, true), (1, true), (2, false)]) [3] mixed (by kernel_rfl) rfl (by kernel_rfl) (.cons_cons _ (.cons_cons _ (.cons_cons _ (.cons_cons _ (.cons _ (.cons_cons _ (.cons_cons _ (.cons_cons _ (.slnil))))))))) ?_
        refine gx_q (q_lda rfl Tryz.isAgg64 Tryz.sizeOf64 rfl) rfl rfl rfl ?_
        refine gx_q (q_lda rfl Tryz.isAgg232 Tryz.sizeOf232 rfl) rfl rfl rfl ?_
        refine x_st (e_st rfl rfl Tryz.sizeOf64 rfl rfl rfl rfl) rfl rfl rfl (by repeat (first | exact List.nil_sublist _ | exact List.Sublist.refl _ | exact List.sublist_append_right _ _ | apply List.Sublist.cons_cons | apply List.Sublist.cons | refine List.Sublist.trans ?_ (List.sublist_append_right _ _))) ?_
        refine gx_tail ?_
        refine t_st (e_st rfl rfl Tryz.sizeOf232 rfl rfl rfl rfl) rfl rfl rfl ?_
        refine gt_nil ?_
        refine tn ?_
        refine gc_ret ?_
        refine tr ?_
        refine ret_cc (.inl rfl) rfl rfl Tryz.isAgg64 Tryz.sizeOf64 rfl rfl Tryz.isAgg232 Tryz.sizeOf232 rfl ?_
        exact rsE (by first | rfl | (simp_all [Car.level]; done) | (simp_all [Car.level]; rfl) | (simp_all [Car.level]; omega) | (simp_all [Car.level]; intros; omega) | (simp_all [Car.level]; (repeat' split) <;> first | rfl | (simp_all; done) | omega | (exfalso; omega)) | (simp only [Car.level]; (repeat' split) <;> first | (simp_all; done) | (simp_all; omega) | omega | (exfalso; simp_all; omega)) | (simp_all; (simp only [Car.level]; (repeat' split) <;> first | (simp_all; done) | (simp_all; omega) | omega | (exfalso; simp_all; omega))))
    · refine gc_skip ?_
      refine tn ?_
      refine gc_seq ?_
      refine gc_seq ?_
      refine gc_region ?_
      refine sq (q_lda rfl Tryz.isAgg213 Tryz.sizeOf213 rfl) rfl rfl ?_
      refine sq (q_mv rfl) rfl rfl ?_
      refine sq (q_fa rfl Tryz.runUnderlying368 rfl Tryz.sizeOf3) rfl rfl ?_
      refine sq (q_ld rfl Tryz.isAgg3 rfl) rfl rfl ?_
      refine s_callE (e_call (hall_spec s _ _) rfl en140) rfl rfl ?_
      refine go_nil ?_
      refine tn ?_
      refine gc_if rfl (fun h12 => ?_) (fun h12 => ?_)
      · refine gc_region ?_
        refine sq (q_fa rfl Tryz.runUnderlying232 rfl Tryz.sizeOf213) rfl rfl ?_
        refine sq (q_lda rfl Tryz.isAgg213 Tryz.sizeOf213 rfl) rfl rfl ?_
        refine sq (q_mv rfl) rfl rfl ?_
        refine sq (q_fa rfl Tryz.runUnderlying368 rfl Tryz.sizeOf3) rfl rfl ?_
        refine sq (q_ld rfl Tryz.isAgg3 rfl) rfl rfl ?_
        refine sq (q_bld rfl Tryz.runUnderlying70 Tryz.zeroValue70 rfl pl70 rfl) rfl rfl ?_
        refine s_callE (e_call (put_spec Stops.none _ _) rfl en276) rfl rfl ?_
        refine sq (q_fa rfl Tryz.runUnderlying232 rfl Tryz.sizeOf213) rfl rfl ?_
        refine s_st (e_st rfl rfl Tryz.sizeOf213 rfl rfl rfl rfl) rfl rfl ?_
        refine go_nil ?_
        refine tn ?_
        refine gc_seq ?_
        refine gc_draw (ord := [(0, true), (1, true), (2, false)]) [3] mixed (by kernel_rfl) rfl (by kernel_rfl) (.cons_cons _ (.cons_cons _ (.cons_cons _ (.cons_cons _ (.cons _ (.cons_cons _ (.cons_cons _ (.cons_cons _ (.slnil))))))))) ?_
        refine gx_q (q_lda rfl Tryz.isAgg64 Tryz.sizeOf64 rfl) rfl rfl rfl ?_
        refine gx_q (q_lda rfl Tryz.isAgg232 Tryz.sizeOf232 rfl) rfl rfl rfl ?_
        refine x_st (e_st rfl rfl Tryz.sizeOf64 rfl rfl rfl rfl) rfl rfl rfl (by repeat (first | exact List.nil_sublist _ | exact List.Sublist.refl _ | exact List.sublist_append_right _ _ | apply List.Sublist.cons_cons | apply List.Sublist.cons | refine List.Sublist.trans ?_ (List.sublist_append_right _ _))) ?_
        refine gx_tail ?_
        refine t_st (e_st rfl rfl Tryz.sizeOf232 rfl rfl rfl rfl) rfl rfl rfl ?_
        refine gt_nil ?_
        refine tn ?_
        refine gc_ret ?_
        refine tr ?_
        refine ret_cc (.inl rfl) rfl rfl Tryz.isAgg64 Tryz.sizeOf64 rfl rfl Tryz.isAgg232 Tryz.sizeOf232 rfl ?_
        exact rsE (by first | rfl | (simp_all [Car.level]; done) | (simp_all [Car.level]; rfl) | (simp_all [Car.level]; omega) | (simp_all [Car.level]; intros; omega) | (simp_all [Car.level]; (repeat' split) <;> first | rfl | (simp_all; done) | omega | (exfalso; omega)) | (simp only [Car.level]; (repeat' split) <;> first | (simp_all; done) | (simp_all; omega) | omega | (exfalso; simp_all; omega)) | (simp_all; (simp only [Car.level]; (repeat' split) <;> first | (simp_all; done) | (simp_all; omega) | omega | (exfalso; simp_all; omega))))
      · refine gc_skip ?_
        refine tn ?_
        refine gc_seq ?_
        refine gc_draw (ord := [(0, true), (1, true), (2, false)]) [3] mixed (by kernel_rfl) rfl (by kernel_rfl) (.cons_cons _ (.cons_cons _ (.cons_cons _ (.cons_cons _ (.cons _ (.cons_cons _ (.cons_cons _ (.cons_cons _ (.slnil))))))))) ?_
        refine gx_q (q_lda rfl Tryz.isAgg64 Tryz.sizeOf64 rfl) rfl rfl rfl ?_
        refine gx_q (q_lda rfl Tryz.isAgg232 Tryz.sizeOf232 rfl) rfl rfl rfl ?_
        refine x_st (e_st rfl rfl Tryz.sizeOf64 rfl rfl rfl rfl) rfl rfl rfl (by repeat (first | exact List.nil_sublist _ | exact List.Sublist.refl _ | exact List.sublist_append_right _ _ | apply List.Sublist.cons_cons | apply List.Sublist.cons | refine List.Sublist.trans ?_ (List.sublist_append_right _ _))) ?_
        refine gx_tail ?_
        refine t_st (e_st rfl rfl Tryz.sizeOf232 rfl rfl rfl rfl) rfl rfl rfl ?_
        refine gt_nil ?_
        refine tn ?_
        refine gc_ret ?_
        refine tr ?_
        refine ret_cc (.inl rfl) rfl rfl Tryz.isAgg64 Tryz.sizeOf64 rfl rfl Tryz.isAgg232 Tryz.sizeOf232 rfl ?_
        exact rsE (by first | rfl | (simp_all [Car.level]; done) | (simp_all [Car.level]; rfl) | (simp_all [Car.level]; omega) | (simp_all [Car.level]; intros; omega) | (simp_all [Car.level]; (repeat' split) <;> first | rfl | (simp_all; done) | omega | (exfalso; omega)) | (simp only [Car.level]; (repeat' split) <;> first | (simp_all; done) | (simp_all; omega) | omega | (exfalso; simp_all; omega)) | (simp_all; (simp only [Car.level]; (repeat' split) <;> first | (simp_all; done) | (simp_all; omega) | omega | (exfalso; simp_all; omega))))
  · refine gc_skip ?_
    refine tn ?_
    refine gc_seq ?_
    refine gc_region ?_
    refine sq (q_lda rfl Tryz.isAgg29 Tryz.sizeOf29 rfl) rfl rfl ?_
    refine sq (q_fa rfl Tryz.runUnderlying64 rfl Tryz.sizeOf62) rfl rfl ?_
    refine sq (q_fa rfl Tryz.runUnderlying62 rfl Tryz.sizeOf3) rfl rfl ?_
    refine sq (q_ld rfl Tryz.isAgg3 rfl) rfl rfl ?_
    refine sq (q_fa rfl Tryz.runUnderlying368 rfl Tryz.sizeOf3) rfl rfl ?_
    refine sq (q_ld rfl Tryz.isAgg3 rfl) rfl rfl ?_
    refine s_callE (e_call (goTo_spec h _ _) rfl en288) rfl rfl ?_
    refine sq (q_mv rfl) rfl rfl ?_
    refine sq (q_ext rfl rfl) rfl rfl ?_
    refine sq (q_ext rfl rfl) rfl rfl ?_
    refine sq (q_as rfl) rfl rfl ?_
    refine sq (q_as rfl) rfl rfl ?_
    refine go_nil ?_
    refine tn ?_
    refine gc_seq ?_
    refine gc_seq ?_
    refine gc_region ?_
    refine sq (q_mv rfl) rfl rfl ?_
    refine sq (q_not rfl) rfl rfl ?_
    refine sq (q_mv rfl) rfl rfl ?_
    refine bsp (fun h13 => ?_) (fun h13 => ?_)
    · refine sskip rfl rfl ?_
      refine sskip rfl rfl ?_
      refine sskip rfl rfl ?_
      refine sq (q_pick rfl rfl) rfl rfl ?_
      refine go_nil ?_
      refine tn ?_
      refine gc_true rfl ?_
      refine gc_seq ?_
      refine gc_region ?_
      refine sq (q_lda rfl Tryz.isAgg64 Tryz.sizeOf64 rfl) rfl rfl ?_
      refine sq (q_bld rfl Tryz.runUnderlying232 Tryz.zeroValue232 rfl pl232 rfl) rfl rfl ?_
      refine s_st (e_st rfl rfl Tryz.sizeOf64 rfl rfl rfl rfl) rfl rfl ?_
      refine s_st (e_st rfl rfl Tryz.sizeOf232 rfl rfl rfl rfl) rfl rfl ?_
      refine go_nil ?_
      refine tn ?_
      refine gc_ret ?_
      refine tr ?_
      refine ret_cc (.inl rfl) rfl rfl Tryz.isAgg64 Tryz.sizeOf64 rfl rfl Tryz.isAgg232 Tryz.sizeOf232 rfl ?_
      exact rsE (by first | rfl | (simp_all [Car.level]; done) | (simp_all [Car.level]; rfl) | (simp_all [Car.level]; omega) | (simp_all [Car.level]; intros; omega) | (simp_all [Car.level]; (repeat' split) <;> first | rfl | (simp_all; done) | omega | (exfalso; omega)) | (simp only [Car.level]; (repeat' split) <;> first | (simp_all; done) | (simp_all; omega) | omega | (exfalso; simp_all; omega)) | (simp_all; (simp only [Car.level]; (repeat' split) <;> first | (simp_all; done) | (simp_all; omega) | omega | (exfalso; simp_all; omega))))
    · refine sq (q_fa rfl Tryz.runUnderlying368 rfl Tryz.sizeOf3) rfl rfl ?_
      refine sq (q_ld rfl Tryz.isAgg3 rfl) rfl rfl ?_
      refine sq (q_eql rfl rfl) rfl rfl ?_
      refine sq (q_pick rfl rfl) rfl rfl ?_
      refine go_nil ?_
      refine tn ?_
      refine gc_if rfl (fun h14 => ?_) (fun h14 => ?_)
      · refine gc_seq ?_
        refine gc_region ?_
        refine sq (q_lda rfl Tryz.isAgg64 Tryz.sizeOf64 rfl) rfl rfl ?_
        refine sq (q_bld rfl Tryz.runUnderlying232 Tryz.zeroValue232 rfl pl232 rfl) rfl rfl ?_
        refine s_st (e_st rfl rfl Tryz.sizeOf64 rfl rfl rfl rfl) rfl rfl ?_
        refine s_st (e_st rfl rfl Tryz.sizeOf232 rfl rfl rfl rfl) rfl rfl ?_
        refine go_nil ?_
        refine tn ?_
        refine gc_ret ?_
        refine tr ?_
        refine ret_cc (.inl rfl) rfl rfl Tryz.isAgg64 Tryz.sizeOf64 rfl rfl Tryz.isAgg232 Tryz.sizeOf232 rfl ?_
        exact rsE (by first | rfl | (simp_all [Car.level]; done) | (simp_all [Car.level]; rfl) | (simp_all [Car.level]; omega) | (simp_all [Car.level]; intros; omega) | (simp_all [Car.level]; (repeat' split) <;> first | rfl | (simp_all; done) | omega | (exfalso; omega)) | (simp only [Car.level]; (repeat' split) <;> first | (simp_all; done) | (simp_all; omega) | omega | (exfalso; simp_all; omega)) | (simp_all; (simp only [Car.level]; (repeat' split) <;> first | (simp_all; done) | (simp_all; omega) | omega | (exfalso; simp_all; omega))))
      · refine gc_skip ?_
        refine tn ?_
        refine gc_seq ?_
        refine gc_region ?_
        refine sq (q_mv rfl) rfl rfl ?_
        refine sq (q_fa rfl Tryz.runUnderlying64 rfl Tryz.sizeOf62) rfl rfl ?_
        refine sq (q_fa rfl Tryz.runUnderlying62 rfl Tryz.sizeOf3) rfl rfl ?_
        refine s_st (e_st rfl rfl Tryz.sizeOf3 rfl rfl rfl rfl) rfl rfl ?_
        refine go_nil ?_
        refine tn ?_
        refine gc_seq ?_
        refine gc_draw (ord := [(0, true), (1, true), (2, true), (3, true), (4, false)]) [5] mixed (by kernel_rfl) rfl (by kernel_rfl) (.cons_cons _ (.cons_cons _ (.cons _ (.cons_cons _ (.cons_cons _ (.cons_cons _ (.slnil))))))) ?_
        refine gx_q (q_lda rfl Tryz.isAgg64 Tryz.sizeOf64 rfl) rfl rfl rfl ?_
        refine gx_q (q_fa rfl Tryz.runUnderlying368 rfl Tryz.sizeOf3) rfl rfl rfl ?_
        refine gx_q (q_ld rfl Tryz.isAgg3 rfl) rfl rfl rfl ?_
        refine gx_q (q_bld rfl Tryz.runUnderlying232 Tryz.zeroValue232 rfl pl232 rfl) rfl rfl rfl ?_
        refine x_st (e_st rfl rfl Tryz.sizeOf64 rfl rfl rfl rfl) rfl rfl rfl (by repeat (first | exact List.nil_sublist _ | exact List.Sublist.refl _ | exact List.sublist_append_right _ _ | apply List.Sublist.cons_cons | apply List.Sublist.cons | refine List.Sublist.trans ?_ (List.sublist_append_right _ _))) ?_
        refine gx_tail ?_
        refine t_st (e_st rfl rfl Tryz.sizeOf232 rfl rfl rfl rfl) rfl rfl rfl ?_
        refine gt_nil ?_
        refine tn ?_
        refine gc_ret ?_
        refine ret_cc (.inl rfl) rfl rfl Tryz.isAgg64 Tryz.sizeOf64 rfl rfl Tryz.isAgg232 Tryz.sizeOf232 rfl ?_
        exact rsE (by first | rfl | (simp_all [Car.level]; done) | (simp_all [Car.level]; rfl) | (simp_all [Car.level]; omega) | (simp_all [Car.level]; intros; omega) | (simp_all [Car.level]; (repeat' split) <;> first | rfl | (simp_all; done) | omega | (exfalso; omega)) | (simp only [Car.level]; (repeat' split) <;> first | (simp_all; done) | (simp_all; omega) | omega | (exfalso; simp_all; omega)) | (simp_all; (simp only [Car.level]; (repeat' split) <;> first | (simp_all; done) | (simp_all; omega) | omega | (exfalso; simp_all; omega))))

set_option maxRecDepth 4000 in
set_option maxHeartbeats 2000000 in
theorem ctick_spec (h : House) (c : Car) (s : Stops) (o : Bool) :
    Spec Tryz.prog 137 [h.v, c.v, s.v, .bool o] [] dbt (fun v L => v = .tuple #[(c.tick h s o).1.v, (c.tick h s o).2.v] ∧ L = []) := by
  refine spec_of Tryz.func137 rfl Tryz.ntmps137 (by simp) fun w0 hb => ?_
  refine gc_seq ?_
  refine gc_region ?_
  refine s_new (e_box rfl rfl) rfl rfl fun b1 => ?_
  refine s_new (e_box rfl rfl) rfl rfl fun b2 => ?_
  refine s_new (e_box rfl rfl) rfl rfl fun b3 => ?_
  refine s_new (e_alloc Tryz.zeroValue64 rfl) rfl rfl fun b4 => ?_
  refine s_new (e_alloc Tryz.zeroValue232 rfl) rfl rfl fun b5 => ?_
  refine go_nil ?_
  refine tn ?_
  refine gc_seq ?_
  refine gc_seq ?_
  refine gc_region ?_
  refine sq (q_lda rfl Tryz.isAgg29 Tryz.sizeOf29 rfl) rfl rfl ?_
  refine sq (q_lda rfl Tryz.isAgg64 Tryz.sizeOf64 rfl) rfl rfl ?_
  refine s_callE (e_call (cright_spec h c) rfl en225) rfl rfl ?_
  refine sq (q_not rfl) rfl rfl ?_
  refine go_nil ?_
  refine tn ?_
  refine gc_if rfl (fun h6 => ?_) (fun h6 => ?_)
  · refine gc_seq ?_
    refine gc_region ?_
    refine sq (q_lda rfl Tryz.isAgg64 Tryz.sizeOf64 rfl) rfl rfl ?_
    refine sq (q_bld rfl Tryz.runUnderlying232 Tryz.zeroValue232 rfl pl232 rfl) rfl rfl ?_
    refine s_st (e_st rfl rfl Tryz.sizeOf64 rfl rfl rfl rfl) rfl rfl ?_
    refine s_st (e_st rfl rfl Tryz.sizeOf232 rfl rfl rfl rfl) rfl rfl ?_
    refine go_nil ?_
    refine tn ?_
    refine gc_ret ?_
    refine tr ?_
    refine ret_cc (.inl rfl) rfl rfl Tryz.isAgg64 Tryz.sizeOf64 rfl rfl Tryz.isAgg232 Tryz.sizeOf232 rfl ?_
    exact rsE (by first | rfl | (simp_all [Car.tick]; done) | (simp_all [Car.tick]; rfl) | (simp_all [Car.tick]; omega) | (simp_all [Car.tick]; intros; omega) | (simp_all [Car.tick]; (repeat' split) <;> first | rfl | (simp_all; done) | omega | (exfalso; omega)) | (simp only [Car.tick]; (repeat' split) <;> first | (simp_all; done) | (simp_all; omega) | omega | (exfalso; simp_all; omega)) | (simp_all; (simp only [Car.tick]; (repeat' split) <;> first | (simp_all; done) | (simp_all; omega) | omega | (exfalso; simp_all; omega))))
  · refine gc_skip ?_
    refine tn ?_
    refine gc_seq ?_
    refine gc_region ?_
    refine sq (q_lda rfl Tryz.isAgg29 Tryz.sizeOf29 rfl) rfl rfl ?_
    refine sq (q_lda rfl Tryz.isAgg213 Tryz.sizeOf213 rfl) rfl rfl ?_
    refine s_callE (e_call (house_spec h s (right_ok (c := c) (by simp_all))) rfl en226) rfl rfl ?_
    refine s_st (e_st rfl rfl Tryz.sizeOf213 rfl rfl rfl rfl) rfl rfl ?_
    refine go_nil ?_
    refine tn ?_
    refine gc_seq ?_
    refine gc_region ?_
    refine s_new (e_alloc Tryz.zeroValue232 rfl) rfl rfl fun b7 => ?_
    refine go_nil ?_
    refine tn ?_
    refine gc_seq ?_
    refine gc_block ?_
    refine gc_seq ?_
    refine gc_region ?_
    refine sq (q_fa rfl Tryz.runUnderlying64 rfl Tryz.sizeOf62) rfl rfl ?_
    refine sq (q_fa rfl Tryz.runUnderlying62 rfl Tryz.sizeOf3) rfl rfl ?_
    refine sq (q_ld rfl Tryz.isAgg3 rfl) rfl rfl ?_
    refine sq (q_gtr rfl rfl) rfl rfl ?_
    refine sq (q_as rfl) rfl rfl ?_
    refine go_nil ?_
    refine tn ?_
    refine gc_if rfl (fun h8 => ?_) (fun h8 => ?_)
    · refine gc_seq ?_
      refine gc_region ?_
      refine sq (q_fa rfl Tryz.runUnderlying64 rfl Tryz.sizeOf62) rfl rfl ?_
      refine sq (q_fa rfl Tryz.runUnderlying62 rfl Tryz.sizeOf3) rfl rfl ?_
      refine sq (q_ld rfl Tryz.isAgg3 rfl) rfl rfl ?_
      refine sq (q_fa rfl Tryz.runUnderlying64 rfl Tryz.sizeOf3) rfl rfl ?_
      refine sq (q_ld rfl Tryz.isAgg3 rfl) rfl rfl ?_
      refine sq (q_bld rfl Tryz.runUnderlying238 Tryz.zeroValue238 rfl pl238 rfl) rfl rfl ?_
      refine sq (q_mv rfl) rfl rfl ?_
      refine s_callE (e_call (doorTick_spec ⟨_, _⟩ o) rfl en227) rfl rfl ?_
      refine sq (q_mv rfl) rfl rfl ?_
      refine sq (q_ext rfl rfl) rfl rfl ?_
      refine sq (q_ext rfl rfl) rfl rfl ?_
      refine s_new (e_alloc Tryz.zeroValue238 rfl) rfl rfl fun b9 => ?_
      refine s_st (e_st rfl rfl Tryz.sizeOf238 rfl rfl rfl rfl) rfl rfl ?_
      refine sq (q_as rfl) rfl rfl ?_
      refine go_nil ?_
      refine tn ?_
      refine gc_draw (ord := [(0, true), (1, true), (2, true), (3, true), (4, true), (5, false), (6, false), (7, false), (8, false), (9, false)]) [10, 11] mixed (by kernel_rfl) rfl (by kernel_rfl) (.cons_cons _ (.cons_cons _ (.cons_cons _ (.cons_cons _ (.cons_cons _ (.cons _ (.cons_cons _ (.slnil)))))))) ?_
      refine gx_q (q_fa rfl Tryz.runUnderlying238 rfl Tryz.sizeOf3) rfl rfl rfl ?_
      refine gx_q (q_ld rfl Tryz.isAgg3 rfl) rfl rfl rfl ?_
      refine gx_q (q_fa rfl Tryz.runUnderlying238 rfl Tryz.sizeOf3) rfl rfl rfl ?_
      refine gx_q (q_ld rfl Tryz.isAgg3 rfl) rfl rfl rfl ?_
      refine gx_q (q_mv rfl) rfl rfl rfl ?_
      refine x_qe (q_fa rfl Tryz.runUnderlying64 rfl Tryz.sizeOf62) rfl rfl rfl (by repeat (first | exact List.nil_sublist _ | exact List.Sublist.refl _ | exact List.sublist_append_right _ _ | apply List.Sublist.cons_cons | apply List.Sublist.cons | refine List.Sublist.trans ?_ (List.sublist_append_right _ _))) ?_
      refine x_qe (q_fa rfl Tryz.runUnderlying62 rfl Tryz.sizeOf3) rfl rfl rfl (by repeat (first | exact List.nil_sublist _ | exact List.Sublist.refl _ | exact List.sublist_append_right _ _ | apply List.Sublist.cons_cons | apply List.Sublist.cons | refine List.Sublist.trans ?_ (List.sublist_append_right _ _))) ?_
      refine x_st (e_st rfl rfl Tryz.sizeOf3 rfl rfl rfl rfl) rfl rfl rfl (by repeat (first | exact List.nil_sublist _ | exact List.Sublist.refl _ | exact List.sublist_append_right _ _ | apply List.Sublist.cons_cons | apply List.Sublist.cons | refine List.Sublist.trans ?_ (List.sublist_append_right _ _))) ?_
      refine x_qe (q_fa rfl Tryz.runUnderlying64 rfl Tryz.sizeOf3) rfl rfl rfl (by repeat (first | exact List.nil_sublist _ | exact List.Sublist.refl _ | exact List.sublist_append_right _ _ | apply List.Sublist.cons_cons | apply List.Sublist.cons | refine List.Sublist.trans ?_ (List.sublist_append_right _ _))) ?_
      refine x_st (e_st rfl rfl Tryz.sizeOf3 rfl rfl rfl rfl) rfl rfl rfl (by repeat (first | exact List.nil_sublist _ | exact List.Sublist.refl _ | exact List.sublist_append_right _ _ | apply List.Sublist.cons_cons | apply List.Sublist.cons | refine List.Sublist.trans ?_ (List.sublist_append_right _ _))) ?_
      refine gx_tail ?_
      refine t_q (q_fa rfl Tryz.runUnderlying232 rfl Tryz.sizeOf4) rfl rfl rfl ?_
      refine t_st (e_st rfl rfl Tryz.sizeOf4 rfl rfl rfl rfl) rfl rfl rfl ?_
      refine gt_nil ?_
      refine bn (tn ?_)
      refine gc_seq ?_
      refine gc_region ?_
      refine sq (q_lda rfl Tryz.isAgg29 Tryz.sizeOf29 rfl) rfl rfl ?_
      refine sq (q_fa rfl Tryz.runUnderlying64 rfl Tryz.sizeOf62) rfl rfl ?_
      refine sq (q_fa rfl Tryz.runUnderlying62 rfl Tryz.sizeOf3) rfl rfl ?_
      refine sq (q_ld rfl Tryz.isAgg3 rfl) rfl rfl ?_
      refine s_callE (e_call (floor_spec h _) rfl en162) rfl rfl ?_
      refine sq (q_fa rfl Tryz.runUnderlying232 rfl Tryz.sizeOf3) rfl rfl ?_
      refine s_st (e_st rfl rfl Tryz.sizeOf3 rfl rfl rfl rfl) rfl rfl ?_
      refine go_nil ?_
      refine tn ?_
      refine gc_seq ?_
      refine gc_draw (ord := [(0, true), (1, true), (2, false)]) [3] mixed (by kernel_rfl) rfl (by kernel_rfl) (.cons_cons _ (.cons_cons _ (.cons_cons _ (.cons _ (.cons_cons _ (.cons_cons _ (.cons_cons _ (.slnil)))))))) ?_
      refine gx_q (q_lda rfl Tryz.isAgg64 Tryz.sizeOf64 rfl) rfl rfl rfl ?_
      refine gx_q (q_lda rfl Tryz.isAgg232 Tryz.sizeOf232 rfl) rfl rfl rfl ?_
      refine x_st (e_st rfl rfl Tryz.sizeOf64 rfl rfl rfl rfl) rfl rfl rfl (by repeat (first | exact List.nil_sublist _ | exact List.Sublist.refl _ | exact List.sublist_append_right _ _ | apply List.Sublist.cons_cons | apply List.Sublist.cons | refine List.Sublist.trans ?_ (List.sublist_append_right _ _))) ?_
      refine gx_tail ?_
      refine t_st (e_st rfl rfl Tryz.sizeOf232 rfl rfl rfl rfl) rfl rfl rfl ?_
      refine gt_nil ?_
      refine tn ?_
      refine gc_ret ?_
      refine ret_cc (.inl rfl) rfl rfl Tryz.isAgg64 Tryz.sizeOf64 rfl rfl Tryz.isAgg232 Tryz.sizeOf232 rfl ?_
      exact rsE (by first | rfl | (simp_all [Car.tick]; done) | (simp_all [Car.tick]; rfl) | (simp_all [Car.tick]; omega) | (simp_all [Car.tick]; intros; omega) | (simp_all [Car.tick]; (repeat' split) <;> first | rfl | (simp_all; done) | omega | (exfalso; omega)) | (simp only [Car.tick]; (repeat' split) <;> first | (simp_all; done) | (simp_all; omega) | omega | (exfalso; simp_all; omega)) | (simp_all; (simp only [Car.tick]; (repeat' split) <;> first | (simp_all; done) | (simp_all; omega) | omega | (exfalso; simp_all; omega))))
    · refine gc_seq ?_
      refine gc_region ?_
      refine sq (q_lda rfl Tryz.isAgg29 Tryz.sizeOf29 rfl) rfl rfl ?_
      refine sq (q_fa rfl Tryz.runUnderlying64 rfl Tryz.sizeOf62) rfl rfl ?_
      refine sq (q_fa rfl Tryz.runUnderlying62 rfl Tryz.sizeOf3) rfl rfl ?_
      refine sq (q_ld rfl Tryz.isAgg3 rfl) rfl rfl ?_
      refine s_callE (e_call (level_spec h _) rfl en153) rfl rfl ?_
      refine sq (q_not rfl) rfl rfl ?_
      refine sq (q_as rfl) rfl rfl ?_
      refine go_nil ?_
      refine tn ?_
      refine gc_if rfl (fun h10 => ?_) (fun h10 => ?_)
      · refine gc_region ?_
        refine sq (q_lda rfl Tryz.isAgg29 Tryz.sizeOf29 rfl) rfl rfl ?_
        refine sq (q_lda rfl Tryz.isAgg64 Tryz.sizeOf64 rfl) rfl rfl ?_
        refine s_callE (e_call (cbetween_spec h c) rfl en228) rfl rfl ?_
        refine sq (q_mv rfl) rfl rfl ?_
        refine sq (q_ext rfl rfl) rfl rfl ?_
        refine sq (q_ext rfl rfl) rfl rfl ?_
        refine s_st (e_st rfl rfl Tryz.sizeOf64 rfl rfl rfl rfl) rfl rfl ?_
        refine s_st (e_st rfl rfl Tryz.sizeOf232 rfl rfl rfl rfl) rfl rfl ?_
        refine go_nil ?_
        refine bn (tn ?_)
        refine gc_seq ?_
        refine gc_region ?_
        refine sq (q_lda rfl Tryz.isAgg29 Tryz.sizeOf29 rfl) rfl rfl ?_
        refine sq (q_fa rfl Tryz.runUnderlying64 rfl Tryz.sizeOf62) rfl rfl ?_
        refine sq (q_fa rfl Tryz.runUnderlying62 rfl Tryz.sizeOf3) rfl rfl ?_
        refine sq (q_ld rfl Tryz.isAgg3 rfl) rfl rfl ?_
        refine s_callE (e_call (floor_spec h _) rfl en162) rfl rfl ?_
        refine sq (q_fa rfl Tryz.runUnderlying232 rfl Tryz.sizeOf3) rfl rfl ?_
        refine s_st (e_st rfl rfl Tryz.sizeOf3 rfl rfl rfl rfl) rfl rfl ?_
        refine go_nil ?_
        refine tn ?_
        refine gc_seq ?_
        refine gc_draw (ord := [(0, true), (1, true), (2, false)]) [3] mixed (by kernel_rfl) rfl (by kernel_rfl) (.cons_cons _ (.cons_cons _ (.cons _ (.cons_cons _ (.cons_cons _ (.cons_cons _ (.slnil))))))) ?_
        refine gx_q (q_lda rfl Tryz.isAgg64 Tryz.sizeOf64 rfl) rfl rfl rfl ?_
        refine gx_q (q_lda rfl Tryz.isAgg232 Tryz.sizeOf232 rfl) rfl rfl rfl ?_
        refine x_st (e_st rfl rfl Tryz.sizeOf64 rfl rfl rfl rfl) rfl rfl rfl (by repeat (first | exact List.nil_sublist _ | exact List.Sublist.refl _ | exact List.sublist_append_right _ _ | apply List.Sublist.cons_cons | apply List.Sublist.cons | refine List.Sublist.trans ?_ (List.sublist_append_right _ _))) ?_
        refine gx_tail ?_
        refine t_st (e_st rfl rfl Tryz.sizeOf232 rfl rfl rfl rfl) rfl rfl rfl ?_
        refine gt_nil ?_
        refine tn ?_
        refine gc_ret ?_
        refine ret_cc (.inl rfl) rfl rfl Tryz.isAgg64 Tryz.sizeOf64 rfl rfl Tryz.isAgg232 Tryz.sizeOf232 rfl ?_
        exact rsE (by first | rfl | (simp_all [Car.tick]; done) | (simp_all [Car.tick]; rfl) | (simp_all [Car.tick]; omega) | (simp_all [Car.tick]; intros; omega) | (simp_all [Car.tick]; (repeat' split) <;> first | rfl | (simp_all; done) | omega | (exfalso; omega)) | (simp only [Car.tick]; (repeat' split) <;> first | (simp_all; done) | (simp_all; omega) | omega | (exfalso; simp_all; omega)) | (simp_all; (simp only [Car.tick]; (repeat' split) <;> first | (simp_all; done) | (simp_all; omega) | omega | (exfalso; simp_all; omega))))
      · refine gc_region ?_
        refine sq (q_lda rfl Tryz.isAgg29 Tryz.sizeOf29 rfl) rfl rfl ?_
        refine sq (q_lda rfl Tryz.isAgg64 Tryz.sizeOf64 rfl) rfl rfl ?_
        refine sq (q_lda rfl Tryz.isAgg213 Tryz.sizeOf213 rfl) rfl rfl ?_
        refine s_callE (e_call (clevel_spec h c _) rfl en229) rfl rfl ?_
        refine sq (q_mv rfl) rfl rfl ?_
        refine sq (q_ext rfl rfl) rfl rfl ?_
        refine sq (q_ext rfl rfl) rfl rfl ?_
        refine s_st (e_st rfl rfl Tryz.sizeOf64 rfl rfl rfl rfl) rfl rfl ?_
        refine s_st (e_st rfl rfl Tryz.sizeOf232 rfl rfl rfl rfl) rfl rfl ?_
        refine go_nil ?_
        refine bn (tn ?_)
        refine gc_seq ?_
        refine gc_region ?_
        refine sq (q_lda rfl Tryz.isAgg29 Tryz.sizeOf29 rfl) rfl rfl ?_
        refine sq (q_fa rfl Tryz.runUnderlying64 rfl Tryz.sizeOf62) rfl rfl ?_
        refine sq (q_fa rfl Tryz.runUnderlying62 rfl Tryz.sizeOf3) rfl rfl ?_
        refine sq (q_ld rfl Tryz.isAgg3 rfl) rfl rfl ?_
        refine s_callE (e_call (floor_spec h _) rfl en162) rfl rfl ?_
        refine sq (q_fa rfl Tryz.runUnderlying232 rfl Tryz.sizeOf3) rfl rfl ?_
        refine s_st (e_st rfl rfl Tryz.sizeOf3 rfl rfl rfl rfl) rfl rfl ?_
        refine go_nil ?_
        refine tn ?_
        refine gc_seq ?_
        refine gc_draw (ord := [(0, true), (1, true), (2, false)]) [3] mixed (by kernel_rfl) rfl (by kernel_rfl) (.cons_cons _ (.cons_cons _ (.cons _ (.cons_cons _ (.cons_cons _ (.cons_cons _ (.slnil))))))) ?_
        refine gx_q (q_lda rfl Tryz.isAgg64 Tryz.sizeOf64 rfl) rfl rfl rfl ?_
        refine gx_q (q_lda rfl Tryz.isAgg232 Tryz.sizeOf232 rfl) rfl rfl rfl ?_
        refine x_st (e_st rfl rfl Tryz.sizeOf64 rfl rfl rfl rfl) rfl rfl rfl (by repeat (first | exact List.nil_sublist _ | exact List.Sublist.refl _ | exact List.sublist_append_right _ _ | apply List.Sublist.cons_cons | apply List.Sublist.cons | refine List.Sublist.trans ?_ (List.sublist_append_right _ _))) ?_
        refine gx_tail ?_
        refine t_st (e_st rfl rfl Tryz.sizeOf232 rfl rfl rfl rfl) rfl rfl rfl ?_
        refine gt_nil ?_
        refine tn ?_
        refine gc_ret ?_
        refine ret_cc (.inl rfl) rfl rfl Tryz.isAgg64 Tryz.sizeOf64 rfl rfl Tryz.isAgg232 Tryz.sizeOf232 rfl ?_
        exact rsE (by first | rfl | (simp_all [Car.tick]; done) | (simp_all [Car.tick]; rfl) | (simp_all [Car.tick]; omega) | (simp_all [Car.tick]; intros; omega) | (simp_all [Car.tick]; (repeat' split) <;> first | rfl | (simp_all; done) | omega | (exfalso; omega)) | (simp only [Car.tick]; (repeat' split) <;> first | (simp_all; done) | (simp_all; omega) | omega | (exfalso; simp_all; omega)) | (simp_all; (simp only [Car.tick]; (repeat' split) <;> first | (simp_all; done) | (simp_all; omega) | omega | (exfalso; simp_all; omega))))
end Go.LL
