/- Part of a claim: contracts of the program's functions, walked op by op. -/
import Derived.Test.YthabegpfnfbmaaaGreatDoorPR
set_option linter.unusedSimpArgs false
set_option linter.unusedVariables false
namespace Go.LL
open Go.Proofs

set_option maxRecDepth 4000 in
set_option maxHeartbeats 2000000 in
theorem between_spec (n l h : Int) :
    Spec Tryz.prog 237 [i6 n, i6 l, i6 h] [] [] (fun v L => v = .bool (decide (l ≤ n ∧ n ≤ h)) ∧ L = []) := by
  refine spec_of Tryz.func237 rfl Tryz.ntmps237 (by simp) fun w0 hb => ?_
  refine gc_seq ?_
  refine gc_region ?_
  refine sq (q_as rfl) rfl rfl ?_
  refine go_nil ?_
  refine tn ?_
  refine gc_seq ?_
  refine gc_region ?_
  refine sq (q_mv rfl) rfl rfl ?_
  refine sq (q_mv rfl) rfl rfl ?_
  refine sq (q_geq rfl rfl) rfl rfl ?_
  refine sq (q_mv rfl) rfl rfl ?_
  refine bsp (fun h1 => ?_) (fun h1 => ?_)
  · refine sq (q_mv rfl) rfl rfl ?_
    refine sq (q_mv rfl) rfl rfl ?_
    refine sq (q_leq rfl rfl) rfl rfl ?_
    refine sq (q_pick rfl rfl) rfl rfl ?_
    refine sq (q_as rfl) rfl rfl ?_
    refine go_nil ?_
    refine tn ?_
    refine gc_ret ?_
    refine ret_1 (.inl rfl) rfl rfl ?_
    exact rsE (by first | rfl | (simp_all; done) | (simp_all; rfl) | (simp_all; omega) | (simp_all; intros; omega) | (simp_all; (repeat' split) <;> first | rfl | (simp_all; done) | omega | (exfalso; omega)))
  · refine sskip rfl rfl ?_
    refine sskip rfl rfl ?_
    refine sskip rfl rfl ?_
    refine sq (q_pick rfl rfl) rfl rfl ?_
    refine sq (q_as rfl) rfl rfl ?_
    refine go_nil ?_
    refine tn ?_
    refine gc_ret ?_
    refine ret_1 (.inl rfl) rfl rfl ?_
    exact rsE (by first | rfl | (simp_all; done) | (simp_all; rfl) | (simp_all; omega) | (simp_all; intros; omega) | (simp_all; (repeat' split) <;> first | rfl | (simp_all; done) | omega | (exfalso; omega)))

set_option maxRecDepth 4000 in
set_option maxHeartbeats 2000000 in
theorem valid_spec (h : House) :
    Spec Tryz.prog 151 [h.v] [] [] (fun v L => v = .bool h.ok ∧ L = []) := by
  refine spec_of Tryz.func151 rfl Tryz.ntmps151 (by simp) fun w0 hb => ?_
  refine gc_seq ?_
  refine gc_region ?_
  refine s_new (e_box rfl rfl) rfl rfl fun b1 => ?_
  refine sq (q_as rfl) rfl rfl ?_
  refine go_nil ?_
  refine tn ?_
  refine gc_seq ?_
  refine gc_region ?_
  refine sq (q_fa rfl Tryz.runUnderlying29 rfl Tryz.sizeOf3) rfl rfl ?_
  refine sq (q_ld rfl Tryz.isAgg3 rfl) rfl rfl ?_
  refine s_callE (e_call (between_spec _ _ _) rfl en237) rfl rfl ?_
  refine sq (q_mv rfl) rfl rfl ?_
  refine bsp (fun h2 => ?_) (fun h2 => ?_)
  · refine sq (q_fa rfl Tryz.runUnderlying29 rfl Tryz.sizeOf3) rfl rfl ?_
    refine sq (q_ld rfl Tryz.isAgg3 rfl) rfl rfl ?_
    refine s_callE (e_call (between_spec _ _ _) rfl en237) rfl rfl ?_
    refine sq (q_pick rfl rfl) rfl rfl ?_
    refine sq (q_mv rfl) rfl rfl ?_
    refine bsp (fun h3 => ?_) (fun h3 => ?_)
    · refine sq (q_fa rfl Tryz.runUnderlying29 rfl Tryz.sizeOf3) rfl rfl ?_
      refine sq (q_ld rfl Tryz.isAgg3 rfl) rfl rfl ?_
      refine s_callE (e_call (between_spec _ _ _) rfl en237) rfl rfl ?_
      refine sq (q_pick rfl rfl) rfl rfl ?_
      refine sq (q_mv rfl) rfl rfl ?_
      refine bsp (fun h4 => ?_) (fun h4 => ?_)
      · refine sq (q_fa rfl Tryz.runUnderlying29 rfl Tryz.sizeOf3) rfl rfl ?_
        refine sq (q_ld rfl Tryz.isAgg3 rfl) rfl rfl ?_
        refine s_callE (e_call (between_spec _ _ _) rfl en237) rfl rfl ?_
        refine sq (q_pick rfl rfl) rfl rfl ?_
        refine sq (q_as rfl) rfl rfl ?_
        refine go_nil ?_
        refine tn ?_
        refine gc_ret ?_
        refine ret_1 (.inl rfl) rfl rfl ?_
        exact rsE (by first | rfl | (simp_all [House.ok]; done) | (simp_all [House.ok]; rfl) | (simp_all [House.ok]; omega) | (simp_all [House.ok]; intros; omega) | (simp_all [House.ok]; (repeat' split) <;> first | rfl | (simp_all; done) | omega | (exfalso; omega)) | (simp only [House.ok]; (repeat' split) <;> first | (simp_all; done) | (simp_all; omega) | omega | (exfalso; simp_all; omega)) | (simp_all; (simp only [House.ok]; (repeat' split) <;> first | (simp_all; done) | (simp_all; omega) | omega | (exfalso; simp_all; omega))))
      · refine sskip rfl rfl ?_
        refine sskip rfl rfl ?_
        refine sskip rfl rfl ?_
        refine sq (q_pick rfl rfl) rfl rfl ?_
        refine sq (q_as rfl) rfl rfl ?_
        refine go_nil ?_
        refine tn ?_
        refine gc_ret ?_
        refine ret_1 (.inl rfl) rfl rfl ?_
        exact rsE (by first | rfl | (simp_all [House.ok]; done) | (simp_all [House.ok]; rfl) | (simp_all [House.ok]; omega) | (simp_all [House.ok]; intros; omega) | (simp_all [House.ok]; (repeat' split) <;> first | rfl | (simp_all; done) | omega | (exfalso; omega)) | (simp only [House.ok]; (repeat' split) <;> first | (simp_all; done) | (simp_all; omega) | omega | (exfalso; simp_all; omega)) | (simp_all; (simp only [House.ok]; (repeat' split) <;> first | (simp_all; done) | (simp_all; omega) | omega | (exfalso; simp_all; omega))))
    · refine sskip rfl rfl ?_
      refine sskip rfl rfl ?_
      refine sskip rfl rfl ?_
      refine sq (q_pick rfl rfl) rfl rfl ?_
      refine sq (q_mv rfl) rfl rfl ?_
      refine sskip rfl rfl ?_
      refine sskip rfl rfl ?_
      refine sskip rfl rfl ?_
      refine sq (q_pick rfl rfl) rfl rfl ?_
      refine sq (q_as rfl) rfl rfl ?_
      refine go_nil ?_
      refine tn ?_
      refine gc_ret ?_
      refine ret_1 (.inl rfl) rfl rfl ?_
      exact rsE (by first | rfl | (simp_all [House.ok]; done) | (simp_all [House.ok]; rfl) | (simp_all [House.ok]; omega) | (simp_all [House.ok]; intros; omega) | (simp_all [House.ok]; (repeat' split) <;> first | rfl | (simp_all; done) | omega | (exfalso; omega)) | (simp only [House.ok]; (repeat' split) <;> first | (simp_all; done) | (simp_all; omega) | omega | (exfalso; simp_all; omega)) | (simp_all; (simp only [House.ok]; (repeat' split) <;> first | (simp_all; done) | (simp_all; omega) | omega | (exfalso; simp_all; omega))))
  · refine sskip rfl rfl ?_
    refine sskip rfl rfl ?_
    refine sskip rfl rfl ?_
    refine sq (q_pick rfl rfl) rfl rfl ?_
    refine sq (q_mv rfl) rfl rfl ?_
    refine sskip rfl rfl ?_
    refine sskip rfl rfl ?_
    refine sskip rfl rfl ?_
    refine sq (q_pick rfl rfl) rfl rfl ?_
    refine sq (q_mv rfl) rfl rfl ?_
    refine sskip rfl rfl ?_
    refine sskip rfl rfl ?_
    refine sskip rfl rfl ?_
    refine sq (q_pick rfl rfl) rfl rfl ?_
    refine sq (q_as rfl) rfl rfl ?_
    refine go_nil ?_
    refine tn ?_
    refine gc_ret ?_
    refine ret_1 (.inl rfl) rfl rfl ?_
    exact rsE (by first | rfl | (simp_all [House.ok]; done) | (simp_all [House.ok]; rfl) | (simp_all [House.ok]; omega) | (simp_all [House.ok]; intros; omega) | (simp_all [House.ok]; (repeat' split) <;> first | rfl | (simp_all; done) | omega | (exfalso; omega)) | (simp only [House.ok]; (repeat' split) <;> first | (simp_all; done) | (simp_all; omega) | omega | (exfalso; simp_all; omega)) | (simp_all; (simp only [House.ok]; (repeat' split) <;> first | (simp_all; done) | (simp_all; omega) | omega | (exfalso; simp_all; omega))))

set_option maxRecDepth 4000 in
set_option maxHeartbeats 2000000 in
theorem top_spec (h : House) :
    Spec Tryz.prog 152 [h.v] [] [] (fun v L => v = i6 (top h) ∧ L = []) := by
  refine spec_of Tryz.func152 rfl Tryz.ntmps152 (by simp) fun w0 hb => ?_
  refine gc_seq ?_
  refine gc_region ?_
  refine s_new (e_box rfl rfl) rfl rfl fun b1 => ?_
  refine sq (q_as rfl) rfl rfl ?_
  refine go_nil ?_
  refine tn ?_
  refine gc_seq ?_
  refine gc_seq ?_
  refine gc_region ?_
  refine sq (q_lda rfl Tryz.isAgg29 Tryz.sizeOf29 rfl) rfl rfl ?_
  refine s_callE (e_call (valid_spec h) rfl en151) rfl rfl ?_
  refine sq (q_not rfl) rfl rfl ?_
  refine go_nil ?_
  refine tn ?_
  refine gc_if rfl (fun h2 => ?_) (fun h2 => ?_)
  · refine gc_seq ?_
    refine gc_region ?_
    refine sq (q_as rfl) rfl rfl ?_
    refine go_nil ?_
    refine tn ?_
    refine gc_ret ?_
    refine tr ?_
    refine ret_1 (.inl rfl) rfl rfl ?_
    exact rsE (by first | (simp_all [top]; done) | (have hk : h.ok = true := (by simp_all); have := House.ok_b hk; have := mul_b (a := h.floors - 1) (b := h.speed) (by omega) (by omega); rw [w64_id (n := h.floors - 1) (by omega), w64_id (by omega)]; simp [top, hk]))
  · refine gc_skip ?_
    refine tn ?_
    refine gc_seq ?_
    refine gc_region ?_
    refine sq (q_fa rfl Tryz.runUnderlying29 rfl Tryz.sizeOf3) rfl rfl ?_
    refine sq (q_ld rfl Tryz.isAgg3 rfl) rfl rfl ?_
    refine sq (q_subw rfl rfl) rfl rfl ?_
    refine sq (q_fa rfl Tryz.runUnderlying29 rfl Tryz.sizeOf3) rfl rfl ?_
    refine sq (q_ld rfl Tryz.isAgg3 rfl) rfl rfl ?_
    refine sq (q_mulw rfl rfl) rfl rfl ?_
    refine sq (q_as rfl) rfl rfl ?_
    refine go_nil ?_
    refine tn ?_
    refine gc_ret ?_
    refine ret_1 (.inl rfl) rfl rfl ?_
    exact rsE (by first | (simp_all [top]; done) | (have hk : h.ok = true := (by simp_all); have := House.ok_b hk; have := mul_b (a := h.floors - 1) (b := h.speed) (by omega) (by omega); rw [w64_id (n := h.floors - 1) (by omega), w64_id (by omega)]; simp [top, hk]))

set_option maxRecDepth 4000 in
set_option maxHeartbeats 2000000 in
theorem level_spec (h : House) (pos : Int) :
    Spec Tryz.prog 153 [h.v, i6 pos] [] [] (fun v L => v = .bool (level h pos) ∧ L = []) := by
  refine spec_of Tryz.func153 rfl Tryz.ntmps153 (by simp) fun w0 hb => ?_
  refine gc_seq ?_
  refine gc_region ?_
  refine s_new (e_box rfl rfl) rfl rfl fun b1 => ?_
  refine sq (q_as rfl) rfl rfl ?_
  refine go_nil ?_
  refine tn ?_
  refine gc_seq ?_
  refine gc_region ?_
  refine sq (q_lda rfl Tryz.isAgg29 Tryz.sizeOf29 rfl) rfl rfl ?_
  refine s_callE (e_call (valid_spec h) rfl en151) rfl rfl ?_
  refine sq (q_mv rfl) rfl rfl ?_
  refine bsp (fun h2 => ?_) (fun h2 => ?_)
  · refine sq (q_mv rfl) rfl rfl ?_
    refine sq (q_lda rfl Tryz.isAgg29 Tryz.sizeOf29 rfl) rfl rfl ?_
    refine s_callE (e_call (top_spec h) rfl en152) rfl rfl ?_
    refine s_callE (e_call (between_spec _ _ _) rfl en237) rfl rfl ?_
    refine sq (q_pick rfl rfl) rfl rfl ?_
    refine sq (q_mv rfl) rfl rfl ?_
    refine bsp (fun h3 => ?_) (fun h3 => ?_)
    · refine sq (q_mv rfl) rfl rfl ?_
      refine sq (q_fa rfl Tryz.runUnderlying29 rfl Tryz.sizeOf3) rfl rfl ?_
      refine sq (q_ld rfl Tryz.isAgg3 rfl) rfl rfl ?_
      refine sq (q_rem rfl rfl (by have := House.ok_b (by simp_all : h.ok = true); omega)) rfl rfl ?_
      refine sq (q_eql rfl rfl) rfl rfl ?_
      refine sq (q_pick rfl rfl) rfl rfl ?_
      refine sq (q_as rfl) rfl rfl ?_
      refine go_nil ?_
      refine tn ?_
      refine gc_ret ?_
      refine ret_1 (.inl rfl) rfl rfl ?_
      exact rsE (by first | rfl | (simp_all [level]; done) | (simp_all [level]; rfl) | (simp_all [level]; omega) | (simp_all [level]; intros; omega) | (simp_all [level]; (repeat' split) <;> first | rfl | (simp_all; done) | omega | (exfalso; omega)) | (simp only [level]; (repeat' split) <;> first | (simp_all; done) | (simp_all; omega) | omega | (exfalso; simp_all; omega)) | (simp_all; (simp only [level]; (repeat' split) <;> first | (simp_all; done) | (simp_all; omega) | omega | (exfalso; simp_all; omega))))
    · refine sskip rfl rfl ?_
      refine sskip rfl rfl ?_
      refine sskip rfl rfl ?_
      refine sskip rfl rfl ?_
      refine sskip rfl rfl ?_
      refine sq (q_pick rfl rfl) rfl rfl ?_
      refine sq (q_as rfl) rfl rfl ?_
      refine go_nil ?_
      refine tn ?_
      refine gc_ret ?_
      refine ret_1 (.inl rfl) rfl rfl ?_
      exact rsE (by first | rfl | (simp_all [level]; done) | (simp_all [level]; rfl) | (simp_all [level]; omega) | (simp_all [level]; intros; omega) | (simp_all [level]; (repeat' split) <;> first | rfl | (simp_all; done) | omega | (exfalso; omega)) | (simp only [level]; (repeat' split) <;> first | (simp_all; done) | (simp_all; omega) | omega | (exfalso; simp_all; omega)) | (simp_all; (simp only [level]; (repeat' split) <;> first | (simp_all; done) | (simp_all; omega) | omega | (exfalso; simp_all; omega))))
  · refine sskip rfl rfl ?_
    refine sskip rfl rfl ?_
    refine sskip rfl rfl ?_
    refine sskip rfl rfl ?_
    refine sq (q_pick rfl rfl) rfl rfl ?_
    refine sq (q_mv rfl) rfl rfl ?_
    refine sskip rfl rfl ?_
    refine sskip rfl rfl ?_
    refine sskip rfl rfl ?_
    refine sskip rfl rfl ?_
    refine sskip rfl rfl ?_
    refine sq (q_pick rfl rfl) rfl rfl ?_
    refine sq (q_as rfl) rfl rfl ?_
    refine go_nil ?_
    refine tn ?_
    refine gc_ret ?_
    refine ret_1 (.inl rfl) rfl rfl ?_
    exact rsE (by first | rfl | (simp_all [level]; done) | (simp_all [level]; rfl) | (simp_all [level]; omega) | (simp_all [level]; intros; omega) | (simp_all [level]; (repeat' split) <;> first | rfl | (simp_all; done) | omega | (exfalso; omega)) | (simp only [level]; (repeat' split) <;> first | (simp_all; done) | (simp_all; omega) | omega | (exfalso; simp_all; omega)) | (simp_all; (simp only [level]; (repeat' split) <;> first | (simp_all; done) | (simp_all; omega) | omega | (exfalso; simp_all; omega))))

set_option maxRecDepth 4000 in
set_option maxHeartbeats 2000000 in
theorem floor_spec (h : House) (pos : Int) :
    Spec Tryz.prog 162 [h.v, i6 pos] [] [] (fun v L => v = i6 (floorAt h pos) ∧ L = []) := by
  refine spec_of Tryz.func162 rfl Tryz.ntmps162 (by simp) fun w0 hb => ?_
  refine gc_seq ?_
  refine gc_region ?_
  refine s_new (e_box rfl rfl) rfl rfl fun b1 => ?_
  refine sq (q_as rfl) rfl rfl ?_
  refine go_nil ?_
  refine tn ?_
  refine gc_seq ?_
  refine gc_seq ?_
  refine gc_region ?_
  refine sq (q_lda rfl Tryz.isAgg29 Tryz.sizeOf29 rfl) rfl rfl ?_
  refine s_callE (e_call (valid_spec h) rfl en151) rfl rfl ?_
  refine sq (q_not rfl) rfl rfl ?_
  refine go_nil ?_
  refine tn ?_
  refine gc_if rfl (fun h2 => ?_) (fun h2 => ?_)
  · refine gc_seq ?_
    refine gc_region ?_
    refine sq (q_as rfl) rfl rfl ?_
    refine go_nil ?_
    refine tn ?_
    refine gc_ret ?_
    refine tr ?_
    refine ret_1 (.inl rfl) rfl rfl ?_
    exact rsE (by first | (simp_all [floorAt]; done) | (have hk : h.ok = true := (by simp_all); have := floorAt_b h pos; simp only [floorAt, hk, if_true] at this ⊢; rw [w64_id (by omega)]))
  · refine gc_skip ?_
    refine tn ?_
    refine gc_seq ?_
    refine gc_draw (ord := [(0, true), (1, true), (2, true), (5, true), (6, true), (3, false), (4, false), (7, false)]) [8] mixed (by kernel_rfl) rfl (by kernel_rfl) (.cons_cons _ (.slnil)) ?_
    refine gx_q (q_mv rfl) rfl rfl rfl ?_
    refine gx_q (q_max2 rfl rfl) rfl rfl rfl ?_
    refine gx_q (q_lda rfl Tryz.isAgg29 Tryz.sizeOf29 rfl) rfl rfl rfl ?_
    refine gx_q (q_fa rfl Tryz.runUnderlying29 rfl Tryz.sizeOf3) rfl rfl rfl ?_
    refine gx_q (q_ld rfl Tryz.isAgg3 rfl) rfl rfl rfl ?_
    refine x_callE (e_call (top_spec h) rfl en152) rfl rfl rfl (by repeat (first | exact List.nil_sublist _ | exact List.Sublist.refl _ | exact List.sublist_append_right _ _ | apply List.Sublist.cons_cons | apply List.Sublist.cons | refine List.Sublist.trans ?_ (List.sublist_append_right _ _))) ?_
    refine x_qe (q_min2 rfl rfl) rfl rfl rfl (by repeat (first | exact List.nil_sublist _ | exact List.Sublist.refl _ | exact List.sublist_append_right _ _ | apply List.Sublist.cons_cons | apply List.Sublist.cons | refine List.Sublist.trans ?_ (List.sublist_append_right _ _))) ?_
    refine x_qe (q_quow rfl rfl (by have := House.ok_b (by simp_all : h.ok = true); omega)) rfl rfl rfl (by repeat (first | exact List.nil_sublist _ | exact List.Sublist.refl _ | exact List.sublist_append_right _ _ | apply List.Sublist.cons_cons | apply List.Sublist.cons | refine List.Sublist.trans ?_ (List.sublist_append_right _ _))) ?_
    refine gx_tail ?_
    refine t_q (q_as rfl) rfl rfl rfl ?_
    refine gt_nil ?_
    refine tn ?_
    refine gc_ret ?_
    refine ret_1 (.inl rfl) rfl rfl ?_
    exact rsE (by first | (simp_all [floorAt]; done) | (have hk : h.ok = true := (by simp_all); have := floorAt_b h pos; simp only [floorAt, hk, if_true] at this ⊢; rw [w64_id (by omega)]))

set_option maxRecDepth 4000 in
set_option maxHeartbeats 2000000 in
theorem goTo_spec (h : House) (pos motor : Int) :
    Spec Tryz.prog 288 [h.v, i6 pos, i6 motor] [] [] (fun v L => v = .tuple #[i6 (goTo h pos motor).1, .bool (goTo h pos motor).2] ∧ L = []) := by
  refine spec_of Tryz.func288 rfl Tryz.ntmps288 (by simp) fun w0 hb => ?_
  refine gc_seq ?_
  refine gc_region ?_
  refine s_new (e_box rfl rfl) rfl rfl fun b1 => ?_
  refine sq (q_as rfl) rfl rfl ?_
  refine sq (q_as rfl) rfl rfl ?_
  refine go_nil ?_
  refine tn ?_
  refine gc_seq ?_
  refine gc_seq ?_
  refine gc_region ?_
  refine sq (q_lda rfl Tryz.isAgg29 Tryz.sizeOf29 rfl) rfl rfl ?_
  refine s_callE (e_call (valid_spec h) rfl en151) rfl rfl ?_
  refine sq (q_not rfl) rfl rfl ?_
  refine sq (q_mv rfl) rfl rfl ?_
  refine bsp (fun h2 => ?_) (fun h2 => ?_)
  · refine sskip rfl rfl ?_
    refine sskip rfl rfl ?_
    refine sskip rfl rfl ?_
    refine sskip rfl rfl ?_
    refine sskip rfl rfl ?_
    refine sskip rfl rfl ?_
    refine sq (q_pick rfl rfl) rfl rfl ?_
    refine go_nil ?_
    refine tn ?_
    refine gc_true rfl ?_
    refine gc_seq ?_
    refine gc_region ?_
    refine sq (q_as rfl) rfl rfl ?_
    refine sq (q_as rfl) rfl rfl ?_
    refine go_nil ?_
    refine tn ?_
    refine gc_ret ?_
    refine tr ?_
    refine ret_2 (.inl rfl) rfl rfl rfl ?_
    exact rsE (by have := top_b h; have w1 := w64_id (n := top h + 1) (by omega); simp only [w1] at *; first | (simp_all [goTo]; done) | (have w2 := w64_id (n := pos + min (max motor (-1)) 1) (by simp_all; omega); simp only [w2] at *; simp_all [goTo]))
  · refine sq (q_mv rfl) rfl rfl ?_
    refine sq (q_lda rfl Tryz.isAgg29 Tryz.sizeOf29 rfl) rfl rfl ?_
    refine s_callE (e_call (top_spec h) rfl en152) rfl rfl ?_
    refine sq (q_addw rfl rfl) rfl rfl ?_
    refine s_callE (e_call (between_spec _ _ _) rfl en237) rfl rfl ?_
    refine sq (q_not rfl) rfl rfl ?_
    refine sq (q_pick rfl rfl) rfl rfl ?_
    refine go_nil ?_
    refine tn ?_
    refine gc_if rfl (fun h3 => ?_) (fun h3 => ?_)
    · refine gc_seq ?_
      refine gc_region ?_
      refine sq (q_as rfl) rfl rfl ?_
      refine sq (q_as rfl) rfl rfl ?_
      refine go_nil ?_
      refine tn ?_
      refine gc_ret ?_
      refine tr ?_
      refine ret_2 (.inl rfl) rfl rfl rfl ?_
      exact rsE (by have := top_b h; have w1 := w64_id (n := top h + 1) (by omega); simp only [w1] at *; first | (simp_all [goTo]; done) | (have w2 := w64_id (n := pos + min (max motor (-1)) 1) (by simp_all; omega); simp only [w2] at *; simp_all [goTo]))
    · refine gc_skip ?_
      refine tn ?_
      refine gc_seq ?_
      refine gc_region ?_
      refine sq (q_mv rfl) rfl rfl ?_
      refine sq (q_mv rfl) rfl rfl ?_
      refine sq (q_max2 rfl rfl) rfl rfl ?_
      refine sq (q_min2 rfl rfl) rfl rfl ?_
      refine sq (q_addw rfl rfl) rfl rfl ?_
      refine sq (q_as rfl) rfl rfl ?_
      refine go_nil ?_
      refine tn ?_
      refine gc_seq ?_
      refine gc_seq ?_
      refine gc_region ?_
      refine sq (q_mv rfl) rfl rfl ?_
      refine sq (q_lda rfl Tryz.isAgg29 Tryz.sizeOf29 rfl) rfl rfl ?_
      refine s_callE (e_call (top_spec h) rfl en152) rfl rfl ?_
      refine s_callE (e_call (between_spec _ _ _) rfl en237) rfl rfl ?_
      refine sq (q_not rfl) rfl rfl ?_
      refine go_nil ?_
      refine tn ?_
      refine gc_if rfl (fun h4 => ?_) (fun h4 => ?_)
      · refine gc_seq ?_
        refine gc_region ?_
        refine sq (q_as rfl) rfl rfl ?_
        refine sq (q_as rfl) rfl rfl ?_
        refine go_nil ?_
        refine tn ?_
        refine gc_ret ?_
        refine tr ?_
        refine ret_2 (.inl rfl) rfl rfl rfl ?_
        exact rsE (by have := top_b h; have w1 := w64_id (n := top h + 1) (by omega); simp only [w1] at *; first | (simp_all [goTo]; done) | (have w2 := w64_id (n := pos + min (max motor (-1)) 1) (by simp_all; omega); simp only [w2] at *; simp_all [goTo]))
      · refine gc_skip ?_
        refine tn ?_
        refine gc_seq ?_
        refine gc_region ?_
        refine sq (q_mv rfl) rfl rfl ?_
        refine sq (q_as rfl) rfl rfl ?_
        refine sq (q_as rfl) rfl rfl ?_
        refine go_nil ?_
        refine tn ?_
        refine gc_ret ?_
        refine ret_2 (.inl rfl) rfl rfl rfl ?_
        exact rsE (by have := top_b h; have w1 := w64_id (n := top h + 1) (by omega); simp only [w1] at *; first | (simp_all [goTo]; done) | (have w2 := w64_id (n := pos + min (max motor (-1)) 1) (by simp_all; omega); simp only [w2] at *; simp_all [goTo]))

set_option maxRecDepth 4000 in
set_option maxHeartbeats 2000000 in
theorem right_spec (h : House) (s : State) :
    Spec Tryz.prog 286 [h.v, s.v] [] [] (fun v L => v = .bool (s.right h) ∧ L = []) := by
  refine spec_of Tryz.func286 rfl Tryz.ntmps286 (by simp) fun w0 hb => ?_
  refine gc_seq ?_
  refine gc_region ?_
  refine s_new (e_box rfl rfl) rfl rfl fun b1 => ?_
  refine s_new (e_box rfl rfl) rfl rfl fun b2 => ?_
  refine sq (q_as rfl) rfl rfl ?_
  refine go_nil ?_
  refine tn ?_
  refine gc_seq ?_
  refine gc_region ?_
  refine sq (q_lda rfl Tryz.isAgg29 Tryz.sizeOf29 rfl) rfl rfl ?_
  refine sq (q_fa rfl Tryz.runUnderlying62 rfl Tryz.sizeOf3) rfl rfl ?_
  refine sq (q_ld rfl Tryz.isAgg3 rfl) rfl rfl ?_
  refine s_callE (e_call (level_spec h _) rfl en153) rfl rfl ?_
  refine sq (q_as rfl) rfl rfl ?_
  refine go_nil ?_
  refine tn ?_
  refine gc_seq ?_
  refine gc_block ?_
  refine gc_seq ?_
  refine gc_draw (ord := [(0, false), (1, false), (2, false), (3, false), (4, true), (5, true), (6, false), (7, false), (8, false), (9, false), (10, false), (11, false), (12, false), (13, false), (14, false), (15, false), (16, false), (17, false), (18, true), (19, true), (20, false), (21, false), (22, false), (23, false), (24, false), (25, false)]) [] mixed (by kernel_rfl) rfl (by kernel_rfl) (.cons_cons _ (.cons_cons _ (.slnil))) ?_
  refine x_qe (q_lda rfl Tryz.isAgg29 Tryz.sizeOf29 rfl) rfl rfl rfl (by repeat (first | exact List.nil_sublist _ | exact List.Sublist.refl _ | exact List.sublist_append_right _ _ | apply List.Sublist.cons_cons | apply List.Sublist.cons | refine List.Sublist.trans ?_ (List.sublist_append_right _ _))) ?_
  refine x_callE (e_call (valid_spec h) rfl en151) rfl rfl rfl (by repeat (first | exact List.nil_sublist _ | exact List.Sublist.refl _ | exact List.sublist_append_right _ _ | apply List.Sublist.cons_cons | apply List.Sublist.cons | refine List.Sublist.trans ?_ (List.sublist_append_right _ _))) ?_
  refine x_qe (q_not rfl) rfl rfl rfl (by repeat (first | exact List.nil_sublist _ | exact List.Sublist.refl _ | exact List.sublist_append_right _ _ | apply List.Sublist.cons_cons | apply List.Sublist.cons | refine List.Sublist.trans ?_ (List.sublist_append_right _ _))) ?_
  refine x_qe (q_mv rfl) rfl rfl rfl (by repeat (first | exact List.nil_sublist _ | exact List.Sublist.refl _ | exact List.sublist_append_right _ _ | apply List.Sublist.cons_cons | apply List.Sublist.cons | refine List.Sublist.trans ?_ (List.sublist_append_right _ _))) ?_
  refine xsp (fun h3 => ?_) (fun h3 => ?_)
  · refine gx_skip rfl rfl rfl ?_
    refine gx_skip rfl rfl rfl ?_
    refine gx_eskip rfl rfl rfl ?_
    refine gx_eskip rfl rfl rfl ?_
    refine gx_eskip rfl rfl rfl ?_
    refine gx_eskip rfl rfl rfl ?_
    refine x_qe (q_pick rfl rfl) rfl rfl rfl (by repeat (first | exact List.nil_sublist _ | exact List.Sublist.refl _ | exact List.sublist_append_right _ _ | apply List.Sublist.cons_cons | apply List.Sublist.cons | refine List.Sublist.trans ?_ (List.sublist_append_right _ _))) ?_
    refine x_qe (q_mv rfl) rfl rfl rfl (by repeat (first | exact List.nil_sublist _ | exact List.Sublist.refl _ | exact List.sublist_append_right _ _ | apply List.Sublist.cons_cons | apply List.Sublist.cons | refine List.Sublist.trans ?_ (List.sublist_append_right _ _))) ?_
    refine gx_eskip rfl rfl rfl ?_
    refine gx_eskip rfl rfl rfl ?_
    refine gx_eskip rfl rfl rfl ?_
    refine gx_eskip rfl rfl rfl ?_
    refine x_qe (q_pick rfl rfl) rfl rfl rfl (by repeat (first | exact List.nil_sublist _ | exact List.Sublist.refl _ | exact List.sublist_append_right _ _ | apply List.Sublist.cons_cons | apply List.Sublist.cons | refine List.Sublist.trans ?_ (List.sublist_append_right _ _))) ?_
    refine x_qe (q_mv rfl) rfl rfl rfl (by repeat (first | exact List.nil_sublist _ | exact List.Sublist.refl _ | exact List.sublist_append_right _ _ | apply List.Sublist.cons_cons | apply List.Sublist.cons | refine List.Sublist.trans ?_ (List.sublist_append_right _ _))) ?_
    refine gx_skip rfl rfl rfl ?_
    refine gx_skip rfl rfl rfl ?_
    refine gx_eskip rfl rfl rfl ?_
    refine gx_eskip rfl rfl rfl ?_
    refine gx_eskip rfl rfl rfl ?_
    refine gx_eskip rfl rfl rfl ?_
    refine x_qe (q_pick rfl rfl) rfl rfl rfl (by repeat (first | exact List.nil_sublist _ | exact List.Sublist.refl _ | exact List.sublist_append_right _ _ | apply List.Sublist.cons_cons | apply List.Sublist.cons | refine List.Sublist.trans ?_ (List.sublist_append_right _ _))) ?_
    refine x_qe (q_as rfl) rfl rfl rfl (by repeat (first | exact List.nil_sublist _ | exact List.Sublist.refl _ | exact List.sublist_append_right _ _ | apply List.Sublist.cons_cons | apply List.Sublist.cons | refine List.Sublist.trans ?_ (List.sublist_append_right _ _))) ?_
    refine gx_nil ?_
    refine tn ?_
    refine gc_true rfl ?_
    refine gc_seq ?_
    refine gc_region ?_
    refine sq (q_as rfl) rfl rfl ?_
    refine go_nil ?_
    refine tn ?_
    refine gc_ret ?_
    refine br (tr ?_)
    refine ret_1 (.inl rfl) rfl rfl ?_
    exact rsE (by first | rfl | (simp_all [State.right]; done) | (simp_all [State.right]; rfl) | (simp_all [State.right]; omega) | (simp_all [State.right]; intros; omega) | (simp_all [State.right]; (repeat' split) <;> first | rfl | (simp_all; done) | omega | (exfalso; omega)) | (simp only [State.right]; (repeat' split) <;> first | (simp_all; done) | (simp_all; omega) | omega | (exfalso; simp_all; omega)) | (simp_all; (simp only [State.right]; (repeat' split) <;> first | (simp_all; done) | (simp_all; omega) | omega | (exfalso; simp_all; omega))))
  · refine gx_q (q_fa rfl Tryz.runUnderlying62 rfl Tryz.sizeOf3) rfl rfl rfl ?_
    refine gx_q (q_ld rfl Tryz.isAgg3 rfl) rfl rfl rfl ?_
    refine x_qe (q_lda rfl Tryz.isAgg29 Tryz.sizeOf29 rfl) rfl rfl rfl (by repeat (first | exact List.nil_sublist _ | exact List.Sublist.refl _ | exact List.sublist_append_right _ _ | apply List.Sublist.cons_cons | apply List.Sublist.cons | refine List.Sublist.trans ?_ (List.sublist_append_right _ _))) ?_
    refine x_callE (e_call (top_spec h) rfl en152) rfl rfl rfl (by repeat (first | exact List.nil_sublist _ | exact List.Sublist.refl _ | exact List.sublist_append_right _ _ | apply List.Sublist.cons_cons | apply List.Sublist.cons | refine List.Sublist.trans ?_ (List.sublist_append_right _ _))) ?_
    refine x_callE (e_call (between_spec _ _ _) rfl en237) rfl rfl rfl (by repeat (first | exact List.nil_sublist _ | exact List.Sublist.refl _ | exact List.sublist_append_right _ _ | apply List.Sublist.cons_cons | apply List.Sublist.cons | refine List.Sublist.trans ?_ (List.sublist_append_right _ _))) ?_
    refine x_qe (q_not rfl) rfl rfl rfl (by repeat (first | exact List.nil_sublist _ | exact List.Sublist.refl _ | exact List.sublist_append_right _ _ | apply List.Sublist.cons_cons | apply List.Sublist.cons | refine List.Sublist.trans ?_ (List.sublist_append_right _ _))) ?_
    refine x_qe (q_pick rfl rfl) rfl rfl rfl (by repeat (first | exact List.nil_sublist _ | exact List.Sublist.refl _ | exact List.sublist_append_right _ _ | apply List.Sublist.cons_cons | apply List.Sublist.cons | refine List.Sublist.trans ?_ (List.sublist_append_right _ _))) ?_
    refine x_qe (q_mv rfl) rfl rfl rfl (by repeat (first | exact List.nil_sublist _ | exact List.Sublist.refl _ | exact List.sublist_append_right _ _ | apply List.Sublist.cons_cons | apply List.Sublist.cons | refine List.Sublist.trans ?_ (List.sublist_append_right _ _))) ?_
    refine xsp (fun h4 => ?_) (fun h4 => ?_)
    · refine gx_eskip rfl rfl rfl ?_
      refine gx_eskip rfl rfl rfl ?_
      refine gx_eskip rfl rfl rfl ?_
      refine gx_eskip rfl rfl rfl ?_
      refine x_qe (q_pick rfl rfl) rfl rfl rfl (by repeat (first | exact List.nil_sublist _ | exact List.Sublist.refl _ | exact List.sublist_append_right _ _ | apply List.Sublist.cons_cons | apply List.Sublist.cons | refine List.Sublist.trans ?_ (List.sublist_append_right _ _))) ?_
      refine x_qe (q_mv rfl) rfl rfl rfl (by repeat (first | exact List.nil_sublist _ | exact List.Sublist.refl _ | exact List.sublist_append_right _ _ | apply List.Sublist.cons_cons | apply List.Sublist.cons | refine List.Sublist.trans ?_ (List.sublist_append_right _ _))) ?_
      refine gx_skip rfl rfl rfl ?_
      refine gx_skip rfl rfl rfl ?_
      refine gx_eskip rfl rfl rfl ?_
      refine gx_eskip rfl rfl rfl ?_
      refine gx_eskip rfl rfl rfl ?_
      refine gx_eskip rfl rfl rfl ?_
      refine x_qe (q_pick rfl rfl) rfl rfl rfl (by repeat (first | exact List.nil_sublist _ | exact List.Sublist.refl _ | exact List.sublist_append_right _ _ | apply List.Sublist.cons_cons | apply List.Sublist.cons | refine List.Sublist.trans ?_ (List.sublist_append_right _ _))) ?_
      refine x_qe (q_as rfl) rfl rfl rfl (by repeat (first | exact List.nil_sublist _ | exact List.Sublist.refl _ | exact List.sublist_append_right _ _ | apply List.Sublist.cons_cons | apply List.Sublist.cons | refine List.Sublist.trans ?_ (List.sublist_append_right _ _))) ?_
      refine gx_nil ?_
      refine tn ?_
      refine gc_true rfl ?_
      refine gc_seq ?_
      refine gc_region ?_
      refine sq (q_as rfl) rfl rfl ?_
      refine go_nil ?_
      refine tn ?_
      refine gc_ret ?_
      refine br (tr ?_)
      refine ret_1 (.inl rfl) rfl rfl ?_
      exact rsE (by first | rfl | (simp_all [State.right]; done) | (simp_all [State.right]; rfl) | (simp_all [State.right]; omega) | (simp_all [State.right]; intros; omega) | (simp_all [State.right]; (repeat' split) <;> first | rfl | (simp_all; done) | omega | (exfalso; omega)) | (simp only [State.right]; (repeat' split) <;> first | (simp_all; done) | (simp_all; omega) | omega | (exfalso; simp_all; omega)) | (simp_all; (simp only [State.right]; (repeat' split) <;> first | (simp_all; done) | (simp_all; omega) | omega | (exfalso; simp_all; omega))))
    · refine x_qe (q_fa rfl Tryz.runUnderlying62 rfl Tryz.sizeOf3) rfl rfl rfl (by repeat (first | exact List.nil_sublist _ | exact List.Sublist.refl _ | exact List.sublist_append_right _ _ | apply List.Sublist.cons_cons | apply List.Sublist.cons | refine List.Sublist.trans ?_ (List.sublist_append_right _ _))) ?_
      refine x_qe (q_ld rfl Tryz.isAgg3 rfl) rfl rfl rfl (by repeat (first | exact List.nil_sublist _ | exact List.Sublist.refl _ | exact List.sublist_append_right _ _ | apply List.Sublist.cons_cons | apply List.Sublist.cons | refine List.Sublist.trans ?_ (List.sublist_append_right _ _))) ?_
      refine x_callE (e_call (between_spec _ _ _) rfl en237) rfl rfl rfl (by repeat (first | exact List.nil_sublist _ | exact List.Sublist.refl _ | exact List.sublist_append_right _ _ | apply List.Sublist.cons_cons | apply List.Sublist.cons | refine List.Sublist.trans ?_ (List.sublist_append_right _ _))) ?_
      refine x_qe (q_not rfl) rfl rfl rfl (by repeat (first | exact List.nil_sublist _ | exact List.Sublist.refl _ | exact List.sublist_append_right _ _ | apply List.Sublist.cons_cons | apply List.Sublist.cons | refine List.Sublist.trans ?_ (List.sublist_append_right _ _))) ?_
      refine x_qe (q_pick rfl rfl) rfl rfl rfl (by repeat (first | exact List.nil_sublist _ | exact List.Sublist.refl _ | exact List.sublist_append_right _ _ | apply List.Sublist.cons_cons | apply List.Sublist.cons | refine List.Sublist.trans ?_ (List.sublist_append_right _ _))) ?_
      refine x_qe (q_mv rfl) rfl rfl rfl (by repeat (first | exact List.nil_sublist _ | exact List.Sublist.refl _ | exact List.sublist_append_right _ _ | apply List.Sublist.cons_cons | apply List.Sublist.cons | refine List.Sublist.trans ?_ (List.sublist_append_right _ _))) ?_
      refine xsp (fun h5 => ?_) (fun h5 => ?_)
      · refine gx_skip rfl rfl rfl ?_
        refine gx_skip rfl rfl rfl ?_
        refine gx_eskip rfl rfl rfl ?_
        refine gx_eskip rfl rfl rfl ?_
        refine gx_eskip rfl rfl rfl ?_
        refine gx_eskip rfl rfl rfl ?_
        refine x_qe (q_pick rfl rfl) rfl rfl rfl (by repeat (first | exact List.nil_sublist _ | exact List.Sublist.refl _ | exact List.sublist_append_right _ _ | apply List.Sublist.cons_cons | apply List.Sublist.cons | refine List.Sublist.trans ?_ (List.sublist_append_right _ _))) ?_
        refine x_qe (q_as rfl) rfl rfl rfl (by repeat (first | exact List.nil_sublist _ | exact List.Sublist.refl _ | exact List.sublist_append_right _ _ | apply List.Sublist.cons_cons | apply List.Sublist.cons | refine List.Sublist.trans ?_ (List.sublist_append_right _ _))) ?_
        refine gx_nil ?_
        refine tn ?_
        refine gc_true rfl ?_
        refine gc_seq ?_
        refine gc_region ?_
        refine sq (q_as rfl) rfl rfl ?_
        refine go_nil ?_
        refine tn ?_
        refine gc_ret ?_
        refine br (tr ?_)
        refine ret_1 (.inl rfl) rfl rfl ?_
        exact rsE (by first | rfl | (simp_all [State.right]; done) | (simp_all [State.right]; rfl) | (simp_all [State.right]; omega) | (simp_all [State.right]; intros; omega) | (simp_all [State.right]; (repeat' split) <;> first | rfl | (simp_all; done) | omega | (exfalso; omega)) | (simp only [State.right]; (repeat' split) <;> first | (simp_all; done) | (simp_all; omega) | omega | (exfalso; simp_all; omega)) | (simp_all; (simp only [State.right]; (repeat' split) <;> first | (simp_all; done) | (simp_all; omega) | omega | (exfalso; simp_all; omega))))
      · refine gx_q (q_fa rfl Tryz.runUnderlying62 rfl Tryz.sizeOf3) rfl rfl rfl ?_
        refine gx_q (q_ld rfl Tryz.isAgg3 rfl) rfl rfl rfl ?_
        refine x_qe (q_fa rfl Tryz.runUnderlying29 rfl Tryz.sizeOf3) rfl rfl rfl (by repeat (first | exact List.nil_sublist _ | exact List.Sublist.refl _ | exact List.sublist_append_right _ _ | apply List.Sublist.cons_cons | apply List.Sublist.cons | refine List.Sublist.trans ?_ (List.sublist_append_right _ _))) ?_
        refine x_qe (q_ld rfl Tryz.isAgg3 rfl) rfl rfl rfl (by repeat (first | exact List.nil_sublist _ | exact List.Sublist.refl _ | exact List.sublist_append_right _ _ | apply List.Sublist.cons_cons | apply List.Sublist.cons | refine List.Sublist.trans ?_ (List.sublist_append_right _ _))) ?_
        refine x_callE (e_call (between_spec _ _ _) rfl en237) rfl rfl rfl (by repeat (first | exact List.nil_sublist _ | exact List.Sublist.refl _ | exact List.sublist_append_right _ _ | apply List.Sublist.cons_cons | apply List.Sublist.cons | refine List.Sublist.trans ?_ (List.sublist_append_right _ _))) ?_
        refine x_qe (q_not rfl) rfl rfl rfl (by repeat (first | exact List.nil_sublist _ | exact List.Sublist.refl _ | exact List.sublist_append_right _ _ | apply List.Sublist.cons_cons | apply List.Sublist.cons | refine List.Sublist.trans ?_ (List.sublist_append_right _ _))) ?_
        refine x_qe (q_pick rfl rfl) rfl rfl rfl (by repeat (first | exact List.nil_sublist _ | exact List.Sublist.refl _ | exact List.sublist_append_right _ _ | apply List.Sublist.cons_cons | apply List.Sublist.cons | refine List.Sublist.trans ?_ (List.sublist_append_right _ _))) ?_
        refine x_qe (q_as rfl) rfl rfl rfl (by repeat (first | exact List.nil_sublist _ | exact List.Sublist.refl _ | exact List.sublist_append_right _ _ | apply List.Sublist.cons_cons | apply List.Sublist.cons | refine List.Sublist.trans ?_ (List.sublist_append_right _ _))) ?_
        refine gx_nil ?_
        refine tn ?_
        refine gc_if rfl (fun h6 => ?_) (fun h6 => ?_)
        · refine gc_seq ?_
          refine gc_region ?_
          refine sq (q_as rfl) rfl rfl ?_
          refine go_nil ?_
          refine tn ?_
          refine gc_ret ?_
          refine br (tr ?_)
          refine ret_1 (.inl rfl) rfl rfl ?_
          exact rsE (by first | rfl | (simp_all [State.right]; done) | (simp_all [State.right]; rfl) | (simp_all [State.right]; omega) | (simp_all [State.right]; intros; omega) | (simp_all [State.right]; (repeat' split) <;> first | rfl | (simp_all; done) | omega | (exfalso; omega)) | (simp only [State.right]; (repeat' split) <;> first | (simp_all; done) | (simp_all; omega) | omega | (exfalso; simp_all; omega)) | (simp_all; (simp only [State.right]; (repeat' split) <;> first | (simp_all; done) | (simp_all; omega) | omega | (exfalso; simp_all; omega))))
        · refine gc_seq ?_
          refine gc_region ?_
          refine sq (q_fa rfl Tryz.runUnderlying62 rfl Tryz.sizeOf3) rfl rfl ?_
          refine sq (q_ld rfl Tryz.isAgg3 rfl) rfl rfl ?_
          refine sq (q_gtr rfl rfl) rfl rfl ?_
          refine sq (q_mv rfl) rfl rfl ?_
          refine bsp (fun h7 => ?_) (fun h7 => ?_)
          · refine sq (q_mv rfl) rfl rfl ?_
            refine sq (q_not rfl) rfl rfl ?_
            refine sq (q_mv rfl) rfl rfl ?_
            refine bsp (fun h8 => ?_) (fun h8 => ?_)
            · refine sskip rfl rfl ?_
              refine sskip rfl rfl ?_
              refine sq (q_pick rfl rfl) rfl rfl ?_
              refine sq (q_pick rfl rfl) rfl rfl ?_
              refine sq (q_as rfl) rfl rfl ?_
              refine go_nil ?_
              refine tn ?_
              refine gc_true rfl ?_
              refine gc_seq ?_
              refine gc_region ?_
              refine sq (q_as rfl) rfl rfl ?_
              refine go_nil ?_
              refine tn ?_
              refine gc_ret ?_
              refine br (tr ?_)
              refine ret_1 (.inl rfl) rfl rfl ?_
              exact rsE (by first | rfl | (simp_all [State.right]; done) | (simp_all [State.right]; rfl) | (simp_all [State.right]; omega) | (simp_all [State.right]; intros; omega) | (simp_all [State.right]; (repeat' split) <;> first | rfl | (simp_all; done) | omega | (exfalso; omega)) | (simp only [State.right]; (repeat' split) <;> first | (simp_all; done) | (simp_all; omega) | omega | (exfalso; simp_all; omega)) | (simp_all; (simp only [State.right]; (repeat' split) <;> first | (simp_all; done) | (simp_all; omega) | omega | (exfalso; simp_all; omega))))
            · refine sq (q_fa rfl Tryz.runUnderlying62 rfl Tryz.sizeOf4) rfl rfl ?_
              refine sq (q_ld rfl Tryz.isAgg4 rfl) rfl rfl ?_
              refine sq (q_pick rfl rfl) rfl rfl ?_
              refine sq (q_pick rfl rfl) rfl rfl ?_
              refine sq (q_as rfl) rfl rfl ?_
              refine go_nil ?_
              refine tn ?_
              refine gc_if rfl (fun h9 => ?_) (fun h9 => ?_)
              · refine gc_seq ?_
                refine gc_region ?_
                refine sq (q_as rfl) rfl rfl ?_
                refine go_nil ?_
                refine tn ?_
                refine gc_ret ?_
                refine br (tr ?_)
                refine ret_1 (.inl rfl) rfl rfl ?_
                exact rsE (by first | rfl | (simp_all [State.right]; done) | (simp_all [State.right]; rfl) | (simp_all [State.right]; omega) | (simp_all [State.right]; intros; omega) | (simp_all [State.right]; (repeat' split) <;> first | rfl | (simp_all; done) | omega | (exfalso; omega)) | (simp only [State.right]; (repeat' split) <;> first | (simp_all; done) | (simp_all; omega) | omega | (exfalso; simp_all; omega)) | (simp_all; (simp only [State.right]; (repeat' split) <;> first | (simp_all; done) | (simp_all; omega) | omega | (exfalso; simp_all; omega))))
              · refine gc_skip ?_
                refine bn (tn ?_)
                refine gc_seq ?_
                refine gc_region ?_
                refine sq (q_mv rfl) rfl rfl ?_
                refine sq (q_mv rfl) rfl rfl ?_
                refine bsp (fun h10 => ?_) (fun h10 => ?_)
                · refine sskip rfl rfl ?_
                  refine sskip rfl rfl ?_
                  refine sskip rfl rfl ?_
                  refine sq (q_pick rfl rfl) rfl rfl ?_
                  refine sq (q_mv rfl) rfl rfl ?_
                  refine sskip rfl rfl ?_
                  refine sskip rfl rfl ?_
                  refine sq (q_pick rfl rfl) rfl rfl ?_
                  refine sq (q_as rfl) rfl rfl ?_
                  refine go_nil ?_
                  refine tn ?_
                  refine gc_ret ?_
                  refine ret_1 (.inl rfl) rfl rfl ?_
                  exact rsE (by first | rfl | (simp_all [State.right]; done) | (simp_all [State.right]; rfl) | (simp_all [State.right]; omega) | (simp_all [State.right]; intros; omega) | (simp_all [State.right]; (repeat' split) <;> first | rfl | (simp_all; done) | omega | (exfalso; omega)) | (simp only [State.right]; (repeat' split) <;> first | (simp_all; done) | (simp_all; omega) | omega | (exfalso; simp_all; omega)) | (simp_all; (simp only [State.right]; (repeat' split) <;> first | (simp_all; done) | (simp_all; omega) | omega | (exfalso; simp_all; omega))))
                · refine sq (q_fa rfl Tryz.runUnderlying62 rfl Tryz.sizeOf3) rfl rfl ?_
                  refine sq (q_ld rfl Tryz.isAgg3 rfl) rfl rfl ?_
                  refine sq (q_neq rfl rfl) rfl rfl ?_
                  refine sq (q_pick rfl rfl) rfl rfl ?_
                  refine sq (q_mv rfl) rfl rfl ?_
                  refine bsp (fun h11 => ?_) (fun h11 => ?_)
                  · refine sskip rfl rfl ?_
                    refine sskip rfl rfl ?_
                    refine sq (q_pick rfl rfl) rfl rfl ?_
                    refine sq (q_as rfl) rfl rfl ?_
                    refine go_nil ?_
                    refine tn ?_
                    refine gc_ret ?_
                    refine ret_1 (.inl rfl) rfl rfl ?_
                    exact rsE (by first | rfl | (simp_all [State.right]; done) | (simp_all [State.right]; rfl) | (simp_all [State.right]; omega) | (simp_all [State.right]; intros; omega) | (simp_all [State.right]; (repeat' split) <;> first | rfl | (simp_all; done) | omega | (exfalso; omega)) | (simp only [State.right]; (repeat' split) <;> first | (simp_all; done) | (simp_all; omega) | omega | (exfalso; simp_all; omega)) | (simp_all; (simp only [State.right]; (repeat' split) <;> first | (simp_all; done) | (simp_all; omega) | omega | (exfalso; simp_all; omega))))
                  · refine sq (q_fa rfl Tryz.runUnderlying62 rfl Tryz.sizeOf4) rfl rfl ?_
                    refine sq (q_ld rfl Tryz.isAgg4 rfl) rfl rfl ?_
                    refine sq (q_pick rfl rfl) rfl rfl ?_
                    refine sq (q_as rfl) rfl rfl ?_
                    refine go_nil ?_
                    refine tn ?_
                    refine gc_ret ?_
                    refine ret_1 (.inl rfl) rfl rfl ?_
                    exact rsE (by first | rfl | (simp_all [State.right]; done) | (simp_all [State.right]; rfl) | (simp_all [State.right]; omega) | (simp_all [State.right]; intros; omega) | (simp_all [State.right]; (repeat' split) <;> first | rfl | (simp_all; done) | omega | (exfalso; omega)) | (simp only [State.right]; (repeat' split) <;> first | (simp_all; done) | (simp_all; omega) | omega | (exfalso; simp_all; omega)) | (simp_all; (simp only [State.right]; (repeat' split) <;> first | (simp_all; done) | (simp_all; omega) | omega | (exfalso; simp_all; omega))))
          · refine sskip rfl rfl ?_
            refine sskip rfl rfl ?_
            refine sskip rfl rfl ?_
            refine sskip rfl rfl ?_
            refine sskip rfl rfl ?_
            refine sskip rfl rfl ?_
            refine sq (q_pick rfl rfl) rfl rfl ?_
            refine sq (q_as rfl) rfl rfl ?_
            refine go_nil ?_
            refine tn ?_
            refine gc_false rfl ?_
            refine gc_skip ?_
            refine bn (tn ?_)
            refine gc_seq ?_
            refine gc_region ?_
            refine sq (q_mv rfl) rfl rfl ?_
            refine sq (q_mv rfl) rfl rfl ?_
            refine bsp (fun h12 => ?_) (fun h12 => ?_)
            · refine sskip rfl rfl ?_
              refine sskip rfl rfl ?_
              refine sskip rfl rfl ?_
              refine sq (q_pick rfl rfl) rfl rfl ?_
              refine sq (q_mv rfl) rfl rfl ?_
              refine sskip rfl rfl ?_
              refine sskip rfl rfl ?_
              refine sq (q_pick rfl rfl) rfl rfl ?_
              refine sq (q_as rfl) rfl rfl ?_
              refine go_nil ?_
              refine tn ?_
              refine gc_ret ?_
              refine ret_1 (.inl rfl) rfl rfl ?_
              exact rsE (by first | rfl | (simp_all [State.right]; done) | (simp_all [State.right]; rfl) | (simp_all [State.right]; omega) | (simp_all [State.right]; intros; omega) | (simp_all [State.right]; (repeat' split) <;> first | rfl | (simp_all; done) | omega | (exfalso; omega)) | (simp only [State.right]; (repeat' split) <;> first | (simp_all; done) | (simp_all; omega) | omega | (exfalso; simp_all; omega)) | (simp_all; (simp only [State.right]; (repeat' split) <;> first | (simp_all; done) | (simp_all; omega) | omega | (exfalso; simp_all; omega))))
            · refine sq (q_fa rfl Tryz.runUnderlying62 rfl Tryz.sizeOf3) rfl rfl ?_
              refine sq (q_ld rfl Tryz.isAgg3 rfl) rfl rfl ?_
              refine sq (q_neq rfl rfl) rfl rfl ?_
              refine sq (q_pick rfl rfl) rfl rfl ?_
              refine sq (q_mv rfl) rfl rfl ?_
              refine bsp (fun h13 => ?_) (fun h13 => ?_)
              · refine sskip rfl rfl ?_
                refine sskip rfl rfl ?_
                refine sq (q_pick rfl rfl) rfl rfl ?_
                refine sq (q_as rfl) rfl rfl ?_
                refine go_nil ?_
                refine tn ?_
                refine gc_ret ?_
                refine ret_1 (.inl rfl) rfl rfl ?_
                exact rsE (by first | rfl | (simp_all [State.right]; done) | (simp_all [State.right]; rfl) | (simp_all [State.right]; omega) | (simp_all [State.right]; intros; omega) | (simp_all [State.right]; (repeat' split) <;> first | rfl | (simp_all; done) | omega | (exfalso; omega)) | (simp only [State.right]; (repeat' split) <;> first | (simp_all; done) | (simp_all; omega) | omega | (exfalso; simp_all; omega)) | (simp_all; (simp only [State.right]; (repeat' split) <;> first | (simp_all; done) | (simp_all; omega) | omega | (exfalso; simp_all; omega))))
              · refine sq (q_fa rfl Tryz.runUnderlying62 rfl Tryz.sizeOf4) rfl rfl ?_
                refine sq (q_ld rfl Tryz.isAgg4 rfl) rfl rfl ?_
                refine sq (q_pick rfl rfl) rfl rfl ?_
                refine sq (q_as rfl) rfl rfl ?_
                refine go_nil ?_
                refine tn ?_
                refine gc_ret ?_
                refine ret_1 (.inl rfl) rfl rfl ?_
                exact rsE (by first | rfl | (simp_all [State.right]; done) | (simp_all [State.right]; rfl) | (simp_all [State.right]; omega) | (simp_all [State.right]; intros; omega) | (simp_all [State.right]; (repeat' split) <;> first | rfl | (simp_all; done) | omega | (exfalso; omega)) | (simp only [State.right]; (repeat' split) <;> first | (simp_all; done) | (simp_all; omega) | omega | (exfalso; simp_all; omega)) | (simp_all; (simp only [State.right]; (repeat' split) <;> first | (simp_all; done) | (simp_all; omega) | omega | (exfalso; simp_all; omega))))

set_option maxRecDepth 4000 in
set_option maxHeartbeats 2000000 in
theorem doorIs_spec (d : Door) :
    Spec Tryz.prog 143 [d.v] [] [] (fun v L => v = .bool (decide (0 < d.left)) ∧ L = []) := by
  refine spec_of Tryz.func143 rfl Tryz.ntmps143 (by simp) fun w0 hb => ?_
  refine gc_seq ?_
  refine gc_region ?_
  refine s_new (e_box rfl rfl) rfl rfl fun b1 => ?_
  refine sq (q_as rfl) rfl rfl ?_
  refine go_nil ?_
  refine tn ?_
  refine gc_seq ?_
  refine gc_region ?_
  refine sq (q_fa rfl Tryz.runUnderlying238 rfl Tryz.sizeOf3) rfl rfl ?_
  refine sq (q_ld rfl Tryz.isAgg3 rfl) rfl rfl ?_
  refine sq (q_gtr rfl rfl) rfl rfl ?_
  refine sq (q_as rfl) rfl rfl ?_
  refine go_nil ?_
  refine tn ?_
  refine gc_ret ?_
  refine ret_1 (.inl rfl) rfl rfl ?_
  exact rsE (by first | rfl | (simp_all; done) | (simp_all; rfl) | (simp_all; omega) | (simp_all; intros; omega) | (simp_all; (repeat' split) <;> first | rfl | (simp_all; done) | omega | (exfalso; omega)))

set_option maxRecDepth 4000 in
set_option maxHeartbeats 2000000 in
theorem doorOpen_spec (n : Int) :
    Spec Tryz.prog 290 [i6 n] [] [] (fun v L => v = .agg #[i6 (min (max n 1) 8), i6 0] ∧ L = []) := by
  refine spec_of Tryz.func290 rfl Tryz.ntmps290 (by simp) fun w0 hb => ?_
  refine gc_seq ?_
  refine gc_region ?_
  refine s_new (e_alloc Tryz.zeroValue238 rfl) rfl rfl fun b1 => ?_
  refine go_nil ?_
  refine tn ?_
  refine gc_seq ?_
  refine gc_region ?_
  refine sq (q_mv rfl) rfl rfl ?_
  refine sq (q_max2 rfl rfl) rfl rfl ?_
  refine sq (q_min2 rfl rfl) rfl rfl ?_
  refine sq (q_bld rfl Tryz.runUnderlying238 Tryz.zeroValue238 rfl pl238 rfl) rfl rfl ?_
  refine s_st (e_st rfl rfl Tryz.sizeOf238 rfl rfl rfl rfl) rfl rfl ?_
  refine go_nil ?_
  refine tn ?_
  refine gc_ret ?_
  refine ret_c (.inl rfl) rfl rfl Tryz.isAgg238 Tryz.sizeOf238 rfl ?_
  exact rsE (by first | rfl | (simp_all; done) | (simp_all; rfl) | (simp_all; omega) | (simp_all; intros; omega) | (simp_all; (repeat' split) <;> first | rfl | (simp_all; done) | omega | (exfalso; omega)))

set_option maxRecDepth 4000 in
set_option maxHeartbeats 2000000 in
theorem doorTick_spec (d : Door) (o : Bool) :
    Spec Tryz.prog 227 [d.v, .bool o] [] [] (fun v L => v = .tuple #[(d.tick o).1.v, .bool (d.tick o).2] ∧ L = []) := by
  refine spec_of Tryz.func227 rfl Tryz.ntmps227 (by simp) fun w0 hb => ?_
  refine gc_seq ?_
  refine gc_region ?_
  refine s_new (e_box rfl rfl) rfl rfl fun b1 => ?_
  refine s_new (e_alloc Tryz.zeroValue238 rfl) rfl rfl fun b2 => ?_
  refine sq (q_as rfl) rfl rfl ?_
  refine go_nil ?_
  refine tn ?_
  refine gc_seq ?_
  refine gc_block ?_
  refine gc_seq ?_
  refine gc_region ?_
  refine sq (q_lda rfl Tryz.isAgg238 Tryz.sizeOf238 rfl) rfl rfl ?_
  refine s_callE (e_call (doorIs_spec d) rfl en143) rfl rfl ?_
  refine sq (q_not rfl) rfl rfl ?_
  refine sq (q_as rfl) rfl rfl ?_
  refine go_nil ?_
  refine tn ?_
  refine gc_if rfl (fun h3 => ?_) (fun h3 => ?_)
  · refine gc_seq ?_
    refine gc_region ?_
    refine sq (q_bld rfl Tryz.runUnderlying238 Tryz.zeroValue238 rfl pl238 rfl) rfl rfl ?_
    refine s_st (e_st rfl rfl Tryz.sizeOf238 rfl rfl rfl rfl) rfl rfl ?_
    refine sq (q_as rfl) rfl rfl ?_
    refine go_nil ?_
    refine tn ?_
    refine gc_ret ?_
    refine br (tr ?_)
    refine ret_ct (.inl rfl) rfl rfl Tryz.isAgg238 Tryz.sizeOf238 rfl rfl ?_
    exact rsE (by first | rfl | (simp_all [Door.tick]; done) | (simp_all [Door.tick]; rfl) | (simp_all [Door.tick]; omega) | (simp_all [Door.tick]; intros; omega) | (simp_all [Door.tick]; (repeat' split) <;> first | rfl | (simp_all; done) | omega | (exfalso; omega)) | (simp only [Door.tick]; (repeat' split) <;> first | (simp_all; done) | (simp_all; omega) | omega | (exfalso; simp_all; omega)) | (simp_all; (simp only [Door.tick]; (repeat' split) <;> first | (simp_all; done) | (simp_all; omega) | omega | (exfalso; simp_all; omega))))
  · refine gc_seq ?_
    refine gc_region ?_
    refine sq (q_fa rfl Tryz.runUnderlying238 rfl Tryz.sizeOf3) rfl rfl ?_
    refine sq (q_ld rfl Tryz.isAgg3 rfl) rfl rfl ?_
    refine sq (q_gtr rfl rfl) rfl rfl ?_
    refine sq (q_as rfl) rfl rfl ?_
    refine go_nil ?_
    refine tn ?_
    refine gc_if rfl (fun h4 => ?_) (fun h4 => ?_)
    · refine gc_seq ?_
      refine gc_region ?_
      refine sq (q_fa rfl Tryz.runUnderlying238 rfl Tryz.sizeOf3) rfl rfl ?_
      refine sq (q_ld rfl Tryz.isAgg3 rfl) rfl rfl ?_
      refine sq (q_subw rfl rfl) rfl rfl ?_
      refine sq (q_fa rfl Tryz.runUnderlying238 rfl Tryz.sizeOf3) rfl rfl ?_
      refine s_st (e_st rfl rfl Tryz.sizeOf3 rfl rfl rfl rfl) rfl rfl ?_
      refine go_nil ?_
      refine tn ?_
      refine gc_seq ?_
      refine gc_region ?_
      refine sq (q_lda rfl Tryz.isAgg238 Tryz.sizeOf238 rfl) rfl rfl ?_
      refine s_st (e_st rfl rfl Tryz.sizeOf238 rfl rfl rfl rfl) rfl rfl ?_
      refine sq (q_as rfl) rfl rfl ?_
      refine go_nil ?_
      refine tn ?_
      refine gc_ret ?_
      refine br (tr ?_)
      refine ret_ct (.inl rfl) rfl rfl Tryz.isAgg238 Tryz.sizeOf238 rfl rfl ?_
      exact rsE (by first | rfl | (simp_all [Door.tick]; done) | (simp_all [Door.tick]; rfl) | (simp_all [Door.tick]; omega) | (simp_all [Door.tick]; intros; omega) | (simp_all [Door.tick]; (repeat' split) <;> first | rfl | (simp_all; done) | omega | (exfalso; omega)) | (simp only [Door.tick]; (repeat' split) <;> first | (simp_all; done) | (simp_all; omega) | omega | (exfalso; simp_all; omega)) | (simp_all; (simp only [Door.tick]; (repeat' split) <;> first | (simp_all; done) | (simp_all; omega) | omega | (exfalso; simp_all; omega))))
    · refine gc_seq ?_
      refine gc_region ?_
      refine sq (q_mv rfl) rfl rfl ?_
      refine sq (q_as rfl) rfl rfl ?_
      refine go_nil ?_
      refine tn ?_
      refine gc_if rfl (fun h5 => ?_) (fun h5 => ?_)
      · refine gc_seq ?_
        refine gc_region ?_
        refine sq (q_fa rfl Tryz.runUnderlying238 rfl Tryz.sizeOf3) rfl rfl ?_
        refine sq (q_ld rfl Tryz.isAgg3 rfl) rfl rfl ?_
        refine sq (q_addw rfl rfl) rfl rfl ?_
        refine sq (q_fa rfl Tryz.runUnderlying238 rfl Tryz.sizeOf3) rfl rfl ?_
        refine s_st (e_st rfl rfl Tryz.sizeOf3 rfl rfl rfl rfl) rfl rfl ?_
        refine go_nil ?_
        refine tn ?_
        refine gc_seq ?_
        refine gc_region ?_
        refine sq (q_lda rfl Tryz.isAgg238 Tryz.sizeOf238 rfl) rfl rfl ?_
        refine s_st (e_st rfl rfl Tryz.sizeOf238 rfl rfl rfl rfl) rfl rfl ?_
        refine sq (q_as rfl) rfl rfl ?_
        refine go_nil ?_
        refine tn ?_
        refine gc_ret ?_
        refine br (tr ?_)
        refine ret_ct (.inl rfl) rfl rfl Tryz.isAgg238 Tryz.sizeOf238 rfl rfl ?_
        exact rsE (by first | rfl | (simp_all [Door.tick]; done) | (simp_all [Door.tick]; rfl) | (simp_all [Door.tick]; omega) | (simp_all [Door.tick]; intros; omega) | (simp_all [Door.tick]; (repeat' split) <;> first | rfl | (simp_all; done) | omega | (exfalso; omega)) | (simp only [Door.tick]; (repeat' split) <;> first | (simp_all; done) | (simp_all; omega) | omega | (exfalso; simp_all; omega)) | (simp_all; (simp only [Door.tick]; (repeat' split) <;> first | (simp_all; done) | (simp_all; omega) | omega | (exfalso; simp_all; omega))))
      · refine gc_skip ?_
        refine bn (tn ?_)
        refine gc_seq ?_
        refine gc_region ?_
        refine sq (q_bld rfl Tryz.runUnderlying238 Tryz.zeroValue238 rfl pl238 rfl) rfl rfl ?_
        refine s_st (e_st rfl rfl Tryz.sizeOf238 rfl rfl rfl rfl) rfl rfl ?_
        refine sq (q_as rfl) rfl rfl ?_
        refine go_nil ?_
        refine tn ?_
        refine gc_ret ?_
        refine ret_ct (.inl rfl) rfl rfl Tryz.isAgg238 Tryz.sizeOf238 rfl rfl ?_
        exact rsE (by first | rfl | (simp_all [Door.tick]; done) | (simp_all [Door.tick]; rfl) | (simp_all [Door.tick]; omega) | (simp_all [Door.tick]; intros; omega) | (simp_all [Door.tick]; (repeat' split) <;> first | rfl | (simp_all; done) | omega | (exfalso; omega)) | (simp only [Door.tick]; (repeat' split) <;> first | (simp_all; done) | (simp_all; omega) | omega | (exfalso; simp_all; omega)) | (simp_all; (simp only [Door.tick]; (repeat' split) <;> first | (simp_all; done) | (simp_all; omega) | omega | (exfalso; simp_all; omega))))

set_option maxRecDepth 4000 in
set_option maxHeartbeats 2000000 in
theorem doorStuck_spec (d : Door) (n : Int) :
    Spec Tryz.prog 142 [d.v, i6 n] [] [] (fun v L => v = .bool (d.stuck n) ∧ L = []) := by
  refine spec_of Tryz.func142 rfl Tryz.ntmps142 (by simp) fun w0 hb => ?_
  refine gc_seq ?_
  refine gc_region ?_
  refine s_new (e_box rfl rfl) rfl rfl fun b1 => ?_
  refine sq (q_as rfl) rfl rfl ?_
  refine go_nil ?_
  refine tn ?_
  refine gc_seq ?_
  refine gc_block ?_
  refine gc_seq ?_
  refine gc_region ?_
  refine sq (q_lda rfl Tryz.isAgg238 Tryz.sizeOf238 rfl) rfl rfl ?_
  refine s_callE (e_call (doorIs_spec d) rfl en143) rfl rfl ?_
  refine sq (q_not rfl) rfl rfl ?_
  refine sq (q_mv rfl) rfl rfl ?_
  refine bsp (fun h2 => ?_) (fun h2 => ?_)
  · refine sskip rfl rfl ?_
    refine sskip rfl rfl ?_
    refine sq (q_pick rfl rfl) rfl rfl ?_
    refine sq (q_as rfl) rfl rfl ?_
    refine go_nil ?_
    refine tn ?_
    refine gc_true rfl ?_
    refine gc_seq ?_
    refine gc_region ?_
    refine sq (q_as rfl) rfl rfl ?_
    refine go_nil ?_
    refine tn ?_
    refine gc_ret ?_
    refine br (tr ?_)
    refine ret_1 (.inl rfl) rfl rfl ?_
    exact rsE (by first | (simp_all [Door.stuck]; done) | (rw [w64_id (by simp_all; omega)]; first | (simp_all [Door.stuck]; done) | (simp_all [Door.stuck]; omega) | (simp only [Door.stuck]; (repeat' split) <;> first | (simp_all; done) | (simp_all; omega))))
  · refine sq (q_mv rfl) rfl rfl ?_
    refine sq (q_gtr rfl rfl) rfl rfl ?_
    refine sq (q_pick rfl rfl) rfl rfl ?_
    refine sq (q_as rfl) rfl rfl ?_
    refine go_nil ?_
    refine tn ?_
    refine gc_if rfl (fun h3 => ?_) (fun h3 => ?_)
    · refine gc_seq ?_
      refine gc_region ?_
      refine sq (q_as rfl) rfl rfl ?_
      refine go_nil ?_
      refine tn ?_
      refine gc_ret ?_
      refine br (tr ?_)
      refine ret_1 (.inl rfl) rfl rfl ?_
      exact rsE (by first | (simp_all [Door.stuck]; done) | (rw [w64_id (by simp_all; omega)]; first | (simp_all [Door.stuck]; done) | (simp_all [Door.stuck]; omega) | (simp only [Door.stuck]; (repeat' split) <;> first | (simp_all; done) | (simp_all; omega))))
    · refine gc_seq ?_
      refine gc_region ?_
      refine sq (q_mv rfl) rfl rfl ?_
      refine sq (q_lss rfl rfl) rfl rfl ?_
      refine sq (q_as rfl) rfl rfl ?_
      refine go_nil ?_
      refine tn ?_
      refine gc_if rfl (fun h4 => ?_) (fun h4 => ?_)
      · refine gc_seq ?_
        refine gc_region ?_
        refine sq (q_as rfl) rfl rfl ?_
        refine go_nil ?_
        refine tn ?_
        refine gc_ret ?_
        refine br (tr ?_)
        refine ret_1 (.inl rfl) rfl rfl ?_
        exact rsE (by first | (simp_all [Door.stuck]; done) | (rw [w64_id (by simp_all; omega)]; first | (simp_all [Door.stuck]; done) | (simp_all [Door.stuck]; omega) | (simp only [Door.stuck]; (repeat' split) <;> first | (simp_all; done) | (simp_all; omega))))
      · refine gc_skip ?_
        refine bn (tn ?_)
        refine gc_seq ?_
        refine gc_region ?_
        refine sq (q_fa rfl Tryz.runUnderlying238 rfl Tryz.sizeOf3) rfl rfl ?_
        refine sq (q_ld rfl Tryz.isAgg3 rfl) rfl rfl ?_
        refine sq (q_mv rfl) rfl rfl ?_
        refine sq (q_mulw rfl rfl) rfl rfl ?_
        refine sq (q_gtr rfl rfl) rfl rfl ?_
        refine sq (q_as rfl) rfl rfl ?_
        refine go_nil ?_
        refine tn ?_
        refine gc_ret ?_
        refine ret_1 (.inl rfl) rfl rfl ?_
        exact rsE (by first | (simp_all [Door.stuck]; done) | (rw [w64_id (by simp_all; omega)]; first | (simp_all [Door.stuck]; done) | (simp_all [Door.stuck]; omega) | (simp only [Door.stuck]; (repeat' split) <;> first | (simp_all; done) | (simp_all; omega))))

set_option maxRecDepth 4000 in
set_option maxHeartbeats 2000000 in
theorem enone_spec (e : Epoch) :
    Spec Tryz.prog 232 [e.v] [] [] (fun v L => v = .bool (decide (e.count = 0)) ∧ L = []) := by
  refine spec_of Tryz.func232 rfl Tryz.ntmps232 (by simp) fun w0 hb => ?_
  refine gc_seq ?_
  refine gc_region ?_
  refine s_new (e_box rfl rfl) rfl rfl fun b1 => ?_
  refine sq (q_as rfl) rfl rfl ?_
  refine go_nil ?_
  refine tn ?_
  refine gc_seq ?_
  refine gc_region ?_
  refine sq (q_fa rfl Tryz.runUnderlying35 rfl Tryz.sizeOf2) rfl rfl ?_
  refine sq (q_ld rfl Tryz.isAgg2 rfl) rfl rfl ?_
  refine sq (q_eql rfl rfl) rfl rfl ?_
  refine sq (q_as rfl) rfl rfl ?_
  refine go_nil ?_
  refine tn ?_
  refine gc_ret ?_
  refine ret_1 (.inl rfl) rfl rfl ?_
  exact rsE (by first | rfl | (simp_all; done) | (simp_all; rfl) | (simp_all; omega) | (simp_all; intros; omega) | (simp_all; (repeat' split) <;> first | rfl | (simp_all; done) | omega | (exfalso; omega)))

set_option maxRecDepth 4000 in
set_option maxHeartbeats 2000000 in
theorem evalid_spec (e : Epoch) :
    Spec Tryz.prog 192 [e.v] [] [] (fun v L => v = .bool e.ok ∧ L = []) := by
  refine spec_of Tryz.func192 rfl Tryz.ntmps192 (by simp) fun w0 hb => ?_
  refine gc_seq ?_
  refine gc_region ?_
  refine s_new (e_box rfl rfl) rfl rfl fun b1 => ?_
  refine sq (q_as rfl) rfl rfl ?_
  refine go_nil ?_
  refine tn ?_
  refine gc_seq ?_
  refine gc_region ?_
  refine sq (q_fa rfl Tryz.runUnderlying35 rfl Tryz.sizeOf2) rfl rfl ?_
  refine sq (q_ld rfl Tryz.isAgg2 rfl) rfl rfl ?_
  refine sq (q_geq rfl rfl) rfl rfl ?_
  refine sq (q_mv rfl) rfl rfl ?_
  refine bsp (fun h2 => ?_) (fun h2 => ?_)
  · refine sq (q_fa rfl Tryz.runUnderlying35 rfl Tryz.sizeOf2) rfl rfl ?_
    refine sq (q_ld rfl Tryz.isAgg2 rfl) rfl rfl ?_
    refine sq (q_leq rfl rfl) rfl rfl ?_
    refine sq (q_pick rfl rfl) rfl rfl ?_
    refine sq (q_mv rfl) rfl rfl ?_
    refine bsp (fun h3 => ?_) (fun h3 => ?_)
    · refine sq (q_fa rfl Tryz.runUnderlying35 rfl Tryz.sizeOf3) rfl rfl ?_
      refine sq (q_ld rfl Tryz.isAgg3 rfl) rfl rfl ?_
      refine sq (q_geq rfl rfl) rfl rfl ?_
      refine sq (q_pick rfl rfl) rfl rfl ?_
      refine sq (q_mv rfl) rfl rfl ?_
      refine bsp (fun h4 => ?_) (fun h4 => ?_)
      · refine sq (q_fa rfl Tryz.runUnderlying35 rfl Tryz.sizeOf3) rfl rfl ?_
        refine sq (q_ld rfl Tryz.isAgg3 rfl) rfl rfl ?_
        refine sq (q_lss rfl rfl) rfl rfl ?_
        refine sq (q_pick rfl rfl) rfl rfl ?_
        refine sq (q_as rfl) rfl rfl ?_
        refine go_nil ?_
        refine tn ?_
        refine gc_ret ?_
        refine ret_1 (.inl rfl) rfl rfl ?_
        exact rsE (by first | rfl | (simp_all [Epoch.ok]; done) | (simp_all [Epoch.ok]; rfl) | (simp_all [Epoch.ok]; omega) | (simp_all [Epoch.ok]; intros; omega) | (simp_all [Epoch.ok]; (repeat' split) <;> first | rfl | (simp_all; done) | omega | (exfalso; omega)) | (simp only [Epoch.ok]; (repeat' split) <;> first | (simp_all; done) | (simp_all; omega) | omega | (exfalso; simp_all; omega)) | (simp_all; (simp only [Epoch.ok]; (repeat' split) <;> first | (simp_all; done) | (simp_all; omega) | omega | (exfalso; simp_all; omega))))
      · refine sskip rfl rfl ?_
        refine sskip rfl rfl ?_
        refine sskip rfl rfl ?_
        refine sq (q_pick rfl rfl) rfl rfl ?_
        refine sq (q_as rfl) rfl rfl ?_
        refine go_nil ?_
        refine tn ?_
        refine gc_ret ?_
        refine ret_1 (.inl rfl) rfl rfl ?_
        exact rsE (by first | rfl | (simp_all [Epoch.ok]; done) | (simp_all [Epoch.ok]; rfl) | (simp_all [Epoch.ok]; omega) | (simp_all [Epoch.ok]; intros; omega) | (simp_all [Epoch.ok]; (repeat' split) <;> first | rfl | (simp_all; done) | omega | (exfalso; omega)) | (simp only [Epoch.ok]; (repeat' split) <;> first | (simp_all; done) | (simp_all; omega) | omega | (exfalso; simp_all; omega)) | (simp_all; (simp only [Epoch.ok]; (repeat' split) <;> first | (simp_all; done) | (simp_all; omega) | omega | (exfalso; simp_all; omega))))
    · refine sskip rfl rfl ?_
      refine sskip rfl rfl ?_
      refine sskip rfl rfl ?_
      refine sq (q_pick rfl rfl) rfl rfl ?_
      refine sq (q_mv rfl) rfl rfl ?_
      refine sskip rfl rfl ?_
      refine sskip rfl rfl ?_
      refine sskip rfl rfl ?_
      refine sq (q_pick rfl rfl) rfl rfl ?_
      refine sq (q_as rfl) rfl rfl ?_
      refine go_nil ?_
      refine tn ?_
      refine gc_ret ?_
      refine ret_1 (.inl rfl) rfl rfl ?_
      exact rsE (by first | rfl | (simp_all [Epoch.ok]; done) | (simp_all [Epoch.ok]; rfl) | (simp_all [Epoch.ok]; omega) | (simp_all [Epoch.ok]; intros; omega) | (simp_all [Epoch.ok]; (repeat' split) <;> first | rfl | (simp_all; done) | omega | (exfalso; omega)) | (simp only [Epoch.ok]; (repeat' split) <;> first | (simp_all; done) | (simp_all; omega) | omega | (exfalso; simp_all; omega)) | (simp_all; (simp only [Epoch.ok]; (repeat' split) <;> first | (simp_all; done) | (simp_all; omega) | omega | (exfalso; simp_all; omega))))
  · refine sskip rfl rfl ?_
    refine sskip rfl rfl ?_
    refine sskip rfl rfl ?_
    refine sq (q_pick rfl rfl) rfl rfl ?_
    refine sq (q_mv rfl) rfl rfl ?_
    refine sskip rfl rfl ?_
    refine sskip rfl rfl ?_
    refine sskip rfl rfl ?_
    refine sq (q_pick rfl rfl) rfl rfl ?_
    refine sq (q_mv rfl) rfl rfl ?_
    refine sskip rfl rfl ?_
    refine sskip rfl rfl ?_
    refine sskip rfl rfl ?_
    refine sq (q_pick rfl rfl) rfl rfl ?_
    refine sq (q_as rfl) rfl rfl ?_
    refine go_nil ?_
    refine tn ?_
    refine gc_ret ?_
    refine ret_1 (.inl rfl) rfl rfl ?_
    exact rsE (by first | rfl | (simp_all [Epoch.ok]; done) | (simp_all [Epoch.ok]; rfl) | (simp_all [Epoch.ok]; omega) | (simp_all [Epoch.ok]; intros; omega) | (simp_all [Epoch.ok]; (repeat' split) <;> first | rfl | (simp_all; done) | omega | (exfalso; omega)) | (simp only [Epoch.ok]; (repeat' split) <;> first | (simp_all; done) | (simp_all; omega) | omega | (exfalso; simp_all; omega)) | (simp_all; (simp only [Epoch.ok]; (repeat' split) <;> first | (simp_all; done) | (simp_all; omega) | omega | (exfalso; simp_all; omega))))

set_option maxRecDepth 4000 in
set_option maxHeartbeats 2000000 in
theorem eless_spec (a b : Epoch) :
    Spec Tryz.prog 116 [a.v, b.v] [] [] (fun v L => v = .bool (a.lt b) ∧ L = []) := by
  refine spec_of Tryz.func116 rfl Tryz.ntmps116 (by simp) fun w0 hb => ?_
  refine gc_seq ?_
  refine gc_region ?_
  refine s_new (e_box rfl rfl) rfl rfl fun b1 => ?_
  refine s_new (e_box rfl rfl) rfl rfl fun b2 => ?_
  refine sq (q_as rfl) rfl rfl ?_
  refine go_nil ?_
  refine tn ?_
  refine gc_seq ?_
  refine gc_region ?_
  refine sq (q_fa rfl Tryz.runUnderlying35 rfl Tryz.sizeOf2) rfl rfl ?_
  refine sq (q_ld rfl Tryz.isAgg2 rfl) rfl rfl ?_
  refine sq (q_fa rfl Tryz.runUnderlying35 rfl Tryz.sizeOf2) rfl rfl ?_
  refine sq (q_ld rfl Tryz.isAgg2 rfl) rfl rfl ?_
  refine sq (q_lss rfl rfl) rfl rfl ?_
  refine sq (q_mv rfl) rfl rfl ?_
  refine bsp (fun h3 => ?_) (fun h3 => ?_)
  · refine sskip rfl rfl ?_
    refine sskip rfl rfl ?_
    refine sskip rfl rfl ?_
    refine sskip rfl rfl ?_
    refine sskip rfl rfl ?_
    refine sskip rfl rfl ?_
    refine sskip rfl rfl ?_
    refine sskip rfl rfl ?_
    refine sskip rfl rfl ?_
    refine sskip rfl rfl ?_
    refine sskip rfl rfl ?_
    refine sskip rfl rfl ?_
    refine sq (q_pick rfl rfl) rfl rfl ?_
    refine sq (q_as rfl) rfl rfl ?_
    refine go_nil ?_
    refine tn ?_
    refine gc_ret ?_
    refine ret_1 (.inl rfl) rfl rfl ?_
    exact rsE (by first | rfl | (simp_all [Epoch.lt]; done) | (simp_all [Epoch.lt]; rfl) | (simp_all [Epoch.lt]; omega) | (simp_all [Epoch.lt]; intros; omega) | (simp_all [Epoch.lt]; (repeat' split) <;> first | rfl | (simp_all; done) | omega | (exfalso; omega)) | (simp only [Epoch.lt]; (repeat' split) <;> first | (simp_all; done) | (simp_all; omega) | omega | (exfalso; simp_all; omega)) | (simp_all; (simp only [Epoch.lt]; (repeat' split) <;> first | (simp_all; done) | (simp_all; omega) | omega | (exfalso; simp_all; omega))))
  · refine sq (q_fa rfl Tryz.runUnderlying35 rfl Tryz.sizeOf2) rfl rfl ?_
    refine sq (q_ld rfl Tryz.isAgg2 rfl) rfl rfl ?_
    refine sq (q_fa rfl Tryz.runUnderlying35 rfl Tryz.sizeOf2) rfl rfl ?_
    refine sq (q_ld rfl Tryz.isAgg2 rfl) rfl rfl ?_
    refine sq (q_eql rfl rfl) rfl rfl ?_
    refine sq (q_mv rfl) rfl rfl ?_
    refine bsp (fun h4 => ?_) (fun h4 => ?_)
    · refine sq (q_fa rfl Tryz.runUnderlying35 rfl Tryz.sizeOf3) rfl rfl ?_
      refine sq (q_ld rfl Tryz.isAgg3 rfl) rfl rfl ?_
      refine sq (q_fa rfl Tryz.runUnderlying35 rfl Tryz.sizeOf3) rfl rfl ?_
      refine sq (q_ld rfl Tryz.isAgg3 rfl) rfl rfl ?_
      refine sq (q_lss rfl rfl) rfl rfl ?_
      refine sq (q_pick rfl rfl) rfl rfl ?_
      refine sq (q_pick rfl rfl) rfl rfl ?_
      refine sq (q_as rfl) rfl rfl ?_
      refine go_nil ?_
      refine tn ?_
      refine gc_ret ?_
      refine ret_1 (.inl rfl) rfl rfl ?_
      exact rsE (by first | rfl | (simp_all [Epoch.lt]; done) | (simp_all [Epoch.lt]; rfl) | (simp_all [Epoch.lt]; omega) | (simp_all [Epoch.lt]; intros; omega) | (simp_all [Epoch.lt]; (repeat' split) <;> first | rfl | (simp_all; done) | omega | (exfalso; omega)) | (simp only [Epoch.lt]; (repeat' split) <;> first | (simp_all; done) | (simp_all; omega) | omega | (exfalso; simp_all; omega)) | (simp_all; (simp only [Epoch.lt]; (repeat' split) <;> first | (simp_all; done) | (simp_all; omega) | omega | (exfalso; simp_all; omega))))
    · refine sskip rfl rfl ?_
      refine sskip rfl rfl ?_
      refine sskip rfl rfl ?_
      refine sskip rfl rfl ?_
      refine sskip rfl rfl ?_
      refine sq (q_pick rfl rfl) rfl rfl ?_
      refine sq (q_pick rfl rfl) rfl rfl ?_
      refine sq (q_as rfl) rfl rfl ?_
      refine go_nil ?_
      refine tn ?_
      refine gc_ret ?_
      refine ret_1 (.inl rfl) rfl rfl ?_
      exact rsE (by first | rfl | (simp_all [Epoch.lt]; done) | (simp_all [Epoch.lt]; rfl) | (simp_all [Epoch.lt]; omega) | (simp_all [Epoch.lt]; intros; omega) | (simp_all [Epoch.lt]; (repeat' split) <;> first | rfl | (simp_all; done) | omega | (exfalso; omega)) | (simp only [Epoch.lt]; (repeat' split) <;> first | (simp_all; done) | (simp_all; omega) | omega | (exfalso; simp_all; omega)) | (simp_all; (simp only [Epoch.lt]; (repeat' split) <;> first | (simp_all; done) | (simp_all; omega) | omega | (exfalso; simp_all; omega))))

set_option maxRecDepth 4000 in
set_option maxHeartbeats 2000000 in
theorem enext_spec (s f : Int) :
    Spec Tryz.prog 146 [i6 s, i6 f] [] [] (fun v L => v = .tuple #[(nextE s f).1.v, .bool (nextE s f).2] ∧ L = []) := by
  refine spec_of Tryz.func146 rfl Tryz.ntmps146 (by simp) fun w0 hb => ?_
  refine gc_seq ?_
  refine gc_region ?_
  refine s_new (e_alloc Tryz.zeroValue35 rfl) rfl rfl fun b1 => ?_
  refine sq (q_as rfl) rfl rfl ?_
  refine go_nil ?_
  refine tn ?_
  refine gc_seq ?_
  refine gc_seq ?_
  refine gc_region ?_
  refine sq (q_mv rfl) rfl rfl ?_
  refine sq (q_lss rfl rfl) rfl rfl ?_
  refine sq (q_mv rfl) rfl rfl ?_
  refine bsp (fun h2 => ?_) (fun h2 => ?_)
  · refine sskip rfl rfl ?_
    refine sskip rfl rfl ?_
    refine sq (q_pick rfl rfl) rfl rfl ?_
    refine go_nil ?_
    refine tn ?_
    refine gc_true rfl ?_
    refine gc_seq ?_
    refine gc_region ?_
    refine sq (q_bld rfl Tryz.runUnderlying35 Tryz.zeroValue35 rfl pl35 rfl) rfl rfl ?_
    refine s_st (e_st rfl rfl Tryz.sizeOf35 rfl rfl rfl rfl) rfl rfl ?_
    refine sq (q_as rfl) rfl rfl ?_
    refine go_nil ?_
    refine tn ?_
    refine gc_ret ?_
    refine tr ?_
    refine ret_ct (.inl rfl) rfl rfl Tryz.isAgg35 Tryz.sizeOf35 rfl rfl ?_
    exact rsE (by first | (simp_all [nextE]; done) | (have w1 := w64_id (n := s + 1) (by simp_all; omega); simp only [w1] at *; first | (simp_all [nextE]; done) | (simp only [nextE]; (repeat' split) <;> first | (simp_all; done) | (simp_all; omega))))
  · refine sq (q_mv rfl) rfl rfl ?_
    refine sq (q_geq rfl rfl) rfl rfl ?_
    refine sq (q_pick rfl rfl) rfl rfl ?_
    refine go_nil ?_
    refine tn ?_
    refine gc_if rfl (fun h3 => ?_) (fun h3 => ?_)
    · refine gc_seq ?_
      refine gc_region ?_
      refine sq (q_bld rfl Tryz.runUnderlying35 Tryz.zeroValue35 rfl pl35 rfl) rfl rfl ?_
      refine s_st (e_st rfl rfl Tryz.sizeOf35 rfl rfl rfl rfl) rfl rfl ?_
      refine sq (q_as rfl) rfl rfl ?_
      refine go_nil ?_
      refine tn ?_
      refine gc_ret ?_
      refine tr ?_
      refine ret_ct (.inl rfl) rfl rfl Tryz.isAgg35 Tryz.sizeOf35 rfl rfl ?_
      exact rsE (by first | (simp_all [nextE]; done) | (have w1 := w64_id (n := s + 1) (by simp_all; omega); simp only [w1] at *; first | (simp_all [nextE]; done) | (simp only [nextE]; (repeat' split) <;> first | (simp_all; done) | (simp_all; omega))))
    · refine gc_skip ?_
      refine tn ?_
      refine gc_seq ?_
      refine gc_region ?_
      refine sq (q_mv rfl) rfl rfl ?_
      refine sq (q_addw rfl rfl) rfl rfl ?_
      refine sq (q_mv rfl) rfl rfl ?_
      refine sq (q_bld rfl Tryz.runUnderlying35 Tryz.zeroValue35 rfl pl35 rfl) rfl rfl ?_
      refine s_new (e_alloc Tryz.zeroValue35 rfl) rfl rfl fun b4 => ?_
      refine s_st (e_st rfl rfl Tryz.sizeOf35 rfl rfl rfl rfl) rfl rfl ?_
      refine go_nil ?_
      refine tn ?_
      refine gc_seq ?_
      refine gc_seq ?_
      refine gc_region ?_
      refine sq (q_lda rfl Tryz.isAgg35 Tryz.sizeOf35 rfl) rfl rfl ?_
      refine s_callE (e_call (evalid_spec ⟨_, _⟩) rfl en192) rfl rfl ?_
      refine sq (q_not rfl) rfl rfl ?_
      refine go_nil ?_
      refine tn ?_
      refine gc_if rfl (fun h5 => ?_) (fun h5 => ?_)
      · refine gc_seq ?_
        refine gc_region ?_
        refine sq (q_bld rfl Tryz.runUnderlying35 Tryz.zeroValue35 rfl pl35 rfl) rfl rfl ?_
        refine s_st (e_st rfl rfl Tryz.sizeOf35 rfl rfl rfl rfl) rfl rfl ?_
        refine sq (q_as rfl) rfl rfl ?_
        refine go_nil ?_
        refine tn ?_
        refine gc_ret ?_
        refine tr ?_
        refine ret_ct (.inl rfl) rfl rfl Tryz.isAgg35 Tryz.sizeOf35 rfl rfl ?_
        exact rsE (by first | (simp_all [nextE]; done) | (have w1 := w64_id (n := s + 1) (by simp_all; omega); simp only [w1] at *; first | (simp_all [nextE]; done) | (simp only [nextE]; (repeat' split) <;> first | (simp_all; done) | (simp_all; omega))))
      · refine gc_skip ?_
        refine tn ?_
        refine gc_seq ?_
        refine gc_region ?_
        refine sq (q_lda rfl Tryz.isAgg35 Tryz.sizeOf35 rfl) rfl rfl ?_
        refine s_st (e_st rfl rfl Tryz.sizeOf35 rfl rfl rfl rfl) rfl rfl ?_
        refine sq (q_as rfl) rfl rfl ?_
        refine go_nil ?_
        refine tn ?_
        refine gc_ret ?_
        refine ret_ct (.inl rfl) rfl rfl Tryz.isAgg35 Tryz.sizeOf35 rfl rfl ?_
        exact rsE (by first | (simp_all [nextE]; done) | (have w1 := w64_id (n := s + 1) (by simp_all; omega); simp only [w1] at *; first | (simp_all [nextE]; done) | (simp only [nextE]; (repeat' split) <;> first | (simp_all; done) | (simp_all; omega))))

set_option maxRecDepth 4000 in
set_option maxHeartbeats 2000000 in
theorem fcar_spec (n : Int) :
    Spec Tryz.prog 109 [i6 n] [] [] (fun v L => v = .bool (decide (0 ≤ n ∧ n < 16)) ∧ L = []) := by
  refine spec_of Tryz.func109 rfl Tryz.ntmps109 (by simp) fun w0 hb => ?_
  refine gc_seq ?_
  refine gc_region ?_
  refine sq (q_as rfl) rfl rfl ?_
  refine go_nil ?_
  refine tn ?_
  refine gc_seq ?_
  refine gc_region ?_
  refine sq (q_mv rfl) rfl rfl ?_
  refine sq (q_geq rfl rfl) rfl rfl ?_
  refine sq (q_mv rfl) rfl rfl ?_
  refine bsp (fun h1 => ?_) (fun h1 => ?_)
  · refine sq (q_mv rfl) rfl rfl ?_
    refine sq (q_lss rfl rfl) rfl rfl ?_
    refine sq (q_pick rfl rfl) rfl rfl ?_
    refine sq (q_as rfl) rfl rfl ?_
    refine go_nil ?_
    refine tn ?_
    refine gc_ret ?_
    refine ret_1 (.inl rfl) rfl rfl ?_
    exact rsE (by first | rfl | (simp_all; done) | (simp_all; rfl) | (simp_all; omega) | (simp_all; intros; omega) | (simp_all; (repeat' split) <;> first | rfl | (simp_all; done) | omega | (exfalso; omega)))
  · refine sskip rfl rfl ?_
    refine sskip rfl rfl ?_
    refine sq (q_pick rfl rfl) rfl rfl ?_
    refine sq (q_as rfl) rfl rfl ?_
    refine go_nil ?_
    refine tn ?_
    refine gc_ret ?_
    refine ret_1 (.inl rfl) rfl rfl ?_
    exact rsE (by first | rfl | (simp_all; done) | (simp_all; rfl) | (simp_all; omega) | (simp_all; intros; omega) | (simp_all; (repeat' split) <;> first | rfl | (simp_all; done) | omega | (exfalso; omega)))

set_option maxRecDepth 4000 in
set_option maxHeartbeats 2000000 in
theorem lcar_spec (n : Int) :
    Spec Tryz.prog 113 [i6 n] [] [] (fun v L => v = .bool (decide (0 ≤ n ∧ n < 16)) ∧ L = []) := by
  refine spec_of Tryz.func113 rfl Tryz.ntmps113 (by simp) fun w0 hb => ?_
  refine gc_seq ?_
  refine gc_region ?_
  refine sq (q_as rfl) rfl rfl ?_
  refine go_nil ?_
  refine tn ?_
  refine gc_seq ?_
  refine gc_region ?_
  refine sq (q_mv rfl) rfl rfl ?_
  refine sq (q_geq rfl rfl) rfl rfl ?_
  refine sq (q_mv rfl) rfl rfl ?_
  refine bsp (fun h1 => ?_) (fun h1 => ?_)
  · refine sq (q_mv rfl) rfl rfl ?_
    refine sq (q_lss rfl rfl) rfl rfl ?_
    refine sq (q_pick rfl rfl) rfl rfl ?_
    refine sq (q_as rfl) rfl rfl ?_
    refine go_nil ?_
    refine tn ?_
    refine gc_ret ?_
    refine ret_1 (.inl rfl) rfl rfl ?_
    exact rsE (by first | rfl | (simp_all; done) | (simp_all; rfl) | (simp_all; omega) | (simp_all; intros; omega) | (simp_all; (repeat' split) <;> first | rfl | (simp_all; done) | omega | (exfalso; omega)))
  · refine sskip rfl rfl ?_
    refine sskip rfl rfl ?_
    refine sq (q_pick rfl rfl) rfl rfl ?_
    refine sq (q_as rfl) rfl rfl ?_
    refine go_nil ?_
    refine tn ?_
    refine gc_ret ?_
    refine ret_1 (.inl rfl) rfl rfl ?_
    exact rsE (by first | rfl | (simp_all; done) | (simp_all; rfl) | (simp_all; omega) | (simp_all; intros; omega) | (simp_all; (repeat' split) <;> first | rfl | (simp_all; done) | omega | (exfalso; omega)))

set_option maxRecDepth 4000 in
set_option maxHeartbeats 2000000 in
theorem fnum_spec (n : Int) :
    Spec Tryz.prog 111 [i6 n] [] [] (fun v L => v = .bool (decide (0 ≤ n ∧ n ≤ 281474976710655)) ∧ L = []) := by
  refine spec_of Tryz.func111 rfl Tryz.ntmps111 (by simp) fun w0 hb => ?_
  refine gc_seq ?_
  refine gc_region ?_
  refine sq (q_as rfl) rfl rfl ?_
  refine go_nil ?_
  refine tn ?_
  refine gc_seq ?_
  refine gc_region ?_
  refine sq (q_mv rfl) rfl rfl ?_
  refine sq (q_geq rfl rfl) rfl rfl ?_
  refine sq (q_mv rfl) rfl rfl ?_
  refine bsp (fun h1 => ?_) (fun h1 => ?_)
  · refine sq (q_mv rfl) rfl rfl ?_
    refine sq (q_leq rfl rfl) rfl rfl ?_
    refine sq (q_pick rfl rfl) rfl rfl ?_
    refine sq (q_as rfl) rfl rfl ?_
    refine go_nil ?_
    refine tn ?_
    refine gc_ret ?_
    refine ret_1 (.inl rfl) rfl rfl ?_
    exact rsE (by first | rfl | (simp_all; done) | (simp_all; rfl) | (simp_all; omega) | (simp_all; intros; omega) | (simp_all; (repeat' split) <;> first | rfl | (simp_all; done) | omega | (exfalso; omega)))
  · refine sskip rfl rfl ?_
    refine sskip rfl rfl ?_
    refine sq (q_pick rfl rfl) rfl rfl ?_
    refine sq (q_as rfl) rfl rfl ?_
    refine go_nil ?_
    refine tn ?_
    refine gc_ret ?_
    refine ret_1 (.inl rfl) rfl rfl ?_
    exact rsE (by first | rfl | (simp_all; done) | (simp_all; rfl) | (simp_all; omega) | (simp_all; intros; omega) | (simp_all; (repeat' split) <;> first | rfl | (simp_all; done) | omega | (exfalso; omega)))
end Go.LL
