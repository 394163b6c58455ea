/- Part of a claim: contracts of the program's functions, walked op by op. -/
import Derived.Test.YthabegpfnfbmaaaGreatDoorA5
import Derived.Test.YthabegpfnfbmaaaGreatDoorMO3
set_option linter.unusedSimpArgs false
set_option linter.unusedVariables false
namespace Go.LL
open Go.Proofs

set_option maxRecDepth 4000 in
set_option maxHeartbeats 2000000 in
theorem gnew_spec (n : Int) :
    Spec Tryz.prog 68 [i6 n] [] [] (fun v L => ∃ b, v = pt b ∧ L = [(b, GateM.o 205 ⟨⟨0, 0⟩, 0, max n 0⟩)]) := by
  refine spec_of Tryz.func68 rfl Tryz.ntmps68 (by simp) fun w0 hb => ?_
  refine gc_seq ?_
  refine gc_region ?_
  refine sq (q_as rfl) rfl rfl ?_
  refine go_nil ?_
  refine tn ?_
  refine gc_seq ?_
  refine gc_region ?_
  refine sq (q_mv rfl) rfl rfl ?_
  refine sq (q_max2 rfl rfl) rfl rfl ?_
  refine sq (q_bld rfl Tryz.runUnderlying205 Tryz.zeroValue205 rfl pl205 rfl) rfl rfl ?_
  refine s_new (e_box rfl rfl) rfl rfl fun b1 => ?_
  refine sq (q_as rfl) rfl rfl ?_
  refine go_nil ?_
  refine tn ?_
  refine gc_ret ?_
  refine ret_1 (.inl rfl) rfl rfl ?_
  exact rsX [b1] ⟨_, rfl, rfl⟩

set_option maxRecDepth 4000 in
set_option maxHeartbeats 2000000 in
theorem gepoch_spec (b : Nat) (g : GateM) :
    Spec Tryz.prog 51 [pt b] [] [(b, GateM.o 205 g)] (fun v L => v = g.e.v ∧ L = []) := by
  refine spec_of Tryz.func51 rfl Tryz.ntmps51 (by simp) fun w0 hb => ?_
  refine gc_seq ?_
  refine gc_region ?_
  refine s_new (e_alloc Tryz.zeroValue35 rfl) rfl rfl fun b1 => ?_
  refine go_nil ?_
  refine tn ?_
  refine gc_seq ?_
  refine gc_region ?_
  refine sq (q_mv rfl) rfl rfl ?_
  refine sq (q_nc rfl) rfl rfl ?_
  refine sq (q_fa rfl Tryz.runUnderlying205 rfl Tryz.sizeOf35) rfl rfl ?_
  refine sq (q_lda rfl Tryz.isAgg35 Tryz.sizeOf35 rfl) rfl rfl ?_
  refine s_st (e_st rfl rfl Tryz.sizeOf35 rfl rfl rfl rfl) rfl rfl ?_
  refine go_nil ?_
  refine tn ?_
  refine gc_ret ?_
  refine ret_c (.inl rfl) rfl rfl Tryz.isAgg35 Tryz.sizeOf35 rfl ?_
  exact rsE (by first | rfl | (simp_all; done) | (simp_all; rfl) | (simp_all; omega) | (simp_all; intros; omega) | (simp_all; (repeat' split) <;> first | rfl | (simp_all; done) | omega | (exfalso; omega)))

set_option maxRecDepth 4000 in
set_option maxHeartbeats 2000000 in
theorem gabove_spec (b : Nat) (g : GateM) (e : Epoch) :
    Spec Tryz.prog 115 [pt b, e.v] [] [(b, GateM.o 205 g)] (fun v L => v = .bool (g.above e) ∧ L = []) := by
  refine spec_of Tryz.func115 rfl Tryz.ntmps115 (by simp) fun w0 hb => ?_
  refine gc_seq ?_
  refine gc_region ?_
  refine s_new (e_box rfl rfl) rfl rfl fun b1 => ?_
  refine sq (q_as rfl) rfl rfl ?_
  refine go_nil ?_
  refine tn ?_
  refine gc_seq ?_
  refine gc_draw (ord := [(0, false), (1, false), (2, false), (3, true), (4, true), (5, false), (6, false), (7, false), (8, false), (9, false), (10, false), (11, false)]) [] mixed (by kernel_rfl) rfl (by kernel_rfl) (.cons_cons _ (.slnil)) ?_
  refine x_qe (q_lda rfl Tryz.isAgg35 Tryz.sizeOf35 rfl) rfl rfl rfl (by repeat (first | exact List.nil_sublist _ | exact List.Sublist.refl _ | exact List.sublist_append_right _ _ | apply List.Sublist.cons_cons | apply List.Sublist.cons | refine List.Sublist.trans ?_ (List.sublist_append_right _ _))) ?_
  refine x_callE (e_call (evalid_spec e) rfl en192) rfl rfl rfl (by repeat (first | exact List.nil_sublist _ | exact List.Sublist.refl _ | exact List.sublist_append_right _ _ | apply List.Sublist.cons_cons | apply List.Sublist.cons | refine List.Sublist.trans ?_ (List.sublist_append_right _ _))) ?_
  refine x_qe (q_mv rfl) rfl rfl rfl (by repeat (first | exact List.nil_sublist _ | exact List.Sublist.refl _ | exact List.sublist_append_right _ _ | apply List.Sublist.cons_cons | apply List.Sublist.cons | refine List.Sublist.trans ?_ (List.sublist_append_right _ _))) ?_
  refine xsp (fun h2 => ?_) (fun h2 => ?_)
  · refine gx_q (q_fa rfl Tryz.runUnderlying35 rfl Tryz.sizeOf2) rfl rfl rfl ?_
    refine gx_q (q_ld rfl Tryz.isAgg2 rfl) rfl rfl rfl ?_
    refine x_qe (q_mv rfl) rfl rfl rfl (by repeat (first | exact List.nil_sublist _ | exact List.Sublist.refl _ | exact List.sublist_append_right _ _ | apply List.Sublist.cons_cons | apply List.Sublist.cons | refine List.Sublist.trans ?_ (List.sublist_append_right _ _))) ?_
    refine x_qe (q_nc rfl) rfl rfl rfl (by repeat (first | exact List.nil_sublist _ | exact List.Sublist.refl _ | exact List.sublist_append_right _ _ | apply List.Sublist.cons_cons | apply List.Sublist.cons | refine List.Sublist.trans ?_ (List.sublist_append_right _ _))) ?_
    refine x_qe (q_fa rfl Tryz.runUnderlying205 rfl Tryz.sizeOf2) rfl rfl rfl (by repeat (first | exact List.nil_sublist _ | exact List.Sublist.refl _ | exact List.sublist_append_right _ _ | apply List.Sublist.cons_cons | apply List.Sublist.cons | refine List.Sublist.trans ?_ (List.sublist_append_right _ _))) ?_
    refine x_qe (q_ld rfl Tryz.isAgg2 rfl) rfl rfl rfl (by repeat (first | exact List.nil_sublist _ | exact List.Sublist.refl _ | exact List.sublist_append_right _ _ | apply List.Sublist.cons_cons | apply List.Sublist.cons | refine List.Sublist.trans ?_ (List.sublist_append_right _ _))) ?_
    refine x_qe (q_gtr rfl rfl) rfl rfl rfl (by repeat (first | exact List.nil_sublist _ | exact List.Sublist.refl _ | exact List.sublist_append_right _ _ | apply List.Sublist.cons_cons | apply List.Sublist.cons | refine List.Sublist.trans ?_ (List.sublist_append_right _ _))) ?_
    refine x_qe (q_pick rfl rfl) rfl rfl rfl (by repeat (first | exact List.nil_sublist _ | exact List.Sublist.refl _ | exact List.sublist_append_right _ _ | apply List.Sublist.cons_cons | apply List.Sublist.cons | refine List.Sublist.trans ?_ (List.sublist_append_right _ _))) ?_
    refine x_qe (q_as rfl) rfl rfl rfl (by repeat (first | exact List.nil_sublist _ | exact List.Sublist.refl _ | exact List.sublist_append_right _ _ | apply List.Sublist.cons_cons | apply List.Sublist.cons | refine List.Sublist.trans ?_ (List.sublist_append_right _ _))) ?_
    refine gx_nil ?_
    refine tn ?_
    refine gc_ret ?_
    refine ret_1 (.inl rfl) rfl rfl ?_
    exact rsE (by first | rfl | (simp_all [GateM.above]; done) | (simp_all [GateM.above]; rfl) | (simp_all [GateM.above]; omega) | (simp_all [GateM.above]; intros; omega) | (simp_all [GateM.above]; (repeat' split) <;> first | rfl | (simp_all; done) | omega | (exfalso; omega)) | (simp only [GateM.above]; (repeat' split) <;> first | (simp_all; done) | (simp_all; omega) | omega | (exfalso; simp_all; omega)) | (simp_all; (simp only [GateM.above]; (repeat' split) <;> first | (simp_all; done) | (simp_all; omega) | omega | (exfalso; simp_all; omega))))
  · refine gx_skip rfl rfl rfl ?_
    refine gx_skip rfl rfl rfl ?_
    refine gx_eskip rfl rfl rfl ?_
    refine gx_eskip rfl rfl rfl ?_
    refine gx_eskip rfl rfl rfl ?_
    refine gx_eskip rfl rfl rfl ?_
    refine gx_eskip rfl rfl rfl ?_
    refine x_qe (q_pick rfl rfl) rfl rfl rfl (by repeat (first | exact List.nil_sublist _ | exact List.Sublist.refl _ | exact List.sublist_append_right _ _ | apply List.Sublist.cons_cons | apply List.Sublist.cons | refine List.Sublist.trans ?_ (List.sublist_append_right _ _))) ?_
    refine x_qe (q_as rfl) rfl rfl rfl (by repeat (first | exact List.nil_sublist _ | exact List.Sublist.refl _ | exact List.sublist_append_right _ _ | apply List.Sublist.cons_cons | apply List.Sublist.cons | refine List.Sublist.trans ?_ (List.sublist_append_right _ _))) ?_
    refine gx_nil ?_
    refine tn ?_
    refine gc_ret ?_
    refine ret_1 (.inl rfl) rfl rfl ?_
    exact rsE (by first | rfl | (simp_all [GateM.above]; done) | (simp_all [GateM.above]; rfl) | (simp_all [GateM.above]; omega) | (simp_all [GateM.above]; intros; omega) | (simp_all [GateM.above]; (repeat' split) <;> first | rfl | (simp_all; done) | omega | (exfalso; omega)) | (simp only [GateM.above]; (repeat' split) <;> first | (simp_all; done) | (simp_all; omega) | omega | (exfalso; simp_all; omega)) | (simp_all; (simp only [GateM.above]; (repeat' split) <;> first | (simp_all; done) | (simp_all; omega) | omega | (exfalso; simp_all; omega))))

set_option maxRecDepth 4000 in
set_option maxHeartbeats 2000000 in
theorem gfound_spec (b : Nat) (g : GateM) (e : Epoch) :
    Spec Tryz.prog 148 [pt b, e.v] [(b, GateM.o 205 g)] [] (fun v L => v = .bool (g.found e).2 ∧ L = [(b, GateM.o 205 (g.found e).1)]) := by
  refine spec_of Tryz.func148 rfl Tryz.ntmps148 (by simp) fun w0 hb => ?_
  refine gc_seq ?_
  refine gc_region ?_
  refine s_new (e_box rfl rfl) rfl rfl fun b1 => ?_
  refine sq (q_as rfl) rfl rfl ?_
  refine go_nil ?_
  refine tn ?_
  refine gc_seq ?_
  refine gc_seq ?_
  refine gc_draw (ord := [(0, true), (1, false), (2, false), (3, false), (4, false), (5, true), (6, true), (7, true), (8, true), (9, false), (10, false), (11, false), (12, false)]) [] mixed (by kernel_rfl) rfl (by kernel_rfl) (.cons_cons _ (.cons_cons _ (.slnil))) ?_
  refine gx_q (q_mv rfl) rfl rfl rfl ?_
  refine x_qe (q_lda rfl Tryz.isAgg35 Tryz.sizeOf35 rfl) rfl rfl rfl (by repeat (first | exact List.nil_sublist _ | exact List.Sublist.refl _ | exact List.sublist_append_right _ _ | apply List.Sublist.cons_cons | apply List.Sublist.cons | refine List.Sublist.trans ?_ (List.sublist_append_right _ _))) ?_
  refine x_callE (e_call (gabove_spec b g e) rfl en115) rfl rfl rfl (by repeat (first | exact List.nil_sublist _ | exact List.Sublist.refl _ | exact List.sublist_append_right _ _ | apply List.Sublist.cons_cons | apply List.Sublist.cons | refine List.Sublist.trans ?_ (List.sublist_append_right _ _))) ?_
  refine x_qe (q_not rfl) rfl rfl rfl (by repeat (first | exact List.nil_sublist _ | exact List.Sublist.refl _ | exact List.sublist_append_right _ _ | apply List.Sublist.cons_cons | apply List.Sublist.cons | refine List.Sublist.trans ?_ (List.sublist_append_right _ _))) ?_
  refine x_qe (q_mv rfl) rfl rfl rfl (by repeat (first | exact List.nil_sublist _ | exact List.Sublist.refl _ | exact List.sublist_append_right _ _ | apply List.Sublist.cons_cons | apply List.Sublist.cons | refine List.Sublist.trans ?_ (List.sublist_append_right _ _))) ?_
  refine xsp (fun h2 => ?_) (fun h2 => ?_)
  · refine gx_skip rfl rfl rfl ?_
    refine gx_skip rfl rfl rfl ?_
    refine gx_skip rfl rfl rfl ?_
    refine gx_skip rfl rfl rfl ?_
    refine gx_eskip rfl rfl rfl ?_
    refine gx_eskip rfl rfl rfl ?_
    refine gx_eskip rfl rfl rfl ?_
    refine x_qe (q_pick rfl rfl) rfl rfl rfl (by repeat (first | exact List.nil_sublist _ | exact List.Sublist.refl _ | exact List.sublist_append_right _ _ | apply List.Sublist.cons_cons | apply List.Sublist.cons | refine List.Sublist.trans ?_ (List.sublist_append_right _ _))) ?_
    refine gx_nil ?_
    refine tn ?_
    refine gc_true rfl ?_
    refine gc_seq ?_
    refine gc_region ?_
    refine sq (q_as rfl) rfl rfl ?_
    refine go_nil ?_
    refine tn ?_
    refine gc_ret ?_
    refine tr ?_
    refine ret_1 (.inl rfl) rfl rfl ?_
    refine rsX [b] ⟨?_, ?_⟩ <;> (first | rfl | (simp_all [GateM.found]; done) | (simp_all [GateM.found]; rfl) | (simp_all [GateM.found]; omega) | (simp only [GateM.found]; (repeat' split) <;> first | (simp_all; done) | (simp_all; omega) | omega | (exfalso; simp_all; omega)) | (simp_all; (simp only [GateM.found]; (repeat' split) <;> first | (simp_all; done) | (simp_all; omega) | omega | (exfalso; simp_all; omega))))
  · refine gx_q (q_mv rfl) rfl rfl rfl ?_
    refine gx_q (q_nc rfl) rfl rfl rfl ?_
    refine gx_q (q_fa rfl Tryz.runUnderlying205 rfl Tryz.sizeOf35) rfl rfl rfl ?_
    refine gx_q (q_lda rfl Tryz.isAgg35 Tryz.sizeOf35 rfl) rfl rfl rfl ?_
    refine x_qe (q_lda rfl Tryz.isAgg35 Tryz.sizeOf35 rfl) rfl rfl rfl (by repeat (first | exact List.nil_sublist _ | exact List.Sublist.refl _ | exact List.sublist_append_right _ _ | apply List.Sublist.cons_cons | apply List.Sublist.cons | refine List.Sublist.trans ?_ (List.sublist_append_right _ _))) ?_
    refine x_callE (e_call (eless_spec g.e e) rfl en116) rfl rfl rfl (by repeat (first | exact List.nil_sublist _ | exact List.Sublist.refl _ | exact List.sublist_append_right _ _ | apply List.Sublist.cons_cons | apply List.Sublist.cons | refine List.Sublist.trans ?_ (List.sublist_append_right _ _))) ?_
    refine x_qe (q_not rfl) rfl rfl rfl (by repeat (first | exact List.nil_sublist _ | exact List.Sublist.refl _ | exact List.sublist_append_right _ _ | apply List.Sublist.cons_cons | apply List.Sublist.cons | refine List.Sublist.trans ?_ (List.sublist_append_right _ _))) ?_
    refine x_qe (q_pick rfl rfl) rfl rfl rfl (by repeat (first | exact List.nil_sublist _ | exact List.Sublist.refl _ | exact List.sublist_append_right _ _ | apply List.Sublist.cons_cons | apply List.Sublist.cons | refine List.Sublist.trans ?_ (List.sublist_append_right _ _))) ?_
    refine gx_nil ?_
    refine tn ?_
    refine gc_if rfl (fun h3 => ?_) (fun h3 => ?_)
    · refine gc_seq ?_
      refine gc_region ?_
      refine sq (q_as rfl) rfl rfl ?_
      refine go_nil ?_
      refine tn ?_
      refine gc_ret ?_
      refine tr ?_
      refine ret_1 (.inl rfl) rfl rfl ?_
      refine rsX [b] ⟨?_, ?_⟩ <;> (first | rfl | (simp_all [GateM.found]; done) | (simp_all [GateM.found]; rfl) | (simp_all [GateM.found]; omega) | (simp only [GateM.found]; (repeat' split) <;> first | (simp_all; done) | (simp_all; omega) | omega | (exfalso; simp_all; omega)) | (simp_all; (simp only [GateM.found]; (repeat' split) <;> first | (simp_all; done) | (simp_all; omega) | omega | (exfalso; simp_all; omega))))
    · refine gc_skip ?_
      refine tn ?_
      refine gc_seq ?_
      refine gc_region ?_
      refine sq (q_mv rfl) rfl rfl ?_
      refine sq (q_mv rfl) rfl rfl ?_
      refine sq (q_lda rfl Tryz.isAgg35 Tryz.sizeOf35 rfl) rfl rfl ?_
      refine sq (q_nc rfl) rfl rfl ?_
      refine sq (q_fa rfl Tryz.runUnderlying205 rfl Tryz.sizeOf35) rfl rfl ?_
      refine s_st (e_st rfl rfl Tryz.sizeOf35 rfl rfl rfl rfl) rfl rfl ?_
      refine sq (q_nc rfl) rfl rfl ?_
      refine sq (q_fa rfl Tryz.runUnderlying205 rfl Tryz.sizeOf2) rfl rfl ?_
      refine s_st (e_st rfl rfl Tryz.sizeOf2 rfl rfl rfl rfl) rfl rfl ?_
      refine go_nil ?_
      refine tn ?_
      refine gc_seq ?_
      refine gc_region ?_
      refine sq (q_as rfl) rfl rfl ?_
      refine go_nil ?_
      refine tn ?_
      refine gc_ret ?_
      refine ret_1 (.inl rfl) rfl rfl ?_
      refine rsX [b] ⟨?_, ?_⟩ <;> (first | rfl | (simp_all [GateM.found]; done) | (simp_all [GateM.found]; rfl) | (simp_all [GateM.found]; omega) | (simp only [GateM.found]; (repeat' split) <;> first | (simp_all; done) | (simp_all; omega) | omega | (exfalso; simp_all; omega)) | (simp_all; (simp only [GateM.found]; (repeat' split) <;> first | (simp_all; done) | (simp_all; omega) | omega | (exfalso; simp_all; omega))))

set_option maxRecDepth 4000 in
set_option maxHeartbeats 2000000 in
theorem srecord_spec (s b : Nat) (st : StoreM) :
    Spec Tryz.prog 52 [pt s] [] [(s, StoreM.o 207 b st)] (fun v L => v = (Rec.mk st.count st.life).v ∧ L = []) := by
  refine spec_of Tryz.func52 rfl Tryz.ntmps52 (by simp) fun w0 hb => ?_
  refine gc_seq ?_
  refine gc_region ?_
  refine s_new (e_alloc Tryz.zeroValue134 rfl) rfl rfl fun b1 => ?_
  refine go_nil ?_
  refine tn ?_
  refine gc_seq ?_
  refine gc_region ?_
  refine sq (q_mv rfl) rfl rfl ?_
  refine sq (q_nc rfl) rfl rfl ?_
  refine sq (q_fa rfl Tryz.runUnderlying207 rfl Tryz.sizeOf134) rfl rfl ?_
  refine sq (q_lda rfl Tryz.isAgg134 Tryz.sizeOf134 rfl) rfl rfl ?_
  refine s_st (e_st rfl rfl Tryz.sizeOf134 rfl rfl rfl rfl) rfl rfl ?_
  refine go_nil ?_
  refine tn ?_
  refine gc_ret ?_
  refine ret_c (.inl rfl) rfl rfl Tryz.isAgg134 Tryz.sizeOf134 rfl ?_
  exact rsE (by first | rfl | (simp_all; done) | (simp_all; rfl) | (simp_all; omega) | (simp_all; intros; omega) | (simp_all; (repeat' split) <;> first | rfl | (simp_all; done) | omega | (exfalso; omega)))

set_option maxRecDepth 4000 in
set_option maxHeartbeats 2000000 in
theorem seen_spec (b : Nat) (x : Tab) :
    Spec Tryz.prog 231 [pt b] [] [(b, Tab.o 163 x)] (fun v L => v = i6 x.seen ∧ L = []) := by
  refine spec_of Tryz.func231 rfl Tryz.ntmps231 (by simp) fun w0 hb => ?_
  refine gc_seq ?_
  refine gc_region ?_
  refine sq (q_as rfl) rfl rfl ?_
  refine go_nil ?_
  refine tn ?_
  refine gc_seq ?_
  refine gc_region ?_
  refine sq (q_mv rfl) rfl rfl ?_
  refine sq (q_nc rfl) rfl rfl ?_
  refine sq (q_fa rfl Tryz.runUnderlying163 rfl Tryz.sizeOf2) rfl rfl ?_
  refine sq (q_ld rfl Tryz.isAgg2 rfl) rfl rfl ?_
  refine sq (q_as rfl) rfl rfl ?_
  refine go_nil ?_
  refine tn ?_
  refine gc_ret ?_
  refine ret_1 (.inl rfl) rfl rfl ?_
  exact rsE (by first | rfl | (simp_all; done) | (simp_all; rfl) | (simp_all; omega) | (simp_all; intros; omega) | (simp_all; (repeat' split) <;> first | rfl | (simp_all; done) | omega | (exfalso; omega)))

set_option maxRecDepth 4000 in
set_option maxHeartbeats 2000000 in
theorem hear_spec (b : Nat) (x : Tab) (n life seen : Int) (o : Bool) :
    Spec Tryz.prog 49 [pt b, i6 n, i6 life, i6 seen, .bool o] [(b, Tab.o 163 x)] [] (fun v L => v = .bool (x.hear n life seen o).2 ∧ L = [(b, Tab.o 163 (x.hear n life seen o).1)]) := by
  refine spec_of Tryz.func49 rfl Tryz.ntmps49 (by simp) fun w0 hb => ?_
  refine gc_seq ?_
  refine gc_region ?_
  refine sq (q_as rfl) rfl rfl ?_
  refine go_nil ?_
  refine tn ?_
  refine gc_seq ?_
  refine gc_seq ?_
  refine gc_region ?_
  refine sq (q_mv rfl) rfl rfl ?_
  refine s_callE (e_call (lcar_spec n) rfl en113) rfl rfl ?_
  refine sq (q_not rfl) rfl rfl ?_
  refine sq (q_mv rfl) rfl rfl ?_
  refine bsp (fun h1 => ?_) (fun h1 => ?_)
  · refine sskip rfl rfl ?_
    refine sskip rfl rfl ?_
    refine sq (q_pick rfl rfl) rfl rfl ?_
    refine sq (q_mv rfl) rfl rfl ?_
    refine sskip rfl rfl ?_
    refine sskip rfl rfl ?_
    refine sq (q_pick rfl rfl) rfl rfl ?_
    refine sq (q_mv rfl) rfl rfl ?_
    refine sskip rfl rfl ?_
    refine sskip rfl rfl ?_
    refine sskip rfl rfl ?_
    refine sskip rfl rfl ?_
    refine sskip rfl rfl ?_
    refine sskip rfl rfl ?_
    refine sskip rfl rfl ?_
    refine sskip rfl rfl ?_
    refine sskip rfl rfl ?_
    refine sskip rfl rfl ?_
    refine sskip rfl rfl ?_
    refine sskip rfl rfl ?_
    refine sskip rfl rfl ?_
    refine sskip rfl rfl ?_
    refine sskip rfl rfl ?_
    refine sskip rfl rfl ?_
    refine sskip rfl rfl ?_
    refine sskip rfl rfl ?_
    refine sq (q_pick rfl rfl) rfl rfl ?_
    refine go_nil ?_
    refine tn ?_
    refine gc_true rfl ?_
    refine gc_seq ?_
    refine gc_region ?_
    refine sq (q_as rfl) rfl rfl ?_
    refine go_nil ?_
    refine tn ?_
    refine gc_ret ?_
    refine tr ?_
    refine ret_1 (.inl rfl) rfl rfl ?_
    refine rsX [b] ⟨?_, ?_⟩ <;> (unfold Tab.hear; split <;> first | rfl | (exfalso; simp_all [lcar]; done) | (exfalso; simp_all [lcar]; omega))
  · refine sq (q_mv rfl) rfl rfl ?_
    refine sq (q_lss rfl rfl) rfl rfl ?_
    refine sq (q_pick rfl rfl) rfl rfl ?_
    refine sq (q_mv rfl) rfl rfl ?_
    refine bsp (fun h2 => ?_) (fun h2 => ?_)
    · refine sskip rfl rfl ?_
      refine sskip rfl rfl ?_
      refine sq (q_pick rfl rfl) rfl rfl ?_
      refine sq (q_mv rfl) rfl rfl ?_
      refine sskip rfl rfl ?_
      refine sskip rfl rfl ?_
      refine sskip rfl rfl ?_
      refine sskip rfl rfl ?_
      refine sskip rfl rfl ?_
      refine sskip rfl rfl ?_
      refine sskip rfl rfl ?_
      refine sskip rfl rfl ?_
      refine sskip rfl rfl ?_
      refine sskip rfl rfl ?_
      refine sskip rfl rfl ?_
      refine sskip rfl rfl ?_
      refine sskip rfl rfl ?_
      refine sskip rfl rfl ?_
      refine sskip rfl rfl ?_
      refine sskip rfl rfl ?_
      refine sskip rfl rfl ?_
      refine sskip rfl rfl ?_
      refine sq (q_pick rfl rfl) rfl rfl ?_
      refine go_nil ?_
      refine tn ?_
      refine gc_true rfl ?_
      refine gc_seq ?_
      refine gc_region ?_
      refine sq (q_as rfl) rfl rfl ?_
      refine go_nil ?_
      refine tn ?_
      refine gc_ret ?_
      refine tr ?_
      refine ret_1 (.inl rfl) rfl rfl ?_
      refine rsX [b] ⟨?_, ?_⟩ <;> (unfold Tab.hear; split <;> first | rfl | (exfalso; simp_all [lcar]; done) | (exfalso; simp_all [lcar]; omega))
    · refine sq (q_mv rfl) rfl rfl ?_
      refine sq (q_lss rfl rfl) rfl rfl ?_
      refine sq (q_pick rfl rfl) rfl rfl ?_
      refine sq (q_mv rfl) rfl rfl ?_
      refine bsp (fun h3 => ?_) (fun h3 => ?_)
      · refine sskip rfl rfl ?_
        refine sskip rfl rfl ?_
        refine sskip rfl rfl ?_
        refine sskip rfl rfl ?_
        refine sskip rfl rfl ?_
        refine sskip rfl rfl ?_
        refine sskip rfl rfl ?_
        refine sskip rfl rfl ?_
        refine sskip rfl rfl ?_
        refine sskip rfl rfl ?_
        refine sskip rfl rfl ?_
        refine sskip rfl rfl ?_
        refine sskip rfl rfl ?_
        refine sskip rfl rfl ?_
        refine sskip rfl rfl ?_
        refine sskip rfl rfl ?_
        refine sskip rfl rfl ?_
        refine sskip rfl rfl ?_
        refine sq (q_pick rfl rfl) rfl rfl ?_
        refine go_nil ?_
        refine tn ?_
        refine gc_true rfl ?_
        refine gc_seq ?_
        refine gc_region ?_
        refine sq (q_as rfl) rfl rfl ?_
        refine go_nil ?_
        refine tn ?_
        refine gc_ret ?_
        refine tr ?_
        refine ret_1 (.inl rfl) rfl rfl ?_
        refine rsX [b] ⟨?_, ?_⟩ <;> (unfold Tab.hear; split <;> first | rfl | (exfalso; simp_all [lcar]; done) | (exfalso; simp_all [lcar]; omega))
      · refine sq (q_mv rfl) rfl rfl ?_
        refine sq (q_mv rfl) rfl rfl ?_
        refine sq (q_nc rfl) rfl rfl ?_
        refine sq (q_fa rfl Tryz.runUnderlying163 rfl Tryz.sizeOf161) rfl rfl ?_
        refine sq (q_iaA rfl rfl Tryz.runUnderlying161 Tryz.sizeOf160 (by first | omega | (simp_all; done) | (simp_all; omega))) rfl rfl ?_
        refine sq (q_fa rfl Tryz.runUnderlying160 rfl Tryz.sizeOf4) rfl rfl ?_
        refine sq (q_ld rfl Tryz.isAgg4 (tab_0 x.t x.seen n.toNat (by first | omega | (simp_all; done) | (simp_all; omega)))) rfl rfl ?_
        refine sq (q_mv rfl) rfl rfl ?_
        refine bsp (fun h4 => ?_) (fun h4 => ?_)
        · refine sq (q_mv rfl) rfl rfl ?_
          refine sq (q_mv rfl) rfl rfl ?_
          refine sq (q_nc rfl) rfl rfl ?_
          refine sq (q_fa rfl Tryz.runUnderlying163 rfl Tryz.sizeOf161) rfl rfl ?_
          refine sq (q_iaA rfl rfl Tryz.runUnderlying161 Tryz.sizeOf160 (by first | omega | (simp_all; done) | (simp_all; omega))) rfl rfl ?_
          refine sq (q_fa rfl Tryz.runUnderlying160 rfl Tryz.sizeOf2) rfl rfl ?_
          refine sq (q_ld rfl Tryz.isAgg2 (tab_3 x.t x.seen n.toNat (by first | omega | (simp_all; done) | (simp_all; omega)))) rfl rfl ?_
          refine sq (q_mv rfl) rfl rfl ?_
          refine sq (q_gtr rfl rfl) rfl rfl ?_
          refine sq (q_pick rfl rfl) rfl rfl ?_
          refine sq (q_pick rfl rfl) rfl rfl ?_
          refine go_nil ?_
          refine tn ?_
          refine gc_if rfl (fun h5 => ?_) (fun h5 => ?_)
          · refine gc_seq ?_
            refine gc_region ?_
            refine sq (q_as rfl) rfl rfl ?_
            refine go_nil ?_
            refine tn ?_
            refine gc_ret ?_
            refine tr ?_
            refine ret_1 (.inl rfl) rfl rfl ?_
            refine rsX [b] ⟨?_, ?_⟩ <;> (unfold Tab.hear; split <;> first | rfl | (exfalso; simp_all [lcar]; done) | (exfalso; simp_all [lcar]; omega))
          · refine gc_skip ?_
            refine tn ?_
            refine gc_seq ?_
            refine gc_region ?_
            refine sq (q_mv rfl) rfl rfl ?_
            refine sq (q_mv rfl) rfl rfl ?_
            refine sq (q_mv rfl) rfl rfl ?_
            refine sq (q_mv rfl) rfl rfl ?_
            refine sq (q_bld rfl Tryz.runUnderlying160 Tryz.zeroValue160 rfl pl160 rfl) rfl rfl ?_
            refine sq (q_nc rfl) rfl rfl ?_
            refine sq (q_fa rfl Tryz.runUnderlying163 rfl Tryz.sizeOf161) rfl rfl ?_
            refine sq (q_iaA rfl rfl Tryz.runUnderlying161 Tryz.sizeOf160 (by first | omega | (simp_all; done) | (simp_all; omega))) rfl rfl ?_
            refine s_st (e_st (l := tabC x.t x.seen) rfl rfl Tryz.sizeOf160 rfl rfl rfl (tab_set x.t x.seen ⟨true, true, o, life, 0⟩ n.toNat (by first | omega | (simp_all; done) | (simp_all; omega)))) rfl rfl ?_
            refine go_nil ?_
            refine tn ?_
            refine gc_seq ?_
            refine gc_region ?_
            refine sq (q_mv rfl) rfl rfl ?_
            refine sq (q_mv rfl) rfl rfl ?_
            refine sq (q_nc rfl) rfl rfl ?_
            refine sq (q_fa rfl Tryz.runUnderlying163 rfl Tryz.sizeOf2) rfl rfl ?_
            refine sq (q_ld rfl Tryz.isAgg2 rfl) rfl rfl ?_
            refine sq (q_mv rfl) rfl rfl ?_
            refine sq (q_max2 rfl rfl) rfl rfl ?_
            refine sq (q_nc rfl) rfl rfl ?_
            refine sq (q_fa rfl Tryz.runUnderlying163 rfl Tryz.sizeOf2) rfl rfl ?_
            refine s_st (e_st rfl rfl Tryz.sizeOf2 rfl rfl rfl rfl) rfl rfl ?_
            refine go_nil ?_
            refine tn ?_
            refine gc_seq ?_
            refine gc_region ?_
            refine sq (q_as rfl) rfl rfl ?_
            refine go_nil ?_
            refine tn ?_
            refine gc_ret ?_
            refine ret_1 (.inl rfl) rfl rfl ?_
            refine rsX [b] ⟨?_, ?_⟩ <;> (unfold Tab.hear; split <;> first | rfl | (exfalso; simp_all [lcar]; done) | (exfalso; simp_all [lcar]; omega))
        · refine sskip rfl rfl ?_
          refine sskip rfl rfl ?_
          refine sskip rfl rfl ?_
          refine sskip rfl rfl ?_
          refine sskip rfl rfl ?_
          refine sskip rfl rfl ?_
          refine sskip rfl rfl ?_
          refine sskip rfl rfl ?_
          refine sskip rfl rfl ?_
          refine sq (q_pick rfl rfl) rfl rfl ?_
          refine sq (q_pick rfl rfl) rfl rfl ?_
          refine go_nil ?_
          refine tn ?_
          refine gc_false rfl ?_
          refine gc_skip ?_
          refine tn ?_
          refine gc_seq ?_
          refine gc_region ?_
          refine sq (q_mv rfl) rfl rfl ?_
          refine sq (q_mv rfl) rfl rfl ?_
          refine sq (q_mv rfl) rfl rfl ?_
          refine sq (q_mv rfl) rfl rfl ?_
          refine sq (q_bld rfl Tryz.runUnderlying160 Tryz.zeroValue160 rfl pl160 rfl) rfl rfl ?_
          refine sq (q_nc rfl) rfl rfl ?_
          refine sq (q_fa rfl Tryz.runUnderlying163 rfl Tryz.sizeOf161) rfl rfl ?_
          refine sq (q_iaA rfl rfl Tryz.runUnderlying161 Tryz.sizeOf160 (by first | omega | (simp_all; done) | (simp_all; omega))) rfl rfl ?_
          refine s_st (e_st (l := tabC x.t x.seen) rfl rfl Tryz.sizeOf160 rfl rfl rfl (tab_set x.t x.seen ⟨true, true, o, life, 0⟩ n.toNat (by first | omega | (simp_all; done) | (simp_all; omega)))) rfl rfl ?_
          refine go_nil ?_
          refine tn ?_
          refine gc_seq ?_
          refine gc_region ?_
          refine sq (q_mv rfl) rfl rfl ?_
          refine sq (q_mv rfl) rfl rfl ?_
          refine sq (q_nc rfl) rfl rfl ?_
          refine sq (q_fa rfl Tryz.runUnderlying163 rfl Tryz.sizeOf2) rfl rfl ?_
          refine sq (q_ld rfl Tryz.isAgg2 rfl) rfl rfl ?_
          refine sq (q_mv rfl) rfl rfl ?_
          refine sq (q_max2 rfl rfl) rfl rfl ?_
          refine sq (q_nc rfl) rfl rfl ?_
          refine sq (q_fa rfl Tryz.runUnderlying163 rfl Tryz.sizeOf2) rfl rfl ?_
          refine s_st (e_st rfl rfl Tryz.sizeOf2 rfl rfl rfl rfl) rfl rfl ?_
          refine go_nil ?_
          refine tn ?_
          refine gc_seq ?_
          refine gc_region ?_
          refine sq (q_as rfl) rfl rfl ?_
          refine go_nil ?_
          refine tn ?_
          refine gc_ret ?_
          refine ret_1 (.inl rfl) rfl rfl ?_
          refine rsX [b] ⟨?_, ?_⟩ <;> (unfold Tab.hear; split <;> first | rfl | (exfalso; simp_all [lcar]; done) | (exfalso; simp_all [lcar]; omega))

set_option maxRecDepth 4000 in
set_option maxHeartbeats 2000000 in
theorem ttick_spec (b : Nat) (x : Tab) :
    Spec Tryz.prog 62 [pt b] [(b, Tab.o 163 x)] [] (fun v L => v = .tuple #[] ∧ L = [(b, Tab.o 163 x.tick)]) := by
  refine spec_of Tryz.func62 rfl Tryz.ntmps62 (by simp) fun w0 hb => ?_
  refine gc_seq ?_
  refine gc_region ?_
  refine sq (q_mv rfl) rfl rfl ?_
  refine go_nil ?_
  refine tn ?_
  refine gc_block ?_
  refine gc_loop (A := Int × (Nat → One)) (fun y => 0 ≤ y.1 ∧ y.1 ≤ 16 ∧ y.2 = tickTo x.t y.1.toNat) (fun y => [(0, pt b), (4, i6 y.1)]) (fun y => [(b, .cells (tabC y.2 x.seen).toArray 163 (0, 0))]) (fun y => (16 - y.1).toNat) (0, x.t) ⟨by omega, by omega, tick_0 _⟩ ⟨rfl, rfl, trivial⟩ hpS (fun y hI => ?_)
  refine gc_seq ?_
  refine gc_region ?_
  refine sq (q_lss rfl rfl) rfl rfl ?_
  refine go_nil ?_
  refine tn ?_
  refine gc_seq ?_
  refine gc_if rfl (fun h1 => ?_) (fun h1 => ?_)
  · refine gc_skip ?_
    refine tn ?_
    refine gc_seq ?_
    refine gc_block ?_
    refine gc_seq ?_
    refine gc_region ?_
    refine sq (q_mv rfl) rfl rfl ?_
    refine sq (q_as rfl) rfl rfl ?_
    refine go_nil ?_
    refine tn ?_
    refine gc_seq ?_
    refine gc_region ?_
    refine sq (q_mv rfl) rfl rfl ?_
    refine sq (q_mv rfl) rfl rfl ?_
    refine sq (q_nc rfl) rfl rfl ?_
    refine sq (q_fa rfl Tryz.runUnderlying163 rfl Tryz.sizeOf161) rfl rfl ?_
    refine sq (q_iaA rfl rfl Tryz.runUnderlying161 Tryz.sizeOf160 (by obtain ⟨hI1, hI2, _⟩ := hI; simp only [decide_eq_true_eq] at *; omega)) rfl rfl ?_
    refine sq (q_as rfl) rfl rfl ?_
    refine go_nil ?_
    refine tn ?_
    refine gc_seq ?_
    refine gc_seq ?_
    refine gc_region ?_
    refine sq (q_mv rfl) rfl rfl ?_
    refine sq (q_nc rfl) rfl rfl ?_
    refine sq (q_fa rfl Tryz.runUnderlying160 rfl Tryz.sizeOf4) rfl rfl ?_
    refine sq (q_ld rfl Tryz.isAgg4 (tab_1 y.2 x.seen y.1.toNat (by obtain ⟨hI1, hI2, _⟩ := hI; simp only [decide_eq_true_eq] at *; omega))) rfl rfl ?_
    refine sq (q_not rfl) rfl rfl ?_
    refine go_nil ?_
    refine tn ?_
    refine gc_if rfl (fun h2 => ?_) (fun h2 => ?_)
    · refine gc_exit ?_
      refine tx (bx (tn ?_))
      refine gc_region ?_
      refine sq (q_addi rfl rfl (by obtain ⟨hI1, hI2, _⟩ := hI; simp only [decide_eq_true_eq] at *; omega)) rfl rfl ?_
      refine sq (q_mv rfl) rfl rfl ?_
      refine go_nil ?_
      first | exact aq_round (y.1 + 1, y.2) ⟨by omega, by simp_all; omega, by rw [show (y.1 + 1).toNat = y.1.toNat + 1 by omega]; exact tick_no hI.2.2 (by simp_all)⟩ (by simp_all; omega) ⟨rfl, rfl, trivial⟩ hpS | exact aq_round (y.1 + 1, hrdT y.2 y.1.toNat) ⟨by omega, by simp_all; omega, by rw [show (y.1 + 1).toNat = y.1.toNat + 1 by omega]; exact tick_yes hI.2.2 (by simp_all)⟩ (by simp_all; omega) ⟨rfl, rfl, trivial⟩ hpS
    · refine gc_skip ?_
      refine tn ?_
      refine gc_seq ?_
      refine gc_region ?_
      refine sq (q_mv rfl) rfl rfl ?_
      refine sq (q_nc rfl) rfl rfl ?_
      refine sq (q_fa rfl Tryz.runUnderlying160 rfl Tryz.sizeOf3) rfl rfl ?_
      refine sq (q_ld rfl Tryz.isAgg3 (tab_4 y.2 x.seen y.1.toNat (by obtain ⟨hI1, hI2, _⟩ := hI; simp only [decide_eq_true_eq] at *; omega))) rfl rfl ?_
      refine sq (q_addw rfl rfl) rfl rfl ?_
      refine sq (q_nc rfl) rfl rfl ?_
      refine sq (q_fa rfl Tryz.runUnderlying160 rfl Tryz.sizeOf3) rfl rfl ?_
      refine s_st (e_st (l := tabC y.2 x.seen) rfl rfl Tryz.sizeOf3 rfl rfl rfl (tab_set4 y.2 x.seen (w64 ((y.2 y.1.toNat).age + 1)) y.1.toNat (by obtain ⟨hI1, hI2, _⟩ := hI; simp only [decide_eq_true_eq] at *; omega))) rfl rfl ?_
      refine go_nil ?_
      refine tn ?_
      refine gc_region ?_
      refine sq (q_mv rfl) rfl rfl ?_
      refine sq (q_mv rfl) rfl rfl ?_
      refine sq (q_nc rfl) rfl rfl ?_
      refine sq (q_fa rfl Tryz.runUnderlying160 rfl Tryz.sizeOf3) rfl rfl ?_
      refine sq (q_ld (l := tabC (ageT y.2 y.1.toNat) x.seen) rfl Tryz.isAgg3 (tab_4 (ageT y.2 y.1.toNat) x.seen y.1.toNat (by obtain ⟨hI1, hI2, _⟩ := hI; simp only [decide_eq_true_eq] at *; omega))) rfl rfl ?_
      refine sq (q_leq rfl rfl) rfl rfl ?_
      refine sq (q_nc rfl) rfl rfl ?_
      refine sq (q_fa rfl Tryz.runUnderlying160 rfl Tryz.sizeOf4) rfl rfl ?_
      refine s_st (e_st (l := tabC (ageT y.2 y.1.toNat) x.seen) rfl rfl Tryz.sizeOf4 rfl rfl rfl (tab_set1 (ageT y.2 y.1.toNat) x.seen _ y.1.toNat (by obtain ⟨hI1, hI2, _⟩ := hI; simp only [decide_eq_true_eq] at *; omega))) rfl rfl ?_
      refine go_nil ?_
      refine bn (tn ?_)
      refine gc_region ?_
      refine sq (q_addi rfl rfl (by obtain ⟨hI1, hI2, _⟩ := hI; simp only [decide_eq_true_eq] at *; omega)) rfl rfl ?_
      refine sq (q_mv rfl) rfl rfl ?_
      refine go_nil ?_
      first | exact aq_round (y.1 + 1, y.2) ⟨by omega, by simp_all; omega, by rw [show (y.1 + 1).toNat = y.1.toNat + 1 by omega]; exact tick_no hI.2.2 (by simp_all)⟩ (by simp_all; omega) ⟨rfl, rfl, trivial⟩ hpS | exact aq_round (y.1 + 1, hrdT y.2 y.1.toNat) ⟨by omega, by simp_all; omega, by rw [show (y.1 + 1).toNat = y.1.toNat + 1 by omega]; exact tick_yes hI.2.2 (by simp_all)⟩ (by simp_all; omega) ⟨rfl, rfl, trivial⟩ hpS
  · refine gc_exit ?_
    refine tx (tx (bx ?_))
    refine ret_0 (.inr rfl) rfl ?_
    refine rsX [b] ⟨rfl, ?_⟩
    have e : y.1.toNat = 16 := (by simp_all; omega)
    have e2 := hI.2.2
    rw [e] at e2
    simp only [Tab.tick, Tab.o, e2]

set_option maxRecDepth 4000 in
set_option maxHeartbeats 2000000 in
theorem alive_spec (b : Nat) (x : Tab) :
    Spec Tryz.prog 59 [pt b] [] [(b, Tab.o 163 x)] (fun v L => ∃ s : Sli, SlI s x.alive ∧ v = s.v ∧ L = s.L 3) := by
  refine spec_of Tryz.func59 rfl Tryz.ntmps59 (by simp) fun w0 hb => ?_
  refine gc_seq ?_
  refine gc_region ?_
  refine sq (q_as rfl) rfl rfl ?_
  refine go_nil ?_
  refine tn ?_
  refine gc_seq ?_
  refine gc_region ?_
  refine sq (q_as rfl) rfl rfl ?_
  refine go_nil ?_
  refine tn ?_
  refine gc_seq ?_
  refine gc_seq ?_
  refine gc_region ?_
  refine sq (q_mv rfl) rfl rfl ?_
  refine sq (q_nc rfl) rfl rfl ?_
  refine sq (q_fa rfl Tryz.runUnderlying163 rfl Tryz.sizeOf161) rfl rfl ?_
  refine sq (q_lda rfl Tryz.isAgg161 Tryz.sizeOf161 rfl) rfl rfl ?_
  refine sq (q_mv rfl) rfl rfl ?_
  refine go_nil ?_
  refine tn ?_
  refine gc_block ?_
  refine gc_loop (A := Int × Sli) (fun y => 0 ≤ y.1 ∧ y.1 ≤ 16 ∧ SlI y.2 (aliveTo x.t y.1.toNat)) (fun y => [(3, y.2.v), (9, .agg (tab80 x.t).toArray), (10, i6 y.1)]) (fun y => y.2.L 3) (fun y => (16 - y.1).toNat) (0, Sli.none) ⟨by omega, by omega, ⟨Sli.none_ok, rfl, rfl⟩⟩ ⟨rfl, rfl, rfl, trivial⟩ hpS (fun y hI => ?_)
  refine gc_seq ?_
  refine gc_region ?_
  refine sq (q_lss rfl rfl) rfl rfl ?_
  refine go_nil ?_
  refine tn ?_
  refine gc_seq ?_
  refine gc_if rfl (fun h1 => ?_) (fun h1 => ?_)
  · refine gc_skip ?_
    refine tn ?_
    refine gc_seq ?_
    refine gc_block ?_
    refine gc_seq ?_
    refine gc_region ?_
    refine sq (q_mv rfl) rfl rfl ?_
    refine sq (q_ixa rfl rfl Tryz.runUnderlying161 Tryz.isAgg160 Tryz.sizeOf160 (by obtain ⟨hI1, hI2, _⟩ := hI; simp only [decide_eq_true_eq] at *; omega) (tab80_slc x.t y.1.toNat (by obtain ⟨hI1, hI2, _⟩ := hI; simp only [decide_eq_true_eq] at *; omega))) rfl rfl ?_
    refine s_new (e_alloc Tryz.zeroValue160 rfl) rfl rfl fun b2 => ?_
    refine sq (q_as rfl) rfl rfl ?_
    refine s_st (e_st rfl rfl Tryz.sizeOf160 rfl rfl rfl rfl) rfl rfl ?_
    refine go_nil ?_
    refine tn ?_
    refine gc_seq ?_
    refine gc_region ?_
    refine sq (q_fa rfl Tryz.runUnderlying160 rfl Tryz.sizeOf4) rfl rfl ?_
    refine sq (q_ld rfl Tryz.isAgg4 rfl) rfl rfl ?_
    refine sq (q_mv rfl) rfl rfl ?_
    refine bsp (fun h3 => ?_) (fun h3 => ?_)
    · refine sq (q_fa rfl Tryz.runUnderlying160 rfl Tryz.sizeOf4) rfl rfl ?_
      refine sq (q_ld rfl Tryz.isAgg4 rfl) rfl rfl ?_
      refine sq (q_not rfl) rfl rfl ?_
      refine sq (q_pick rfl rfl) rfl rfl ?_
      refine go_nil ?_
      refine tn ?_
      refine gc_if rfl (fun h4 => ?_) (fun h4 => ?_)
      · refine gc_region ?_
        refine sq (q_mv rfl) rfl rfl ?_
        refine sq (q_mv rfl) rfl rfl ?_
        refine s_bsl (e_bsl (zl := [.int .i64 0]) rfl Tryz.runUnderlying36 Tryz.sizeOf3 (by decide) (by decide) Tryz.zeroValue3 (by kernel_rfl) rfl) rfl rfl fun b5 => ?_
        refine s_app (e_app (sl := y.2) rfl hI.2.2.ok rfl rfl (by simp [Value.oneCell']) Tryz.underlying36 ei3 (by have h1 := aliveTo_len x.t y.1.toNat; have h2 := hI.2.2.n; have h3 := hI.2.1; have h4 := hI.1; first | omega | (simp only [maxLen]; omega)) (by have h1 := aliveTo_len x.t y.1.toNat; have h2 := hI.2.2.n; have h3 := hI.2.1; have h4 := hI.1; first | omega | (simp only [maxLen]; omega))) rfl rfl fun s6 hok6 hn6 hx6 => ?_
        refine sq (q_as rfl) rfl rfl ?_
        refine go_nil ?_
        refine bn (tn ?_)
        refine gc_region ?_
        refine sq (q_addi rfl rfl (by obtain ⟨hI1, hI2, _⟩ := hI; simp only [decide_eq_true_eq] at *; omega)) rfl rfl ?_
        refine sq (q_mv rfl) rfl rfl ?_
        refine go_nil ?_
        first | exact aq_round (y.1 + 1, y.2) ⟨by omega, by simp_all; omega, by rw [show (y.1 + 1).toNat = y.1.toNat + 1 by omega, alive_no (by simp_all)]; exact hI.2.2⟩ (by simp_all; omega) ⟨rfl, rfl, rfl, trivial⟩ hpS | exact aq_round (y.1 + 1, s6) ⟨by omega, by simp_all; omega, by rw [show (y.1 + 1).toNat = y.1.toNat + 1 by omega, alive_yes (by simp_all)]; exact ⟨hok6, by simp [*, hI.2.2.n], by simp [*, hI.2.2.xs]; omega⟩⟩ (by simp_all; omega) ⟨rfl, rfl, rfl, trivial⟩ hpS
      · refine gc_skip ?_
        refine bn (tn ?_)
        refine gc_region ?_
        refine sq (q_addi rfl rfl (by obtain ⟨hI1, hI2, _⟩ := hI; simp only [decide_eq_true_eq] at *; omega)) rfl rfl ?_
        refine sq (q_mv rfl) rfl rfl ?_
        refine go_nil ?_
        first | exact aq_round (y.1 + 1, y.2) ⟨by omega, by simp_all; omega, by rw [show (y.1 + 1).toNat = y.1.toNat + 1 by omega, alive_no (by simp_all)]; exact hI.2.2⟩ (by simp_all; omega) ⟨rfl, rfl, rfl, trivial⟩ hpS | exact aq_round (y.1 + 1, y.2) ⟨by omega, by simp_all; omega, by rw [show (y.1 + 1).toNat = y.1.toNat + 1 by omega, alive_yes (by simp_all)]; exact ⟨hI.2.2.ok, by simp [*, hI.2.2.n], by simp [*, hI.2.2.xs]; omega⟩⟩ (by simp_all; omega) ⟨rfl, rfl, rfl, trivial⟩ hpS
    · refine sskip rfl rfl ?_
      refine sskip rfl rfl ?_
      refine sskip rfl rfl ?_
      refine sq (q_pick rfl rfl) rfl rfl ?_
      refine go_nil ?_
      refine tn ?_
      refine gc_false rfl ?_
      refine gc_skip ?_
      refine bn (tn ?_)
      refine gc_region ?_
      refine sq (q_addi rfl rfl (by obtain ⟨hI1, hI2, _⟩ := hI; simp only [decide_eq_true_eq] at *; omega)) rfl rfl ?_
      refine sq (q_mv rfl) rfl rfl ?_
      refine go_nil ?_
      first | exact aq_round (y.1 + 1, y.2) ⟨by omega, by simp_all; omega, by rw [show (y.1 + 1).toNat = y.1.toNat + 1 by omega, alive_no (by simp_all)]; exact hI.2.2⟩ (by simp_all; omega) ⟨rfl, rfl, rfl, trivial⟩ hpS | exact aq_round (y.1 + 1, y.2) ⟨by omega, by simp_all; omega, by rw [show (y.1 + 1).toNat = y.1.toNat + 1 by omega, alive_yes (by simp_all)]; exact ⟨hI.2.2.ok, by simp [*, hI.2.2.n], by simp [*, hI.2.2.xs]; omega⟩⟩ (by simp_all; omega) ⟨rfl, rfl, rfl, trivial⟩ hpS
  · refine gc_exit ?_
    refine tx (tx (bx (tn ?_)))
    refine gc_seq ?_
    refine gc_region ?_
    refine sq (q_mv rfl) rfl rfl ?_
    refine sq (q_as rfl) rfl rfl ?_
    refine go_nil ?_
    refine tn ?_
    refine gc_ret ?_
    refine ret_1 (.inl rfl) rfl rfl ?_
    have e : y.1.toNat = 16 := (by simp_all; omega)
    have e2 := hI.2.2
    rw [e] at e2
    exact rsY (A := Sli.L 3 y.2) [] ⟨y.2, e2, rfl, rfl⟩
end Go.LL
