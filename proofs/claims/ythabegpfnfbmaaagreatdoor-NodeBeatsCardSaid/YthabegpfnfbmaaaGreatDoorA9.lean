/- Part of a claim: contracts of the program's functions, walked op by op. -/
import Derived.Test.YthabegpfnfbmaaaGreatDoorA8
import Derived.Test.YthabegpfnfbmaaaGreatDoorMO6
set_option linter.unusedSimpArgs false
set_option linter.unusedVariables false
namespace Go.LL
open Go.Proofs

set_option maxRecDepth 4000 in
set_option maxHeartbeats 2000000 in
theorem zero_spec  :
    Spec Tryz.prog 112 [.agg #[i6 0, i6 0, i6 0, .slice none 0 0, .slice none 0 0]] [] [] (fun v L => v = .bool true ∧ L = []) := by
  refine spec_of Tryz.func112 rfl Tryz.ntmps112 (by simp) fun w0 hb => ?_
  refine gc_seq ?_
  refine gc_region ?_
  refine s_new (e_box rfl rfl) rfl rfl fun b1 => ?_
  refine sq (q_as rfl) rfl rfl ?_
  refine go_nil ?_
  refine tn ?_
  refine gc_seq ?_
  refine gc_region ?_
  refine sq (q_fa rfl Tryz.runUnderlying39 rfl Tryz.sizeOf35) rfl rfl ?_
  refine sq (q_lda rfl Tryz.isAgg35 Tryz.sizeOf35 rfl) rfl rfl ?_
  refine sq (q_bld rfl Tryz.runUnderlying35 Tryz.zeroValue35 rfl pl35 rfl) rfl rfl ?_
  refine sq (q_seql rfl rfl eg35 (sq35 _ _ _ _)) rfl rfl ?_
  refine sq (q_mv rfl) rfl rfl ?_
  refine bsp (fun h2 => ?_) (fun h2 => ?_)
  · refine sq (q_fa rfl Tryz.runUnderlying39 rfl Tryz.sizeOf2) rfl rfl ?_
    refine sq (q_ld rfl Tryz.isAgg2 rfl) rfl rfl ?_
    refine sq (q_eql rfl rfl) rfl rfl ?_
    refine sq (q_pick rfl rfl) rfl rfl ?_
    refine sq (q_mv rfl) rfl rfl ?_
    refine bsp (fun h3 => ?_) (fun h3 => ?_)
    · refine sq (q_fa rfl Tryz.runUnderlying39 rfl Tryz.sizeOf36) rfl rfl ?_
      refine sq (q_ld rfl Tryz.isAgg36 rfl) rfl rfl ?_
      refine sq (q_lenS Tryz.runUnderlying36 rfl) rfl rfl ?_
      refine sq (q_eql rfl rfl) rfl rfl ?_
      refine sq (q_pick rfl rfl) rfl rfl ?_
      refine sq (q_mv rfl) rfl rfl ?_
      refine bsp (fun h4 => ?_) (fun h4 => ?_)
      · refine sq (q_fa rfl Tryz.runUnderlying39 rfl Tryz.sizeOf37) rfl rfl ?_
        refine sq (q_ld rfl Tryz.isAgg37 rfl) rfl rfl ?_
        refine sq (q_lenS Tryz.runUnderlying37 rfl) rfl rfl ?_
        refine sq (q_eql rfl rfl) rfl rfl ?_
        refine sq (q_pick rfl rfl) rfl rfl ?_
        refine sq (q_as rfl) rfl rfl ?_
        refine go_nil ?_
        refine tn ?_
        refine gc_ret ?_
        refine ret_1 (.inl rfl) rfl rfl ?_
        exact rsE (by first | rfl | (simp_all; done) | (simp_all; rfl) | (simp_all; omega) | (simp_all; intros; omega) | (simp_all; (repeat' split) <;> first | rfl | (simp_all; done) | omega | (exfalso; omega)))
      · refine sskip rfl rfl ?_
        refine sskip rfl rfl ?_
        refine sskip rfl rfl ?_
        refine sskip rfl rfl ?_
        refine sq (q_pick rfl rfl) rfl rfl ?_
        refine sq (q_as rfl) rfl rfl ?_
        refine go_nil ?_
        refine tn ?_
        refine gc_ret ?_
        refine ret_1 (.inl rfl) rfl rfl ?_
        exact rsE (by first | rfl | (simp_all; done) | (simp_all; rfl) | (simp_all; omega) | (simp_all; intros; omega) | (simp_all; (repeat' split) <;> first | rfl | (simp_all; done) | omega | (exfalso; omega)))
    · refine sskip rfl rfl ?_
      refine sskip rfl rfl ?_
      refine sskip rfl rfl ?_
      refine sskip rfl rfl ?_
      refine sq (q_pick rfl rfl) rfl rfl ?_
      refine sq (q_mv rfl) rfl rfl ?_
      refine sskip rfl rfl ?_
      refine sskip rfl rfl ?_
      refine sskip rfl rfl ?_
      refine sskip rfl rfl ?_
      refine sq (q_pick rfl rfl) rfl rfl ?_
      refine sq (q_as rfl) rfl rfl ?_
      refine go_nil ?_
      refine tn ?_
      refine gc_ret ?_
      refine ret_1 (.inl rfl) rfl rfl ?_
      exact rsE (by first | rfl | (simp_all; done) | (simp_all; rfl) | (simp_all; omega) | (simp_all; intros; omega) | (simp_all; (repeat' split) <;> first | rfl | (simp_all; done) | omega | (exfalso; omega)))
  · refine sskip rfl rfl ?_
    refine sskip rfl rfl ?_
    refine sskip rfl rfl ?_
    refine sq (q_pick rfl rfl) rfl rfl ?_
    refine sq (q_mv rfl) rfl rfl ?_
    refine sskip rfl rfl ?_
    refine sskip rfl rfl ?_
    refine sskip rfl rfl ?_
    refine sskip rfl rfl ?_
    refine sq (q_pick rfl rfl) rfl rfl ?_
    refine sq (q_mv rfl) rfl rfl ?_
    refine sskip rfl rfl ?_
    refine sskip rfl rfl ?_
    refine sskip rfl rfl ?_
    refine sskip rfl rfl ?_
    refine sq (q_pick rfl rfl) rfl rfl ?_
    refine sq (q_as rfl) rfl rfl ?_
    refine go_nil ?_
    refine tn ?_
    refine gc_ret ?_
    refine ret_1 (.inl rfl) rfl rfl ?_
    exact rsE (by first | rfl | (simp_all; done) | (simp_all; rfl) | (simp_all; omega) | (simp_all; intros; omega) | (simp_all; (repeat' split) <;> first | rfl | (simp_all; done) | omega | (exfalso; omega)))

set_option maxRecDepth 4000 in
set_option maxHeartbeats 2000000 in
theorem validB_spec (ε : Nat → Nat × Value) (f : Beat) :
    Spec Tryz.prog 48 [f.v] [] (ro ε) (fun v L => v = ev ε f.err ∧ L = []) := by
  refine spec_of Tryz.func48 rfl Tryz.ntmps48 (by simp) fun w0 hb => ?_
  refine gc_seq ?_
  refine gc_region ?_
  refine s_new (e_box rfl rfl) rfl rfl fun b1 => ?_
  refine sq (q_as rfl) rfl rfl ?_
  refine go_nil ?_
  refine tn ?_
  refine gc_seq ?_
  refine gc_block ?_
  refine gc_seq ?_
  refine gc_region ?_
  refine sq (q_fa rfl Tryz.runUnderlying41 rfl Tryz.sizeOf3) rfl rfl ?_
  refine sq (q_ld rfl Tryz.isAgg3 rfl) rfl rfl ?_
  refine sq (q_neq rfl rfl) rfl rfl ?_
  refine sq (q_mv rfl) rfl rfl ?_
  refine bsp (fun h2 => ?_) (fun h2 => ?_)
  · refine sq (q_fa rfl Tryz.runUnderlying41 rfl Tryz.sizeOf3) rfl rfl ?_
    refine sq (q_ld rfl Tryz.isAgg3 rfl) rfl rfl ?_
    refine sq (q_neq rfl rfl) rfl rfl ?_
    refine sq (q_pick rfl rfl) rfl rfl ?_
    refine sq (q_as rfl) rfl rfl ?_
    refine go_nil ?_
    refine tn ?_
    refine gc_if rfl (fun h3 => ?_) (fun h3 => ?_)
    · refine gc_seq ?_
      exfalso; simp_all
    · refine gc_seq ?_
      refine gc_region ?_
      refine sq (q_fa rfl Tryz.runUnderlying41 rfl Tryz.sizeOf3) rfl rfl ?_
      refine sq (q_ld rfl Tryz.isAgg3 rfl) rfl rfl ?_
      refine s_callE (e_call (fcar_spec _) rfl en109) rfl rfl ?_
      refine sq (q_not rfl) rfl rfl ?_
      refine sq (q_mv rfl) rfl rfl ?_
      refine bsp (fun h4 => ?_) (fun h4 => ?_)
      · refine sskip rfl rfl ?_
        refine sskip rfl rfl ?_
        refine sskip rfl rfl ?_
        refine sskip rfl rfl ?_
        refine sq (q_pick rfl rfl) rfl rfl ?_
        refine sq (q_as rfl) rfl rfl ?_
        refine go_nil ?_
        refine tn ?_
        refine gc_true rfl ?_
        refine gc_seq ?_
        refine gc_region ?_
        refine sq (q_ld rfl Tryz.isAgg47 rfl) rfl rfl ?_
        refine sq (q_as rfl) rfl rfl ?_
        refine go_nil ?_
        refine tn ?_
        refine gc_ret ?_
        refine br (tr ?_)
        refine ret_1 (.inl rfl) rfl rfl ?_
        exact rsE (by first | rfl | (simp_all [Beat.err]; done) | (simp_all [Beat.err]; rfl) | (simp_all [Beat.err]; omega) | (simp_all [Beat.err]; intros; omega) | (simp_all [Beat.err]; (repeat' split) <;> first | rfl | (simp_all; done) | omega | (exfalso; omega)) | (simp only [Beat.err]; (repeat' split) <;> first | (simp_all; done) | (simp_all; omega) | omega | (exfalso; simp_all; omega)) | (simp_all; (simp only [Beat.err]; (repeat' split) <;> first | (simp_all; done) | (simp_all; omega) | omega | (exfalso; simp_all; omega))))
      · refine sq (q_fa rfl Tryz.runUnderlying41 rfl Tryz.sizeOf3) rfl rfl ?_
        refine sq (q_ld rfl Tryz.isAgg3 rfl) rfl rfl ?_
        refine s_callE (e_call (fcar_spec _) rfl en109) rfl rfl ?_
        refine sq (q_not rfl) rfl rfl ?_
        refine sq (q_pick rfl rfl) rfl rfl ?_
        refine sq (q_as rfl) rfl rfl ?_
        refine go_nil ?_
        refine tn ?_
        refine gc_if rfl (fun h5 => ?_) (fun h5 => ?_)
        · refine gc_seq ?_
          refine gc_region ?_
          refine sq (q_ld rfl Tryz.isAgg47 rfl) rfl rfl ?_
          refine sq (q_as rfl) rfl rfl ?_
          refine go_nil ?_
          refine tn ?_
          refine gc_ret ?_
          refine br (tr ?_)
          refine ret_1 (.inl rfl) rfl rfl ?_
          exact rsE (by first | rfl | (simp_all [Beat.err]; done) | (simp_all [Beat.err]; rfl) | (simp_all [Beat.err]; omega) | (simp_all [Beat.err]; intros; omega) | (simp_all [Beat.err]; (repeat' split) <;> first | rfl | (simp_all; done) | omega | (exfalso; omega)) | (simp only [Beat.err]; (repeat' split) <;> first | (simp_all; done) | (simp_all; omega) | omega | (exfalso; simp_all; omega)) | (simp_all; (simp only [Beat.err]; (repeat' split) <;> first | (simp_all; done) | (simp_all; omega) | omega | (exfalso; simp_all; omega))))
        · refine gc_seq ?_
          refine gc_region ?_
          refine sq (q_fa rfl Tryz.runUnderlying41 rfl Tryz.sizeOf3) rfl rfl ?_
          refine sq (q_ld rfl Tryz.isAgg3 rfl) rfl rfl ?_
          refine sq (q_eql rfl rfl) rfl rfl ?_
          refine sq (q_as rfl) rfl rfl ?_
          refine go_nil ?_
          refine tn ?_
          refine gc_if rfl (fun h6 => ?_) (fun h6 => ?_)
          · refine gc_seq ?_
            exfalso; simp_all
          · refine gc_seq ?_
            refine gc_region ?_
            refine sq (q_fa rfl Tryz.runUnderlying41 rfl Tryz.sizeOf2) rfl rfl ?_
            refine sq (q_ld rfl Tryz.isAgg2 rfl) rfl rfl ?_
            refine s_callE (e_call (fnum_spec _) rfl en111) rfl rfl ?_
            refine sq (q_not rfl) rfl rfl ?_
            refine sq (q_mv rfl) rfl rfl ?_
            refine bsp (fun h7 => ?_) (fun h7 => ?_)
            · refine sskip rfl rfl ?_
              refine sskip rfl rfl ?_
              refine sskip rfl rfl ?_
              refine sskip rfl rfl ?_
              refine sq (q_pick rfl rfl) rfl rfl ?_
              refine sq (q_mv rfl) rfl rfl ?_
              refine sskip rfl rfl ?_
              refine sskip rfl rfl ?_
              refine sskip rfl rfl ?_
              refine sskip rfl rfl ?_
              refine sq (q_pick rfl rfl) rfl rfl ?_
              refine sq (q_as rfl) rfl rfl ?_
              refine go_nil ?_
              refine tn ?_
              refine gc_true rfl ?_
              refine gc_seq ?_
              refine gc_region ?_
              refine sq (q_ld rfl Tryz.isAgg47 rfl) rfl rfl ?_
              refine sq (q_as rfl) rfl rfl ?_
              refine go_nil ?_
              refine tn ?_
              refine gc_ret ?_
              refine br (tr ?_)
              refine ret_1 (.inl rfl) rfl rfl ?_
              exact rsE (by first | rfl | (simp_all [Beat.err]; done) | (simp_all [Beat.err]; rfl) | (simp_all [Beat.err]; omega) | (simp_all [Beat.err]; intros; omega) | (simp_all [Beat.err]; (repeat' split) <;> first | rfl | (simp_all; done) | omega | (exfalso; omega)) | (simp only [Beat.err]; (repeat' split) <;> first | (simp_all; done) | (simp_all; omega) | omega | (exfalso; simp_all; omega)) | (simp_all; (simp only [Beat.err]; (repeat' split) <;> first | (simp_all; done) | (simp_all; omega) | omega | (exfalso; simp_all; omega))))
            · refine sq (q_fa rfl Tryz.runUnderlying41 rfl Tryz.sizeOf2) rfl rfl ?_
              refine sq (q_ld rfl Tryz.isAgg2 rfl) rfl rfl ?_
              refine s_callE (e_call (fnum_spec _) rfl en111) rfl rfl ?_
              refine sq (q_not rfl) rfl rfl ?_
              refine sq (q_pick rfl rfl) rfl rfl ?_
              refine sq (q_mv rfl) rfl rfl ?_
              refine bsp (fun h8 => ?_) (fun h8 => ?_)
              · refine sskip rfl rfl ?_
                refine sskip rfl rfl ?_
                refine sskip rfl rfl ?_
                refine sskip rfl rfl ?_
                refine sq (q_pick rfl rfl) rfl rfl ?_
                refine sq (q_as rfl) rfl rfl ?_
                refine go_nil ?_
                refine tn ?_
                refine gc_true rfl ?_
                refine gc_seq ?_
                refine gc_region ?_
                refine sq (q_ld rfl Tryz.isAgg47 rfl) rfl rfl ?_
                refine sq (q_as rfl) rfl rfl ?_
                refine go_nil ?_
                refine tn ?_
                refine gc_ret ?_
                refine br (tr ?_)
                refine ret_1 (.inl rfl) rfl rfl ?_
                exact rsE (by first | rfl | (simp_all [Beat.err]; done) | (simp_all [Beat.err]; rfl) | (simp_all [Beat.err]; omega) | (simp_all [Beat.err]; intros; omega) | (simp_all [Beat.err]; (repeat' split) <;> first | rfl | (simp_all; done) | omega | (exfalso; omega)) | (simp only [Beat.err]; (repeat' split) <;> first | (simp_all; done) | (simp_all; omega) | omega | (exfalso; simp_all; omega)) | (simp_all; (simp only [Beat.err]; (repeat' split) <;> first | (simp_all; done) | (simp_all; omega) | omega | (exfalso; simp_all; omega))))
              · refine sq (q_fa rfl Tryz.runUnderlying41 rfl Tryz.sizeOf39) rfl rfl ?_
                refine sq (q_lda rfl Tryz.isAgg39 Tryz.sizeOf39 rfl) rfl rfl ?_
                refine s_callE (e_call (zero_spec) rfl en112) rfl rfl ?_
                refine sq (q_not rfl) rfl rfl ?_
                refine sq (q_pick rfl rfl) rfl rfl ?_
                refine sq (q_as rfl) rfl rfl ?_
                refine go_nil ?_
                refine tn ?_
                refine gc_if rfl (fun h9 => ?_) (fun h9 => ?_)
                · refine gc_seq ?_
                  refine gc_region ?_
                  refine sq (q_ld rfl Tryz.isAgg47 rfl) rfl rfl ?_
                  refine sq (q_as rfl) rfl rfl ?_
                  refine go_nil ?_
                  refine tn ?_
                  refine gc_ret ?_
                  refine br (tr ?_)
                  refine ret_1 (.inl rfl) rfl rfl ?_
                  exact rsE (by first | rfl | (simp_all [Beat.err]; done) | (simp_all [Beat.err]; rfl) | (simp_all [Beat.err]; omega) | (simp_all [Beat.err]; intros; omega) | (simp_all [Beat.err]; (repeat' split) <;> first | rfl | (simp_all; done) | omega | (exfalso; omega)) | (simp only [Beat.err]; (repeat' split) <;> first | (simp_all; done) | (simp_all; omega) | omega | (exfalso; simp_all; omega)) | (simp_all; (simp only [Beat.err]; (repeat' split) <;> first | (simp_all; done) | (simp_all; omega) | omega | (exfalso; simp_all; omega))))
                · refine gc_skip ?_
                  refine bn (tn ?_)
                  refine gc_seq ?_
                  refine gc_region ?_
                  refine sq (q_as rfl) rfl rfl ?_
                  refine go_nil ?_
                  refine tn ?_
                  refine gc_ret ?_
                  refine ret_1 (.inl rfl) rfl rfl ?_
                  exact rsE (by first | rfl | (simp_all [Beat.err]; done) | (simp_all [Beat.err]; rfl) | (simp_all [Beat.err]; omega) | (simp_all [Beat.err]; intros; omega) | (simp_all [Beat.err]; (repeat' split) <;> first | rfl | (simp_all; done) | omega | (exfalso; omega)) | (simp only [Beat.err]; (repeat' split) <;> first | (simp_all; done) | (simp_all; omega) | omega | (exfalso; simp_all; omega)) | (simp_all; (simp only [Beat.err]; (repeat' split) <;> first | (simp_all; done) | (simp_all; omega) | omega | (exfalso; simp_all; omega))))
  · refine sskip rfl rfl ?_
    refine sskip rfl rfl ?_
    refine sskip rfl rfl ?_
    refine sq (q_pick rfl rfl) rfl rfl ?_
    refine sq (q_as rfl) rfl rfl ?_
    refine go_nil ?_
    refine tn ?_
    refine gc_false rfl ?_
    refine gc_seq ?_
    refine gc_region ?_
    refine sq (q_fa rfl Tryz.runUnderlying41 rfl Tryz.sizeOf3) rfl rfl ?_
    refine sq (q_ld rfl Tryz.isAgg3 rfl) rfl rfl ?_
    refine s_callE (e_call (fcar_spec _) rfl en109) rfl rfl ?_
    refine sq (q_not rfl) rfl rfl ?_
    refine sq (q_mv rfl) rfl rfl ?_
    refine bsp (fun h10 => ?_) (fun h10 => ?_)
    · refine sskip rfl rfl ?_
      refine sskip rfl rfl ?_
      refine sskip rfl rfl ?_
      refine sskip rfl rfl ?_
      refine sq (q_pick rfl rfl) rfl rfl ?_
      refine sq (q_as rfl) rfl rfl ?_
      refine go_nil ?_
      refine tn ?_
      refine gc_true rfl ?_
      refine gc_seq ?_
      refine gc_region ?_
      refine sq (q_ld rfl Tryz.isAgg47 rfl) rfl rfl ?_
      refine sq (q_as rfl) rfl rfl ?_
      refine go_nil ?_
      refine tn ?_
      refine gc_ret ?_
      refine br (tr ?_)
      refine ret_1 (.inl rfl) rfl rfl ?_
      exact rsE (by first | rfl | (simp_all [Beat.err]; done) | (simp_all [Beat.err]; rfl) | (simp_all [Beat.err]; omega) | (simp_all [Beat.err]; intros; omega) | (simp_all [Beat.err]; (repeat' split) <;> first | rfl | (simp_all; done) | omega | (exfalso; omega)) | (simp only [Beat.err]; (repeat' split) <;> first | (simp_all; done) | (simp_all; omega) | omega | (exfalso; simp_all; omega)) | (simp_all; (simp only [Beat.err]; (repeat' split) <;> first | (simp_all; done) | (simp_all; omega) | omega | (exfalso; simp_all; omega))))
    · refine sq (q_fa rfl Tryz.runUnderlying41 rfl Tryz.sizeOf3) rfl rfl ?_
      refine sq (q_ld rfl Tryz.isAgg3 rfl) rfl rfl ?_
      refine s_callE (e_call (fcar_spec _) rfl en109) rfl rfl ?_
      refine sq (q_not rfl) rfl rfl ?_
      refine sq (q_pick rfl rfl) rfl rfl ?_
      refine sq (q_as rfl) rfl rfl ?_
      refine go_nil ?_
      refine tn ?_
      refine gc_if rfl (fun h11 => ?_) (fun h11 => ?_)
      · refine gc_seq ?_
        refine gc_region ?_
        refine sq (q_ld rfl Tryz.isAgg47 rfl) rfl rfl ?_
        refine sq (q_as rfl) rfl rfl ?_
        refine go_nil ?_
        refine tn ?_
        refine gc_ret ?_
        refine br (tr ?_)
        refine ret_1 (.inl rfl) rfl rfl ?_
        exact rsE (by first | rfl | (simp_all [Beat.err]; done) | (simp_all [Beat.err]; rfl) | (simp_all [Beat.err]; omega) | (simp_all [Beat.err]; intros; omega) | (simp_all [Beat.err]; (repeat' split) <;> first | rfl | (simp_all; done) | omega | (exfalso; omega)) | (simp only [Beat.err]; (repeat' split) <;> first | (simp_all; done) | (simp_all; omega) | omega | (exfalso; simp_all; omega)) | (simp_all; (simp only [Beat.err]; (repeat' split) <;> first | (simp_all; done) | (simp_all; omega) | omega | (exfalso; simp_all; omega))))
      · refine gc_seq ?_
        refine gc_region ?_
        refine sq (q_fa rfl Tryz.runUnderlying41 rfl Tryz.sizeOf3) rfl rfl ?_
        refine sq (q_ld rfl Tryz.isAgg3 rfl) rfl rfl ?_
        refine sq (q_eql rfl rfl) rfl rfl ?_
        refine sq (q_as rfl) rfl rfl ?_
        refine go_nil ?_
        refine tn ?_
        refine gc_if rfl (fun h12 => ?_) (fun h12 => ?_)
        · refine gc_seq ?_
          exfalso; simp_all
        · refine gc_seq ?_
          refine gc_region ?_
          refine sq (q_fa rfl Tryz.runUnderlying41 rfl Tryz.sizeOf2) rfl rfl ?_
          refine sq (q_ld rfl Tryz.isAgg2 rfl) rfl rfl ?_
          refine s_callE (e_call (fnum_spec _) rfl en111) rfl rfl ?_
          refine sq (q_not rfl) rfl rfl ?_
          refine sq (q_mv rfl) rfl rfl ?_
          refine bsp (fun h13 => ?_) (fun h13 => ?_)
          · refine sskip rfl rfl ?_
            refine sskip rfl rfl ?_
            refine sskip rfl rfl ?_
            refine sskip rfl rfl ?_
            refine sq (q_pick rfl rfl) rfl rfl ?_
            refine sq (q_mv rfl) rfl rfl ?_
            refine sskip rfl rfl ?_
            refine sskip rfl rfl ?_
            refine sskip rfl rfl ?_
            refine sskip rfl rfl ?_
            refine sq (q_pick rfl rfl) rfl rfl ?_
            refine sq (q_as rfl) rfl rfl ?_
            refine go_nil ?_
            refine tn ?_
            refine gc_true rfl ?_
            refine gc_seq ?_
            refine gc_region ?_
            refine sq (q_ld rfl Tryz.isAgg47 rfl) rfl rfl ?_
            refine sq (q_as rfl) rfl rfl ?_
            refine go_nil ?_
            refine tn ?_
            refine gc_ret ?_
            refine br (tr ?_)
            refine ret_1 (.inl rfl) rfl rfl ?_
            exact rsE (by first | rfl | (simp_all [Beat.err]; done) | (simp_all [Beat.err]; rfl) | (simp_all [Beat.err]; omega) | (simp_all [Beat.err]; intros; omega) | (simp_all [Beat.err]; (repeat' split) <;> first | rfl | (simp_all; done) | omega | (exfalso; omega)) | (simp only [Beat.err]; (repeat' split) <;> first | (simp_all; done) | (simp_all; omega) | omega | (exfalso; simp_all; omega)) | (simp_all; (simp only [Beat.err]; (repeat' split) <;> first | (simp_all; done) | (simp_all; omega) | omega | (exfalso; simp_all; omega))))
          · refine sq (q_fa rfl Tryz.runUnderlying41 rfl Tryz.sizeOf2) rfl rfl ?_
            refine sq (q_ld rfl Tryz.isAgg2 rfl) rfl rfl ?_
            refine s_callE (e_call (fnum_spec _) rfl en111) rfl rfl ?_
            refine sq (q_not rfl) rfl rfl ?_
            refine sq (q_pick rfl rfl) rfl rfl ?_
            refine sq (q_mv rfl) rfl rfl ?_
            refine bsp (fun h14 => ?_) (fun h14 => ?_)
            · refine sskip rfl rfl ?_
              refine sskip rfl rfl ?_
              refine sskip rfl rfl ?_
              refine sskip rfl rfl ?_
              refine sq (q_pick rfl rfl) rfl rfl ?_
              refine sq (q_as rfl) rfl rfl ?_
              refine go_nil ?_
              refine tn ?_
              refine gc_true rfl ?_
              refine gc_seq ?_
              refine gc_region ?_
              refine sq (q_ld rfl Tryz.isAgg47 rfl) rfl rfl ?_
              refine sq (q_as rfl) rfl rfl ?_
              refine go_nil ?_
              refine tn ?_
              refine gc_ret ?_
              refine br (tr ?_)
              refine ret_1 (.inl rfl) rfl rfl ?_
              exact rsE (by first | rfl | (simp_all [Beat.err]; done) | (simp_all [Beat.err]; rfl) | (simp_all [Beat.err]; omega) | (simp_all [Beat.err]; intros; omega) | (simp_all [Beat.err]; (repeat' split) <;> first | rfl | (simp_all; done) | omega | (exfalso; omega)) | (simp only [Beat.err]; (repeat' split) <;> first | (simp_all; done) | (simp_all; omega) | omega | (exfalso; simp_all; omega)) | (simp_all; (simp only [Beat.err]; (repeat' split) <;> first | (simp_all; done) | (simp_all; omega) | omega | (exfalso; simp_all; omega))))
            · refine sq (q_fa rfl Tryz.runUnderlying41 rfl Tryz.sizeOf39) rfl rfl ?_
              refine sq (q_lda rfl Tryz.isAgg39 Tryz.sizeOf39 rfl) rfl rfl ?_
              refine s_callE (e_call (zero_spec) rfl en112) rfl rfl ?_
              refine sq (q_not rfl) rfl rfl ?_
              refine sq (q_pick rfl rfl) rfl rfl ?_
              refine sq (q_as rfl) rfl rfl ?_
              refine go_nil ?_
              refine tn ?_
              refine gc_if rfl (fun h15 => ?_) (fun h15 => ?_)
              · refine gc_seq ?_
                refine gc_region ?_
                refine sq (q_ld rfl Tryz.isAgg47 rfl) rfl rfl ?_
                refine sq (q_as rfl) rfl rfl ?_
                refine go_nil ?_
                refine tn ?_
                refine gc_ret ?_
                refine br (tr ?_)
                refine ret_1 (.inl rfl) rfl rfl ?_
                exact rsE (by first | rfl | (simp_all [Beat.err]; done) | (simp_all [Beat.err]; rfl) | (simp_all [Beat.err]; omega) | (simp_all [Beat.err]; intros; omega) | (simp_all [Beat.err]; (repeat' split) <;> first | rfl | (simp_all; done) | omega | (exfalso; omega)) | (simp only [Beat.err]; (repeat' split) <;> first | (simp_all; done) | (simp_all; omega) | omega | (exfalso; simp_all; omega)) | (simp_all; (simp only [Beat.err]; (repeat' split) <;> first | (simp_all; done) | (simp_all; omega) | omega | (exfalso; simp_all; omega))))
              · refine gc_skip ?_
                refine bn (tn ?_)
                refine gc_seq ?_
                refine gc_region ?_
                refine sq (q_as rfl) rfl rfl ?_
                refine go_nil ?_
                refine tn ?_
                refine gc_ret ?_
                refine ret_1 (.inl rfl) rfl rfl ?_
                exact rsE (by first | rfl | (simp_all [Beat.err]; done) | (simp_all [Beat.err]; rfl) | (simp_all [Beat.err]; omega) | (simp_all [Beat.err]; intros; omega) | (simp_all [Beat.err]; (repeat' split) <;> first | rfl | (simp_all; done) | omega | (exfalso; omega)) | (simp only [Beat.err]; (repeat' split) <;> first | (simp_all; done) | (simp_all; omega) | omega | (exfalso; simp_all; omega)) | (simp_all; (simp only [Beat.err]; (repeat' split) <;> first | (simp_all; done) | (simp_all; omega) | omega | (exfalso; simp_all; omega))))

set_option maxRecDepth 4000 in
set_option maxHeartbeats 2000000 in
theorem hearB_spec (ε : Nat → Nat × Value) (np : Nat) (p : NodeP) (nm : NodeM) (x : Tab) (f : Beat) (rv : Value) :
    Spec Tryz.prog 11 [pt np, f.v, rv] [(p.l, Tab.o 163 x)] ((np, NodeM.o 129 p nm) :: ro ε) (fun v L => v = .tuple #[.slice none 0 0, .slice none 0 0] ∧ L = [(p.l, Tab.o 163 (hearB nm x f))]) := by
  refine spec_of Tryz.func11 rfl Tryz.ntmps11 (by simp) fun w0 hb => ?_
  refine gc_seq ?_
  refine gc_region ?_
  refine s_new (e_box rfl rfl) rfl rfl fun b1 => ?_
  refine sq (q_as rfl) rfl rfl ?_
  refine sq (q_as rfl) rfl rfl ?_
  refine go_nil ?_
  refine tn ?_
  refine gc_seq ?_
  refine gc_block ?_
  refine gc_seq ?_
  refine gc_draw (ord := [(0, false), (1, false), (2, false), (3, false), (4, false), (5, false), (6, false), (7, false), (8, false), (9, false), (10, true), (11, true), (12, false), (13, false), (14, false), (15, false), (16, false), (17, false), (18, false)]) [] mixed (by kernel_rfl) rfl (by kernel_rfl) (.cons_cons _ (.cons_cons _ (.slnil))) ?_
  refine x_qe (q_mv rfl) rfl rfl rfl (by repeat (first | exact List.nil_sublist _ | exact List.Sublist.refl _ | exact List.sublist_append_right _ _ | apply List.Sublist.cons_cons | apply List.Sublist.cons | refine List.Sublist.trans ?_ (List.sublist_append_right _ _))) ?_
  refine x_qe (q_nc rfl) rfl rfl rfl (by repeat (first | exact List.nil_sublist _ | exact List.Sublist.refl _ | exact List.sublist_append_right _ _ | apply List.Sublist.cons_cons | apply List.Sublist.cons | refine List.Sublist.trans ?_ (List.sublist_append_right _ _))) ?_
  refine x_qe (q_fa rfl Tryz.runUnderlying129 rfl Tryz.sizeOf4) rfl rfl rfl (by repeat (first | exact List.nil_sublist _ | exact List.Sublist.refl _ | exact List.sublist_append_right _ _ | apply List.Sublist.cons_cons | apply List.Sublist.cons | refine List.Sublist.trans ?_ (List.sublist_append_right _ _))) ?_
  refine x_qe (q_ld rfl Tryz.isAgg4 rfl) rfl rfl rfl (by repeat (first | exact List.nil_sublist _ | exact List.Sublist.refl _ | exact List.sublist_append_right _ _ | apply List.Sublist.cons_cons | apply List.Sublist.cons | refine List.Sublist.trans ?_ (List.sublist_append_right _ _))) ?_
  refine x_qe (q_mv rfl) rfl rfl rfl (by repeat (first | exact List.nil_sublist _ | exact List.Sublist.refl _ | exact List.sublist_append_right _ _ | apply List.Sublist.cons_cons | apply List.Sublist.cons | refine List.Sublist.trans ?_ (List.sublist_append_right _ _))) ?_
  refine xsp (fun h2 => ?_) (fun h2 => ?_)
  · refine gx_eskip rfl rfl rfl ?_
    refine gx_eskip rfl rfl rfl ?_
    refine gx_eskip rfl rfl rfl ?_
    refine x_qe (q_pick rfl rfl) rfl rfl rfl (by repeat (first | exact List.nil_sublist _ | exact List.Sublist.refl _ | exact List.sublist_append_right _ _ | apply List.Sublist.cons_cons | apply List.Sublist.cons | refine List.Sublist.trans ?_ (List.sublist_append_right _ _))) ?_
    refine x_qe (q_mv rfl) rfl rfl rfl (by repeat (first | exact List.nil_sublist _ | exact List.Sublist.refl _ | exact List.sublist_append_right _ _ | apply List.Sublist.cons_cons | apply List.Sublist.cons | refine List.Sublist.trans ?_ (List.sublist_append_right _ _))) ?_
    refine gx_skip rfl rfl rfl ?_
    refine gx_skip rfl rfl rfl ?_
    refine gx_eskip rfl rfl rfl ?_
    refine gx_eskip rfl rfl rfl ?_
    refine gx_eskip rfl rfl rfl ?_
    refine gx_eskip rfl rfl rfl ?_
    refine gx_eskip rfl rfl rfl ?_
    refine x_qe (q_pick rfl rfl) rfl rfl rfl (by repeat (first | exact List.nil_sublist _ | exact List.Sublist.refl _ | exact List.sublist_append_right _ _ | apply List.Sublist.cons_cons | apply List.Sublist.cons | refine List.Sublist.trans ?_ (List.sublist_append_right _ _))) ?_
    refine x_qe (q_as rfl) rfl rfl rfl (by repeat (first | exact List.nil_sublist _ | exact List.Sublist.refl _ | exact List.sublist_append_right _ _ | apply List.Sublist.cons_cons | apply List.Sublist.cons | refine List.Sublist.trans ?_ (List.sublist_append_right _ _))) ?_
    refine gx_nil ?_
    refine tn ?_
    refine gc_true rfl ?_
    refine gc_seq ?_
    refine gc_region ?_
    refine sq (q_as rfl) rfl rfl ?_
    refine sq (q_as rfl) rfl rfl ?_
    refine go_nil ?_
    refine tn ?_
    refine gc_ret ?_
    refine br (tr ?_)
    refine ret_2 (.inl rfl) rfl rfl rfl ?_
    refine rsX [p.l] ⟨rfl, ?_⟩
    first | (simp_all [hearB]; done) | (simp [hearB, *]; done)
  · refine x_qe (q_lda rfl Tryz.isAgg41 Tryz.sizeOf41 rfl) rfl rfl rfl (by repeat (first | exact List.nil_sublist _ | exact List.Sublist.refl _ | exact List.sublist_append_right _ _ | apply List.Sublist.cons_cons | apply List.Sublist.cons | refine List.Sublist.trans ?_ (List.sublist_append_right _ _))) ?_
    refine x_callE (e_call (validB_spec ε f) rfl en48) rfl rfl rfl (by repeat (first | exact List.nil_sublist _ | exact List.Sublist.refl _ | exact List.sublist_append_right _ _ | apply List.Sublist.cons_cons | apply List.Sublist.cons | refine List.Sublist.trans ?_ (List.sublist_append_right _ _))) ?_
    refine x_qe (q_inil_neq (q := f.err.map ε) rfl rfl Tryz.underlying47) rfl rfl rfl (by repeat (first | exact List.nil_sublist _ | exact List.Sublist.refl _ | exact List.sublist_append_right _ _ | apply List.Sublist.cons_cons | apply List.Sublist.cons | refine List.Sublist.trans ?_ (List.sublist_append_right _ _))) ?_
    refine x_qe (q_pick rfl rfl) rfl rfl rfl (by repeat (first | exact List.nil_sublist _ | exact List.Sublist.refl _ | exact List.sublist_append_right _ _ | apply List.Sublist.cons_cons | apply List.Sublist.cons | refine List.Sublist.trans ?_ (List.sublist_append_right _ _))) ?_
    refine x_qe (q_mv rfl) rfl rfl rfl (by repeat (first | exact List.nil_sublist _ | exact List.Sublist.refl _ | exact List.sublist_append_right _ _ | apply List.Sublist.cons_cons | apply List.Sublist.cons | refine List.Sublist.trans ?_ (List.sublist_append_right _ _))) ?_
    refine xsp (fun h3 => ?_) (fun h3 => ?_)
    · refine gx_skip rfl rfl rfl ?_
      refine gx_skip rfl rfl rfl ?_
      refine gx_eskip rfl rfl rfl ?_
      refine gx_eskip rfl rfl rfl ?_
      refine gx_eskip rfl rfl rfl ?_
      refine gx_eskip rfl rfl rfl ?_
      refine gx_eskip rfl rfl rfl ?_
      refine x_qe (q_pick rfl rfl) rfl rfl rfl (by repeat (first | exact List.nil_sublist _ | exact List.Sublist.refl _ | exact List.sublist_append_right _ _ | apply List.Sublist.cons_cons | apply List.Sublist.cons | refine List.Sublist.trans ?_ (List.sublist_append_right _ _))) ?_
      refine x_qe (q_as rfl) rfl rfl rfl (by repeat (first | exact List.nil_sublist _ | exact List.Sublist.refl _ | exact List.sublist_append_right _ _ | apply List.Sublist.cons_cons | apply List.Sublist.cons | refine List.Sublist.trans ?_ (List.sublist_append_right _ _))) ?_
      refine gx_nil ?_
      refine tn ?_
      refine gc_true rfl ?_
      refine gc_seq ?_
      refine gc_region ?_
      refine sq (q_as rfl) rfl rfl ?_
      refine sq (q_as rfl) rfl rfl ?_
      refine go_nil ?_
      refine tn ?_
      refine gc_ret ?_
      refine br (tr ?_)
      refine ret_2 (.inl rfl) rfl rfl rfl ?_
      refine rsX [p.l] ⟨rfl, ?_⟩
      first | (simp_all [hearB]; done) | (simp [hearB, *]; done)
    · refine gx_q (q_fa rfl Tryz.runUnderlying41 rfl Tryz.sizeOf3) rfl rfl rfl ?_
      refine gx_q (q_ld rfl Tryz.isAgg3 rfl) rfl rfl rfl ?_
      refine x_qe (q_mv rfl) rfl rfl rfl (by repeat (first | exact List.nil_sublist _ | exact List.Sublist.refl _ | exact List.sublist_append_right _ _ | apply List.Sublist.cons_cons | apply List.Sublist.cons | refine List.Sublist.trans ?_ (List.sublist_append_right _ _))) ?_
      refine x_qe (q_nc rfl) rfl rfl rfl (by repeat (first | exact List.nil_sublist _ | exact List.Sublist.refl _ | exact List.sublist_append_right _ _ | apply List.Sublist.cons_cons | apply List.Sublist.cons | refine List.Sublist.trans ?_ (List.sublist_append_right _ _))) ?_
      refine x_qe (q_fa rfl Tryz.runUnderlying129 rfl Tryz.sizeOf3) rfl rfl rfl (by repeat (first | exact List.nil_sublist _ | exact List.Sublist.refl _ | exact List.sublist_append_right _ _ | apply List.Sublist.cons_cons | apply List.Sublist.cons | refine List.Sublist.trans ?_ (List.sublist_append_right _ _))) ?_
      refine x_qe (q_ld rfl Tryz.isAgg3 rfl) rfl rfl rfl (by repeat (first | exact List.nil_sublist _ | exact List.Sublist.refl _ | exact List.sublist_append_right _ _ | apply List.Sublist.cons_cons | apply List.Sublist.cons | refine List.Sublist.trans ?_ (List.sublist_append_right _ _))) ?_
      refine x_qe (q_neq rfl rfl) rfl rfl rfl (by repeat (first | exact List.nil_sublist _ | exact List.Sublist.refl _ | exact List.sublist_append_right _ _ | apply List.Sublist.cons_cons | apply List.Sublist.cons | refine List.Sublist.trans ?_ (List.sublist_append_right _ _))) ?_
      refine x_qe (q_pick rfl rfl) rfl rfl rfl (by repeat (first | exact List.nil_sublist _ | exact List.Sublist.refl _ | exact List.sublist_append_right _ _ | apply List.Sublist.cons_cons | apply List.Sublist.cons | refine List.Sublist.trans ?_ (List.sublist_append_right _ _))) ?_
      refine x_qe (q_as rfl) rfl rfl rfl (by repeat (first | exact List.nil_sublist _ | exact List.Sublist.refl _ | exact List.sublist_append_right _ _ | apply List.Sublist.cons_cons | apply List.Sublist.cons | refine List.Sublist.trans ?_ (List.sublist_append_right _ _))) ?_
      refine gx_nil ?_
      refine tn ?_
      refine gc_if rfl (fun h4 => ?_) (fun h4 => ?_)
      · refine gc_seq ?_
        refine gc_region ?_
        refine sq (q_as rfl) rfl rfl ?_
        refine sq (q_as rfl) rfl rfl ?_
        refine go_nil ?_
        refine tn ?_
        refine gc_ret ?_
        refine br (tr ?_)
        refine ret_2 (.inl rfl) rfl rfl rfl ?_
        refine rsX [p.l] ⟨rfl, ?_⟩
        first | (simp_all [hearB]; done) | (simp [hearB, *]; done)
      · refine gc_seq ?_
        refine gc_region ?_
        refine sq (q_fa rfl Tryz.runUnderlying41 rfl Tryz.sizeOf3) rfl rfl ?_
        refine sq (q_ld rfl Tryz.isAgg3 rfl) rfl rfl ?_
        refine sq (q_eql rfl rfl) rfl rfl ?_
        refine sq (q_as rfl) rfl rfl ?_
        refine go_nil ?_
        refine tn ?_
        refine gc_if rfl (fun h5 => ?_) (fun h5 => ?_)
        · refine gc_seq ?_
          refine gc_seq ?_
          refine gc_draw (ord := [(0, true), (1, true), (2, false), (3, false), (4, false), (5, false), (6, false)]) [] mixed (by kernel_rfl) rfl (by kernel_rfl) (.cons_cons _ (.cons_cons _ (.slnil))) ?_
          refine gx_q (q_fa rfl Tryz.runUnderlying41 rfl Tryz.sizeOf3) rfl rfl rfl ?_
          refine gx_q (q_ld rfl Tryz.isAgg3 rfl) rfl rfl rfl ?_
          refine x_qe (q_mv rfl) rfl rfl rfl (by repeat (first | exact List.nil_sublist _ | exact List.Sublist.refl _ | exact List.sublist_append_right _ _ | apply List.Sublist.cons_cons | apply List.Sublist.cons | refine List.Sublist.trans ?_ (List.sublist_append_right _ _))) ?_
          refine x_qe (q_nc rfl) rfl rfl rfl (by repeat (first | exact List.nil_sublist _ | exact List.Sublist.refl _ | exact List.sublist_append_right _ _ | apply List.Sublist.cons_cons | apply List.Sublist.cons | refine List.Sublist.trans ?_ (List.sublist_append_right _ _))) ?_
          refine x_qe (q_fa rfl Tryz.runUnderlying129 rfl Tryz.sizeOf3) rfl rfl rfl (by repeat (first | exact List.nil_sublist _ | exact List.Sublist.refl _ | exact List.sublist_append_right _ _ | apply List.Sublist.cons_cons | apply List.Sublist.cons | refine List.Sublist.trans ?_ (List.sublist_append_right _ _))) ?_
          refine x_qe (q_ld rfl Tryz.isAgg3 rfl) rfl rfl rfl (by repeat (first | exact List.nil_sublist _ | exact List.Sublist.refl _ | exact List.sublist_append_right _ _ | apply List.Sublist.cons_cons | apply List.Sublist.cons | refine List.Sublist.trans ?_ (List.sublist_append_right _ _))) ?_
          refine x_qe (q_neq rfl rfl) rfl rfl rfl (by repeat (first | exact List.nil_sublist _ | exact List.Sublist.refl _ | exact List.sublist_append_right _ _ | apply List.Sublist.cons_cons | apply List.Sublist.cons | refine List.Sublist.trans ?_ (List.sublist_append_right _ _))) ?_
          refine gx_nil ?_
          refine tn ?_
          refine gc_if rfl (fun h6 => ?_) (fun h6 => ?_)
          · refine gc_draw (ord := [(0, true), (1, true), (2, true), (3, true), (4, true), (5, true), (6, true), (7, true), (8, true), (9, true), (10, false), (11, false), (12, false)]) [] mixed (by kernel_rfl) rfl (by kernel_rfl) (.cons_cons _ (List.nil_sublist _)) ?_
            refine gx_q (q_mv rfl) rfl rfl rfl ?_
            refine gx_q (q_nc rfl) rfl rfl rfl ?_
            refine gx_q (q_fa rfl Tryz.runUnderlying129 rfl Tryz.sizeOf127) rfl rfl rfl ?_
            refine gx_q (q_ld rfl Tryz.isAgg127 rfl) rfl rfl rfl ?_
            refine gx_q (q_fa rfl Tryz.runUnderlying41 rfl Tryz.sizeOf3) rfl rfl rfl ?_
            refine gx_q (q_ld rfl Tryz.isAgg3 rfl) rfl rfl rfl ?_
            refine gx_q (q_fa rfl Tryz.runUnderlying41 rfl Tryz.sizeOf2) rfl rfl rfl ?_
            refine gx_q (q_ld rfl Tryz.isAgg2 rfl) rfl rfl rfl ?_
            refine gx_q (q_fa rfl Tryz.runUnderlying41 rfl Tryz.sizeOf2) rfl rfl rfl ?_
            refine gx_q (q_ld rfl Tryz.isAgg2 rfl) rfl rfl rfl ?_
            refine x_qe (q_fa rfl Tryz.runUnderlying41 rfl Tryz.sizeOf4) rfl rfl rfl (by repeat (first | exact List.nil_sublist _ | exact List.Sublist.refl _ | exact List.sublist_append_right _ _ | apply List.Sublist.cons_cons | apply List.Sublist.cons | refine List.Sublist.trans ?_ (List.sublist_append_right _ _))) ?_
            refine x_qe (q_ld rfl Tryz.isAgg4 rfl) rfl rfl rfl (by repeat (first | exact List.nil_sublist _ | exact List.Sublist.refl _ | exact List.sublist_append_right _ _ | apply List.Sublist.cons_cons | apply List.Sublist.cons | refine List.Sublist.trans ?_ (List.sublist_append_right _ _))) ?_
            refine x_call (e_call (hear_spec p.l x _ _ _ _) rfl en49) rfl rfl rfl (by repeat (first | exact List.nil_sublist _ | exact List.Sublist.refl _ | exact List.sublist_append_right _ _ | apply List.Sublist.cons_cons | apply List.Sublist.cons | refine List.Sublist.trans ?_ (List.sublist_append_right _ _))) ?_
            rintro _ _ ⟨rfl, rfl⟩
            first | refine tapp1 ?_ | refine xapp1 ?_ | refine app1 ?_
            refine gx_nil ?_
            refine tn ?_
            refine gc_seq ?_
            refine gc_region ?_
            refine sq (q_as rfl) rfl rfl ?_
            refine sq (q_as rfl) rfl rfl ?_
            refine go_nil ?_
            refine tn ?_
            refine gc_ret ?_
            refine br (tr ?_)
            refine ret_2 (.inl rfl) rfl rfl rfl ?_
            refine rsX [p.l] ⟨rfl, ?_⟩
            first | (simp_all [hearB]; done) | (simp [hearB, *]; done)
          · refine gc_skip ?_
            refine tn ?_
            refine gc_seq ?_
            refine gc_region ?_
            refine sq (q_as rfl) rfl rfl ?_
            refine sq (q_as rfl) rfl rfl ?_
            refine go_nil ?_
            refine tn ?_
            refine gc_ret ?_
            refine br (tr ?_)
            refine ret_2 (.inl rfl) rfl rfl rfl ?_
            refine rsX [p.l] ⟨rfl, ?_⟩
            first | (simp_all [hearB]; done) | (simp [hearB, *]; done)
        · refine gc_seq ?_
          exfalso; simp_all

set_option maxRecDepth 4000 in
set_option maxHeartbeats 2000000 in
theorem nalive_spec (np : Nat) (p : NodeP) (nm : NodeM) (x : Tab) :
    Spec Tryz.prog 12 [pt np] [] [(np, NodeM.o 129 p nm), (p.l, Tab.o 163 x)] (fun v L => if nm.down then v = .slice none 0 0 ∧ L = [] else ∃ s : Sli, SlI s x.alive ∧ v = s.v ∧ L = s.L 3) := by
  refine spec_of Tryz.func12 rfl Tryz.ntmps12 (by simp) fun w0 hb => ?_
  refine gc_seq ?_
  refine gc_region ?_
  refine sq (q_as rfl) rfl rfl ?_
  refine go_nil ?_
  refine tn ?_
  refine gc_seq ?_
  refine gc_seq ?_
  refine gc_region ?_
  refine sq (q_mv rfl) rfl rfl ?_
  refine sq (q_nc rfl) rfl rfl ?_
  refine sq (q_fa rfl Tryz.runUnderlying129 rfl Tryz.sizeOf4) rfl rfl ?_
  refine sq (q_ld rfl Tryz.isAgg4 rfl) rfl rfl ?_
  refine go_nil ?_
  refine tn ?_
  refine gc_if rfl (fun h1 => ?_) (fun h1 => ?_)
  · refine gc_seq ?_
    refine gc_region ?_
    refine sq (q_as rfl) rfl rfl ?_
    refine go_nil ?_
    refine tn ?_
    refine gc_ret ?_
    refine tr ?_
    refine ret_1 (.inl rfl) rfl rfl ?_
    first | (refine rsX [] ?_; simp_all; done) | (refine rsY (A := Sli.L 3 Sli.none) [] ?_; rw [if_neg (by simp_all)]; exact ⟨Sli.none, by assumption, rfl, rfl⟩)
  · refine gc_skip ?_
    refine tn ?_
    refine gc_seq ?_
    refine gc_region ?_
    refine sq (q_mv rfl) rfl rfl ?_
    refine sq (q_nc rfl) rfl rfl ?_
    refine sq (q_fa rfl Tryz.runUnderlying129 rfl Tryz.sizeOf127) rfl rfl ?_
    refine sq (q_ld rfl Tryz.isAgg127 rfl) rfl rfl ?_
    refine s_call (e_call (alive_spec p.l x) rfl en59) rfl rfl ?_
    rintro _ _ ⟨s2, hs2, rfl, rfl⟩
    refine sq (q_as rfl) rfl rfl ?_
    refine go_nil ?_
    refine tn ?_
    refine gc_ret ?_
    refine ret_1 (.inl rfl) rfl rfl ?_
    first | (refine rsX [] ?_; simp_all; done) | (refine rsY (A := Sli.L 3 s2) [] ?_; rw [if_neg (by simp_all)]; exact ⟨s2, by assumption, rfl, rfl⟩)

set_option maxRecDepth 4000 in
set_option maxHeartbeats 2000000 in
theorem nseen_spec (np : Nat) (p : NodeP) (nm : NodeM) (x : Tab) (g : GateM) (st : StoreM) (b : Nat) :
    Spec Tryz.prog 144 [pt np] [] [(np, NodeM.o 129 p nm), (p.l, Tab.o 163 x), (p.g, GateM.o 205 g), (p.s, StoreM.o 207 b st)] (fun v L => v = i6 (seenN st x g) ∧ L = []) := by
  refine spec_of Tryz.func144 rfl Tryz.ntmps144 (by simp) fun w0 hb => ?_
  refine gc_seq ?_
  refine gc_region ?_
  refine sq (q_as rfl) rfl rfl ?_
  refine go_nil ?_
  refine tn ?_
  refine gc_seq ?_
  refine gc_draw (ord := [(0, true), (1, true), (2, true), (3, true), (6, true), (7, true), (8, true), (9, true), (11, true), (12, true), (13, true), (14, true), (4, false), (5, true), (10, false), (15, false), (16, false), (17, false)]) [18] mixed (by kernel_rfl) rfl (by kernel_rfl) (.slnil) ?_
  refine gx_q (q_mv rfl) rfl rfl rfl ?_
  refine gx_q (q_nc rfl) rfl rfl rfl ?_
  refine gx_q (q_fa rfl Tryz.runUnderlying129 rfl Tryz.sizeOf123) rfl rfl rfl ?_
  refine gx_q (q_ld rfl Tryz.isAgg123 rfl) rfl rfl rfl ?_
  refine gx_q (q_mv rfl) rfl rfl rfl ?_
  refine gx_q (q_nc rfl) rfl rfl rfl ?_
  refine gx_q (q_fa rfl Tryz.runUnderlying129 rfl Tryz.sizeOf127) rfl rfl rfl ?_
  refine gx_q (q_ld rfl Tryz.isAgg127 rfl) rfl rfl rfl ?_
  refine gx_q (q_mv rfl) rfl rfl rfl ?_
  refine gx_q (q_nc rfl) rfl rfl rfl ?_
  refine gx_q (q_fa rfl Tryz.runUnderlying129 rfl Tryz.sizeOf124) rfl rfl rfl ?_
  refine gx_q (q_ld rfl Tryz.isAgg124 rfl) rfl rfl rfl ?_
  refine x_callE (e_call (srecord_spec p.s b st) rfl en52) rfl rfl rfl (by repeat (first | exact List.nil_sublist _ | exact List.Sublist.refl _ | exact List.sublist_append_right _ _ | apply List.Sublist.cons_cons | apply List.Sublist.cons | refine List.Sublist.trans ?_ (List.sublist_append_right _ _))) ?_
  refine gx_q (q_fls rfl Tryz.runUnderlying134 rfl Tryz.isAgg2 rfl) rfl rfl rfl ?_
  refine x_callE (e_call (seen_spec p.l x) rfl en231) rfl rfl rfl (by repeat (first | exact List.nil_sublist _ | exact List.Sublist.refl _ | exact List.sublist_append_right _ _ | apply List.Sublist.cons_cons | apply List.Sublist.cons | refine List.Sublist.trans ?_ (List.sublist_append_right _ _))) ?_
  refine x_callE (e_call (gepoch_spec p.g g) rfl en51) rfl rfl rfl (by repeat (first | exact List.nil_sublist _ | exact List.Sublist.refl _ | exact List.sublist_append_right _ _ | apply List.Sublist.cons_cons | apply List.Sublist.cons | refine List.Sublist.trans ?_ (List.sublist_append_right _ _))) ?_
  refine x_qe (q_fls rfl Tryz.runUnderlying35 rfl Tryz.isAgg2 rfl) rfl rfl rfl (by repeat (first | exact List.nil_sublist _ | exact List.Sublist.refl _ | exact List.sublist_append_right _ _ | apply List.Sublist.cons_cons | apply List.Sublist.cons | refine List.Sublist.trans ?_ (List.sublist_append_right _ _))) ?_
  refine x_qe (q_max3 rfl rfl rfl) rfl rfl rfl (by repeat (first | exact List.nil_sublist _ | exact List.Sublist.refl _ | exact List.sublist_append_right _ _ | apply List.Sublist.cons_cons | apply List.Sublist.cons | refine List.Sublist.trans ?_ (List.sublist_append_right _ _))) ?_
  refine gx_tail ?_
  refine t_q (q_as rfl) rfl rfl rfl ?_
  refine gt_nil ?_
  refine tn ?_
  refine gc_ret ?_
  refine ret_1 (.inl rfl) rfl rfl ?_
  exact rsE (by first | rfl | (simp_all [seenN]; done) | (simp_all [seenN]; rfl) | (simp_all [seenN]; omega) | (simp_all [seenN]; intros; omega) | (simp_all [seenN]; (repeat' split) <;> first | rfl | (simp_all; done) | omega | (exfalso; omega)) | (simp only [seenN]; (repeat' split) <;> first | (simp_all; done) | (simp_all; omega) | omega | (exfalso; simp_all; omega)) | (simp_all; (simp only [seenN]; (repeat' split) <;> first | (simp_all; done) | (simp_all; omega) | omega | (exfalso; simp_all; omega))))

set_option maxRecDepth 4000 in
set_option maxHeartbeats 2000000 in
theorem nin_spec (np : Nat) (p : NodeP) (nm : NodeM) (g : GateM) :
    Spec Tryz.prog 145 [pt np] [] [(np, NodeM.o 129 p nm), (p.g, GateM.o 205 g)] (fun v L => v = .bool (!decide (g.e.count = 0)) ∧ L = []) := by
  refine spec_of Tryz.func145 rfl Tryz.ntmps145 (by simp) fun w0 hb => ?_
  refine gc_seq ?_
  refine gc_region ?_
  refine sq (q_as rfl) rfl rfl ?_
  refine go_nil ?_
  refine tn ?_
  refine gc_seq ?_
  refine gc_region ?_
  refine sq (q_mv rfl) rfl rfl ?_
  refine sq (q_nc rfl) rfl rfl ?_
  refine sq (q_fa rfl Tryz.runUnderlying129 rfl Tryz.sizeOf124) rfl rfl ?_
  refine sq (q_ld rfl Tryz.isAgg124 rfl) rfl rfl ?_
  refine s_callE (e_call (gepoch_spec p.g g) rfl en51) rfl rfl ?_
  refine s_callE (e_call (enone_spec g.e) rfl en232) rfl rfl ?_
  refine sq (q_not rfl) rfl rfl ?_
  refine sq (q_as rfl) rfl rfl ?_
  refine go_nil ?_
  refine tn ?_
  refine gc_ret ?_
  refine ret_1 (.inl rfl) rfl rfl ?_
  exact rsE (by first | rfl | (simp_all; done) | (simp_all; rfl) | (simp_all; omega) | (simp_all; intros; omega) | (simp_all; (repeat' split) <;> first | rfl | (simp_all; done) | omega | (exfalso; omega)))

set_option maxRecDepth 4000 in
set_option maxHeartbeats 2000000 in
theorem nfloor_spec (np : Nat) (p : NodeP) (nm : NodeM)  :
    Spec Tryz.prog 72 [pt np] [] [(np, NodeM.o 129 p nm)] (fun v L => v = i6 (floorAt nm.h nm.c.s.pos) ∧ L = []) := by
  refine spec_of Tryz.func72 rfl Tryz.ntmps72 (by simp) fun w0 hb => ?_
  refine gc_seq ?_
  refine gc_region ?_
  refine sq (q_as rfl) rfl rfl ?_
  refine go_nil ?_
  refine tn ?_
  refine gc_seq ?_
  refine gc_draw (ord := [(0, true), (1, true), (2, true), (3, true), (4, false), (5, false), (6, false), (7, false), (8, false), (9, false), (10, false)]) [11] mixed (by kernel_rfl) rfl (by kernel_rfl) (.slnil) ?_
  refine gx_q (q_mv rfl) rfl rfl rfl ?_
  refine gx_q (q_nc rfl) rfl rfl rfl ?_
  refine gx_q (q_fa rfl Tryz.runUnderlying129 rfl Tryz.sizeOf29) rfl rfl rfl ?_
  refine gx_q (q_lda rfl Tryz.isAgg29 Tryz.sizeOf29 rfl) rfl rfl rfl ?_
  refine x_qe (q_mv rfl) rfl rfl rfl (by repeat (first | exact List.nil_sublist _ | exact List.Sublist.refl _ | exact List.sublist_append_right _ _ | apply List.Sublist.cons_cons | apply List.Sublist.cons | refine List.Sublist.trans ?_ (List.sublist_append_right _ _))) ?_
  refine x_qe (q_nc rfl) rfl rfl rfl (by repeat (first | exact List.nil_sublist _ | exact List.Sublist.refl _ | exact List.sublist_append_right _ _ | apply List.Sublist.cons_cons | apply List.Sublist.cons | refine List.Sublist.trans ?_ (List.sublist_append_right _ _))) ?_
  refine x_qe (q_fa rfl Tryz.runUnderlying129 rfl Tryz.sizeOf64) rfl rfl rfl (by repeat (first | exact List.nil_sublist _ | exact List.Sublist.refl _ | exact List.sublist_append_right _ _ | apply List.Sublist.cons_cons | apply List.Sublist.cons | refine List.Sublist.trans ?_ (List.sublist_append_right _ _))) ?_
  refine x_qe (q_fa rfl Tryz.runUnderlying64 rfl Tryz.sizeOf62) rfl rfl rfl (by repeat (first | exact List.nil_sublist _ | exact List.Sublist.refl _ | exact List.sublist_append_right _ _ | apply List.Sublist.cons_cons | apply List.Sublist.cons | refine List.Sublist.trans ?_ (List.sublist_append_right _ _))) ?_
  refine x_qe (q_fa rfl Tryz.runUnderlying62 rfl Tryz.sizeOf3) rfl rfl rfl (by repeat (first | exact List.nil_sublist _ | exact List.Sublist.refl _ | exact List.sublist_append_right _ _ | apply List.Sublist.cons_cons | apply List.Sublist.cons | refine List.Sublist.trans ?_ (List.sublist_append_right _ _))) ?_
  refine x_qe (q_ld rfl Tryz.isAgg3 rfl) rfl rfl rfl (by repeat (first | exact List.nil_sublist _ | exact List.Sublist.refl _ | exact List.sublist_append_right _ _ | apply List.Sublist.cons_cons | apply List.Sublist.cons | refine List.Sublist.trans ?_ (List.sublist_append_right _ _))) ?_
  refine x_callE (e_call (floor_spec nm.h _) rfl en162) rfl rfl rfl (by repeat (first | exact List.nil_sublist _ | exact List.Sublist.refl _ | exact List.sublist_append_right _ _ | apply List.Sublist.cons_cons | apply List.Sublist.cons | refine List.Sublist.trans ?_ (List.sublist_append_right _ _))) ?_
  refine gx_tail ?_
  refine t_q (q_as rfl) rfl rfl rfl ?_
  refine gt_nil ?_
  refine tn ?_
  refine gc_ret ?_
  refine ret_1 (.inl rfl) rfl rfl ?_
  exact rsE (by first | rfl | (simp_all; done) | (simp_all; rfl) | (simp_all; omega) | (simp_all; intros; omega) | (simp_all; (repeat' split) <;> first | rfl | (simp_all; done) | omega | (exfalso; omega)))
end Go.LL
