/- Part of a claim: contracts of the program's functions, walked op by op. -/
import Derived.Test.YthabegpfnfbmaaaGreatDoorA1
import Derived.Test.YthabegpfnfbmaaaGreatDoorSH
set_option linter.unusedSimpArgs false
set_option linter.unusedVariables false
namespace Go.LL
open Go.Proofs
abbrev dbt : List Chunk := [(13, .cells dbCells.toArray 432 (0, 0))]
theorem spec_pure {P : Program} {f : FuncId} {args : List Value} {v : Value} {RO : List Chunk} (h : ∀ w, Calls P f args.toArray w fun e w' => e = .returned v ∧ w' = w) : Spec P f args [] RO (fun u L => u = v ∧ L = []) := fun w _ _ => (h w).mono fun _ _ ⟨he, hw⟩ => ⟨v, [], he, ⟨rfl, rfl⟩, by subst hw; exact ⟨⟨by simp [bks], by simp⟩, Ext.refl _ _, by simp⟩⟩

set_option maxRecDepth 4000 in
set_option maxHeartbeats 2000000 in
theorem fl_spec (n : Int) :
    Spec Tryz.prog 275 [i6 n] [] [] (fun v L => v = .bool (fl n) ∧ L = []) := by
  refine spec_of Tryz.func275 rfl Tryz.ntmps275 (by simp) fun w0 hb => ?_
  refine gc_seq ?_
  refine gc_region ?_
  refine sq (q_as rfl) rfl rfl ?_
  refine go_nil ?_
  refine tn ?_
  refine gc_seq ?_
  refine gc_region ?_
  refine sq (q_mv rfl) rfl rfl ?_
  refine sq (q_geq rfl rfl) rfl rfl ?_
  refine sq (q_mv rfl) rfl rfl ?_
  refine bsp (fun h1 => ?_) (fun h1 => ?_)
  · refine sq (q_mv rfl) rfl rfl ?_
    refine sq (q_lss rfl rfl) rfl rfl ?_
    refine sq (q_pick rfl rfl) rfl rfl ?_
    refine sq (q_as rfl) rfl rfl ?_
    refine go_nil ?_
    refine tn ?_
    refine gc_ret ?_
    refine ret_1 (.inl rfl) rfl rfl ?_
    exact rsE (by first | rfl | (simp_all [fl]; done) | (simp_all [fl]; rfl) | (simp_all [fl]; omega) | (simp_all [fl]; intros; omega) | (simp_all [fl]; (repeat' split) <;> first | rfl | (simp_all; done) | omega | (exfalso; omega)) | (simp only [fl]; (repeat' split) <;> first | (simp_all; done) | (simp_all; omega) | omega | (exfalso; simp_all; omega)) | (simp_all; (simp only [fl]; (repeat' split) <;> first | (simp_all; done) | (simp_all; omega) | omega | (exfalso; simp_all; omega))))
  · refine sskip rfl rfl ?_
    refine sskip rfl rfl ?_
    refine sq (q_pick rfl rfl) rfl rfl ?_
    refine sq (q_as rfl) rfl rfl ?_
    refine go_nil ?_
    refine tn ?_
    refine gc_ret ?_
    refine ret_1 (.inl rfl) rfl rfl ?_
    exact rsE (by first | rfl | (simp_all [fl]; done) | (simp_all [fl]; rfl) | (simp_all [fl]; omega) | (simp_all [fl]; intros; omega) | (simp_all [fl]; (repeat' split) <;> first | rfl | (simp_all; done) | omega | (exfalso; omega)) | (simp only [fl]; (repeat' split) <;> first | (simp_all; done) | (simp_all; omega) | omega | (exfalso; simp_all; omega)) | (simp_all; (simp only [fl]; (repeat' split) <;> first | (simp_all; done) | (simp_all; omega) | omega | (exfalso; simp_all; omega))))

set_option maxRecDepth 4000 in
set_option maxHeartbeats 2000000 in
theorem is_spec (b : BitVec 64) (n : Int) :
    Spec Tryz.prog 230 [uv b, i6 n] [] [] (fun v L => v = .bool (bit b n) ∧ L = []) := by
  refine spec_of Tryz.func230 rfl Tryz.ntmps230 (by simp) fun w0 hb => ?_
  refine gc_seq ?_
  refine gc_region ?_
  refine sq (q_as rfl) rfl rfl ?_
  refine go_nil ?_
  refine tn ?_
  refine gc_seq ?_
  refine gc_region ?_
  refine sq (q_mv rfl) rfl rfl ?_
  refine s_callE (e_call (fl_spec _) rfl en275) rfl rfl ?_
  refine sq (q_mv rfl) rfl rfl ?_
  refine bsp (fun h1 => ?_) (fun h1 => ?_)
  · refine sq (q_mv rfl) rfl rfl ?_
    refine sq (q_mv rfl) rfl rfl ?_
    refine sq (q_shrU rfl rfl (by (first | omega | (simp_all [fl]; done) | (simp_all [fl]; omega)))) rfl rfl ?_
    refine sq (q_andU (b := 1#64) rfl rfl) rfl rfl ?_
    refine sq (q_eqlU (b := 1#64) rfl rfl) rfl rfl ?_
    refine sq (q_pick rfl rfl) rfl rfl ?_
    refine sq (q_as rfl) rfl rfl ?_
    refine go_nil ?_
    refine tn ?_
    refine gc_ret ?_
    refine ret_1 (.inl rfl) rfl rfl ?_
    exact rsE (by first | rfl | (simp_all [bit]; done) | (simp_all [bit]; rfl) | (simp_all [bit]; omega) | (simp_all [bit]; intros; omega) | (simp_all [bit]; (repeat' split) <;> first | rfl | (simp_all; done) | omega | (exfalso; omega)) | (simp only [bit]; (repeat' split) <;> first | (simp_all; done) | (simp_all; omega) | omega | (exfalso; simp_all; omega)) | (simp_all; (simp only [bit]; (repeat' split) <;> first | (simp_all; done) | (simp_all; omega) | omega | (exfalso; simp_all; omega))))
  · refine sskip rfl rfl ?_
    refine sskip rfl rfl ?_
    refine sskip rfl rfl ?_
    refine sskip rfl rfl ?_
    refine sskip rfl rfl ?_
    refine sq (q_pick rfl rfl) rfl rfl ?_
    refine sq (q_as rfl) rfl rfl ?_
    refine go_nil ?_
    refine tn ?_
    refine gc_ret ?_
    refine ret_1 (.inl rfl) rfl rfl ?_
    exact rsE (by first | rfl | (simp_all [bit]; done) | (simp_all [bit]; rfl) | (simp_all [bit]; omega) | (simp_all [bit]; intros; omega) | (simp_all [bit]; (repeat' split) <;> first | rfl | (simp_all; done) | omega | (exfalso; omega)) | (simp only [bit]; (repeat' split) <;> first | (simp_all; done) | (simp_all; omega) | omega | (exfalso; simp_all; omega)) | (simp_all; (simp only [bit]; (repeat' split) <;> first | (simp_all; done) | (simp_all; omega) | omega | (exfalso; simp_all; omega))))

set_option maxRecDepth 4000 in
set_option maxHeartbeats 2000000 in
theorem aat_spec (s : Stops) (n : Int) :
    Spec Tryz.prog 138 [s.v, i6 n] [] [] (fun v L => v = .bool (bit s.car n) ∧ L = []) := by
  refine spec_of Tryz.func138 rfl Tryz.ntmps138 (by simp) fun w0 hb => ?_
  refine gc_seq ?_
  refine gc_region ?_
  refine s_new (e_box rfl rfl) rfl rfl fun b1 => ?_
  refine sq (q_as rfl) rfl rfl ?_
  refine go_nil ?_
  refine tn ?_
  refine gc_seq ?_
  refine gc_region ?_
  refine sq (q_fa rfl Tryz.runUnderlying213 rfl Tryz.sizeOf211) rfl rfl ?_
  refine sq (q_ld rfl Tryz.isAgg211 rfl) rfl rfl ?_
  refine sq (q_mv rfl) rfl rfl ?_
  refine s_callE (e_call (is_spec _ _) rfl en230) rfl rfl ?_
  refine sq (q_as rfl) rfl rfl ?_
  refine go_nil ?_
  refine tn ?_
  refine gc_ret ?_
  refine ret_1 (.inl rfl) rfl rfl ?_
  exact rsE (by first | rfl | (simp_all; done) | (simp_all; rfl) | (simp_all; omega) | (simp_all; intros; omega) | (simp_all; (repeat' split) <;> first | rfl | (simp_all; done) | omega | (exfalso; omega)))

set_option maxRecDepth 4000 in
set_option maxHeartbeats 2000000 in
theorem hall_spec (s : Stops) (n d : Int) :
    Spec Tryz.prog 140 [s.v, i6 n, i6 d] [] [] (fun v L => v = .bool (s.hall n d) ∧ L = []) := by
  refine spec_of Tryz.func140 rfl Tryz.ntmps140 (by simp) fun w0 hb => ?_
  refine gc_seq ?_
  refine gc_region ?_
  refine s_new (e_box rfl rfl) rfl rfl fun b1 => ?_
  refine sq (q_as rfl) rfl rfl ?_
  refine go_nil ?_
  refine tn ?_
  refine gc_seq ?_
  refine gc_region ?_
  refine sq (q_mv rfl) rfl rfl ?_
  refine sq (q_eql rfl rfl) rfl rfl ?_
  refine sq (q_mv rfl) rfl rfl ?_
  refine bsp (fun h2 => ?_) (fun h2 => ?_)
  · refine sq (q_fa rfl Tryz.runUnderlying213 rfl Tryz.sizeOf211) rfl rfl ?_
    refine sq (q_ld rfl Tryz.isAgg211 rfl) rfl rfl ?_
    refine sq (q_mv rfl) rfl rfl ?_
    refine s_callE (e_call (is_spec _ _) rfl en230) rfl rfl ?_
    refine sq (q_pick rfl rfl) rfl rfl ?_
    refine sq (q_mv rfl) rfl rfl ?_
    refine bsp (fun h3 => ?_) (fun h3 => ?_)
    · refine sskip rfl rfl ?_
      refine sskip rfl rfl ?_
      refine sskip rfl rfl ?_
      refine sskip rfl rfl ?_
      refine sskip rfl rfl ?_
      refine sskip rfl rfl ?_
      refine sskip rfl rfl ?_
      refine sskip rfl rfl ?_
      refine sq (q_pick rfl rfl) rfl rfl ?_
      refine sq (q_as rfl) rfl rfl ?_
      refine go_nil ?_
      refine tn ?_
      refine gc_ret ?_
      refine ret_1 (.inl rfl) rfl rfl ?_
      exact rsE (by first | rfl | (simp_all [Stops.hall]; done) | (simp_all [Stops.hall]; rfl) | (simp_all [Stops.hall]; omega) | (simp_all [Stops.hall]; intros; omega) | (simp_all [Stops.hall]; (repeat' split) <;> first | rfl | (simp_all; done) | omega | (exfalso; omega)) | (simp only [Stops.hall]; (repeat' split) <;> first | (simp_all; done) | (simp_all; omega) | omega | (exfalso; simp_all; omega)) | (simp_all; (simp only [Stops.hall]; (repeat' split) <;> first | (simp_all; done) | (simp_all; omega) | omega | (exfalso; simp_all; omega))))
    · refine sq (q_mv rfl) rfl rfl ?_
      refine sq (q_eql rfl rfl) rfl rfl ?_
      refine sq (q_mv rfl) rfl rfl ?_
      refine bsp (fun h4 => ?_) (fun h4 => ?_)
      · refine sq (q_fa rfl Tryz.runUnderlying213 rfl Tryz.sizeOf211) rfl rfl ?_
        refine sq (q_ld rfl Tryz.isAgg211 rfl) rfl rfl ?_
        refine sq (q_mv rfl) rfl rfl ?_
        refine s_callE (e_call (is_spec _ _) rfl en230) rfl rfl ?_
        refine sq (q_pick rfl rfl) rfl rfl ?_
        refine sq (q_pick rfl rfl) rfl rfl ?_
        refine sq (q_as rfl) rfl rfl ?_
        refine go_nil ?_
        refine tn ?_
        refine gc_ret ?_
        refine ret_1 (.inl rfl) rfl rfl ?_
        exact rsE (by first | rfl | (simp_all [Stops.hall]; done) | (simp_all [Stops.hall]; rfl) | (simp_all [Stops.hall]; omega) | (simp_all [Stops.hall]; intros; omega) | (simp_all [Stops.hall]; (repeat' split) <;> first | rfl | (simp_all; done) | omega | (exfalso; omega)) | (simp only [Stops.hall]; (repeat' split) <;> first | (simp_all; done) | (simp_all; omega) | omega | (exfalso; simp_all; omega)) | (simp_all; (simp only [Stops.hall]; (repeat' split) <;> first | (simp_all; done) | (simp_all; omega) | omega | (exfalso; simp_all; omega))))
      · refine sskip rfl rfl ?_
        refine sskip rfl rfl ?_
        refine sskip rfl rfl ?_
        refine sskip rfl rfl ?_
        refine sq (q_pick rfl rfl) rfl rfl ?_
        refine sq (q_pick rfl rfl) rfl rfl ?_
        refine sq (q_as rfl) rfl rfl ?_
        refine go_nil ?_
        refine tn ?_
        refine gc_ret ?_
        refine ret_1 (.inl rfl) rfl rfl ?_
        exact rsE (by first | rfl | (simp_all [Stops.hall]; done) | (simp_all [Stops.hall]; rfl) | (simp_all [Stops.hall]; omega) | (simp_all [Stops.hall]; intros; omega) | (simp_all [Stops.hall]; (repeat' split) <;> first | rfl | (simp_all; done) | omega | (exfalso; omega)) | (simp only [Stops.hall]; (repeat' split) <;> first | (simp_all; done) | (simp_all; omega) | omega | (exfalso; simp_all; omega)) | (simp_all; (simp only [Stops.hall]; (repeat' split) <;> first | (simp_all; done) | (simp_all; omega) | omega | (exfalso; simp_all; omega))))
  · refine sskip rfl rfl ?_
    refine sskip rfl rfl ?_
    refine sskip rfl rfl ?_
    refine sskip rfl rfl ?_
    refine sq (q_pick rfl rfl) rfl rfl ?_
    refine sq (q_mv rfl) rfl rfl ?_
    refine sq (q_mv rfl) rfl rfl ?_
    refine sq (q_eql rfl rfl) rfl rfl ?_
    refine sq (q_mv rfl) rfl rfl ?_
    refine bsp (fun h5 => ?_) (fun h5 => ?_)
    · refine sq (q_fa rfl Tryz.runUnderlying213 rfl Tryz.sizeOf211) rfl rfl ?_
      refine sq (q_ld rfl Tryz.isAgg211 rfl) rfl rfl ?_
      refine sq (q_mv rfl) rfl rfl ?_
      refine s_callE (e_call (is_spec _ _) rfl en230) rfl rfl ?_
      refine sq (q_pick rfl rfl) rfl rfl ?_
      refine sq (q_pick rfl rfl) rfl rfl ?_
      refine sq (q_as rfl) rfl rfl ?_
      refine go_nil ?_
      refine tn ?_
      refine gc_ret ?_
      refine ret_1 (.inl rfl) rfl rfl ?_
      exact rsE (by first | rfl | (simp_all [Stops.hall]; done) | (simp_all [Stops.hall]; rfl) | (simp_all [Stops.hall]; omega) | (simp_all [Stops.hall]; intros; omega) | (simp_all [Stops.hall]; (repeat' split) <;> first | rfl | (simp_all; done) | omega | (exfalso; omega)) | (simp only [Stops.hall]; (repeat' split) <;> first | (simp_all; done) | (simp_all; omega) | omega | (exfalso; simp_all; omega)) | (simp_all; (simp only [Stops.hall]; (repeat' split) <;> first | (simp_all; done) | (simp_all; omega) | omega | (exfalso; simp_all; omega))))
    · refine sskip rfl rfl ?_
      refine sskip rfl rfl ?_
      refine sskip rfl rfl ?_
      refine sskip rfl rfl ?_
      refine sq (q_pick rfl rfl) rfl rfl ?_
      refine sq (q_pick rfl rfl) rfl rfl ?_
      refine sq (q_as rfl) rfl rfl ?_
      refine go_nil ?_
      refine tn ?_
      refine gc_ret ?_
      refine ret_1 (.inl rfl) rfl rfl ?_
      exact rsE (by first | rfl | (simp_all [Stops.hall]; done) | (simp_all [Stops.hall]; rfl) | (simp_all [Stops.hall]; omega) | (simp_all [Stops.hall]; intros; omega) | (simp_all [Stops.hall]; (repeat' split) <;> first | rfl | (simp_all; done) | omega | (exfalso; omega)) | (simp only [Stops.hall]; (repeat' split) <;> first | (simp_all; done) | (simp_all; omega) | omega | (exfalso; simp_all; omega)) | (simp_all; (simp only [Stops.hall]; (repeat' split) <;> first | (simp_all; done) | (simp_all; omega) | omega | (exfalso; simp_all; omega))))

set_option maxRecDepth 4000 in
set_option maxHeartbeats 2000000 in
theorem all_spec (s : Stops) :
    Spec Tryz.prog 382 [s.v] [] [] (fun v L => v = uv s.all ∧ L = []) := by
  refine spec_of Tryz.func382 rfl Tryz.ntmps382 (by simp) fun w0 hb => ?_
  refine gc_seq ?_
  refine gc_region ?_
  refine s_new (e_box rfl rfl) rfl rfl fun b1 => ?_
  refine sq (q_as rfl) rfl rfl ?_
  refine go_nil ?_
  refine tn ?_
  refine gc_seq ?_
  refine gc_region ?_
  refine sq (q_fa rfl Tryz.runUnderlying213 rfl Tryz.sizeOf211) rfl rfl ?_
  refine sq (q_ld rfl Tryz.isAgg211 rfl) rfl rfl ?_
  refine sq (q_fa rfl Tryz.runUnderlying213 rfl Tryz.sizeOf211) rfl rfl ?_
  refine sq (q_ld rfl Tryz.isAgg211 rfl) rfl rfl ?_
  refine sq (q_orU rfl rfl) rfl rfl ?_
  refine sq (q_fa rfl Tryz.runUnderlying213 rfl Tryz.sizeOf211) rfl rfl ?_
  refine sq (q_ld rfl Tryz.isAgg211 rfl) rfl rfl ?_
  refine sq (q_orU rfl rfl) rfl rfl ?_
  refine sq (q_as rfl) rfl rfl ?_
  refine go_nil ?_
  refine tn ?_
  refine gc_ret ?_
  refine ret_1 (.inl rfl) rfl rfl ?_
  exact rsE (by first | rfl | (simp_all [Stops.all]; done) | (simp_all [Stops.all]; rfl) | (simp_all [Stops.all]; omega) | (simp_all [Stops.all]; intros; omega) | (simp_all [Stops.all]; (repeat' split) <;> first | rfl | (simp_all; done) | omega | (exfalso; omega)) | (simp only [Stops.all]; (repeat' split) <;> first | (simp_all; done) | (simp_all; omega) | omega | (exfalso; simp_all; omega)) | (simp_all; (simp only [Stops.all]; (repeat' split) <;> first | (simp_all; done) | (simp_all; omega) | omega | (exfalso; simp_all; omega))))

set_option maxRecDepth 4000 in
set_option maxHeartbeats 2000000 in
theorem up_spec (s : Stops) (n : Int) :
    Spec Tryz.prog 366 [s.v, i6 n] [] [] (fun v L => v = uv (s.above n) ∧ L = []) := by
  refine spec_of Tryz.func366 rfl Tryz.ntmps366 (by simp) fun w0 hb => ?_
  refine gc_seq ?_
  refine gc_region ?_
  refine s_new (e_box rfl rfl) rfl rfl fun b1 => ?_
  refine sq (q_as rfl) rfl rfl ?_
  refine go_nil ?_
  refine tn ?_
  refine gc_seq ?_
  refine gc_block ?_
  refine gc_seq ?_
  refine gc_region ?_
  refine sq (q_mv rfl) rfl rfl ?_
  refine sq (q_lss rfl rfl) rfl rfl ?_
  refine sq (q_as rfl) rfl rfl ?_
  refine go_nil ?_
  refine tn ?_
  refine gc_if rfl (fun h2 => ?_) (fun h2 => ?_)
  · refine gc_seq ?_
    refine gc_region ?_
    refine sq (q_lda rfl Tryz.isAgg213 Tryz.sizeOf213 rfl) rfl rfl ?_
    refine s_callE (e_call (all_spec s) rfl en382) rfl rfl ?_
    refine sq (q_as rfl) rfl rfl ?_
    refine go_nil ?_
    refine tn ?_
    refine gc_ret ?_
    refine br (tr ?_)
    refine ret_1 (.inl rfl) rfl rfl ?_
    exact rsE (by first | rfl | (simp_all [Stops.above]; done) | (simp_all [Stops.above]; rfl) | (simp_all [Stops.above]; omega) | (simp_all [Stops.above]; intros; omega) | (simp_all [Stops.above]; (repeat' split) <;> first | rfl | (simp_all; done) | omega | (exfalso; omega)) | (simp only [Stops.above]; (repeat' split) <;> first | (simp_all; done) | (simp_all; omega) | omega | (exfalso; simp_all; omega)) | (simp_all; (simp only [Stops.above]; (repeat' split) <;> first | (simp_all; done) | (simp_all; omega) | omega | (exfalso; simp_all; omega))))
  · refine gc_seq ?_
    refine gc_region ?_
    refine sq (q_mv rfl) rfl rfl ?_
    refine sq (q_geq rfl rfl) rfl rfl ?_
    refine sq (q_as rfl) rfl rfl ?_
    refine go_nil ?_
    refine tn ?_
    refine gc_if rfl (fun h3 => ?_) (fun h3 => ?_)
    · refine gc_seq ?_
      refine gc_region ?_
      refine sq (q_as rfl) rfl rfl ?_
      refine go_nil ?_
      refine tn ?_
      refine gc_ret ?_
      refine br (tr ?_)
      refine ret_1 (.inl rfl) rfl rfl ?_
      exact rsE (by first | rfl | (simp_all [Stops.above]; done) | (simp_all [Stops.above]; rfl) | (simp_all [Stops.above]; omega) | (simp_all [Stops.above]; intros; omega) | (simp_all [Stops.above]; (repeat' split) <;> first | rfl | (simp_all; done) | omega | (exfalso; omega)) | (simp only [Stops.above]; (repeat' split) <;> first | (simp_all; done) | (simp_all; omega) | omega | (exfalso; simp_all; omega)) | (simp_all; (simp only [Stops.above]; (repeat' split) <;> first | (simp_all; done) | (simp_all; omega) | omega | (exfalso; simp_all; omega))))
    · refine gc_skip ?_
      refine bn (tn ?_)
      refine gc_seq ?_
      refine gc_region ?_
      refine sq (q_lda rfl Tryz.isAgg213 Tryz.sizeOf213 rfl) rfl rfl ?_
      refine s_callE (e_call (all_spec s) rfl en382) rfl rfl ?_
      refine sq (q_mv rfl) rfl rfl ?_
      refine sq (q_addi rfl rfl (by simp_all; omega)) rfl rfl ?_
      refine sq (q_shrU rfl rfl (by simp_all; omega)) rfl rfl ?_
      refine sq (q_mv rfl) rfl rfl ?_
      refine sq (q_addi rfl rfl (by simp_all; omega)) rfl rfl ?_
      refine sq (q_shlU rfl rfl (by simp_all; omega)) rfl rfl ?_
      refine sq (q_as rfl) rfl rfl ?_
      refine go_nil ?_
      refine tn ?_
      refine gc_ret ?_
      refine ret_1 (.inl rfl) rfl rfl ?_
      exact rsE (by first | rfl | (simp_all [Stops.above]; done) | (simp_all [Stops.above]; rfl) | (simp_all [Stops.above]; omega) | (simp_all [Stops.above]; intros; omega) | (simp_all [Stops.above]; (repeat' split) <;> first | rfl | (simp_all; done) | omega | (exfalso; omega)) | (simp only [Stops.above]; (repeat' split) <;> first | (simp_all; done) | (simp_all; omega) | omega | (exfalso; simp_all; omega)) | (simp_all; (simp only [Stops.above]; (repeat' split) <;> first | (simp_all; done) | (simp_all; omega) | omega | (exfalso; simp_all; omega))))

set_option maxRecDepth 4000 in
set_option maxHeartbeats 2000000 in
theorem down_spec (s : Stops) (n : Int) :
    Spec Tryz.prog 367 [s.v, i6 n] [] [] (fun v L => v = uv (s.below n) ∧ L = []) := by
  refine spec_of Tryz.func367 rfl Tryz.ntmps367 (by simp) fun w0 hb => ?_
  refine gc_seq ?_
  refine gc_region ?_
  refine s_new (e_box rfl rfl) rfl rfl fun b1 => ?_
  refine sq (q_as rfl) rfl rfl ?_
  refine go_nil ?_
  refine tn ?_
  refine gc_seq ?_
  refine gc_block ?_
  refine gc_seq ?_
  refine gc_region ?_
  refine sq (q_mv rfl) rfl rfl ?_
  refine sq (q_lss rfl rfl) rfl rfl ?_
  refine sq (q_as rfl) rfl rfl ?_
  refine go_nil ?_
  refine tn ?_
  refine gc_if rfl (fun h2 => ?_) (fun h2 => ?_)
  · refine gc_seq ?_
    refine gc_region ?_
    refine sq (q_as rfl) rfl rfl ?_
    refine go_nil ?_
    refine tn ?_
    refine gc_ret ?_
    refine br (tr ?_)
    refine ret_1 (.inl rfl) rfl rfl ?_
    exact rsE (by first | rfl | (simp_all [Stops.below]; done) | (simp_all [Stops.below]; rfl) | (simp_all [Stops.below]; omega) | (simp_all [Stops.below]; intros; omega) | (simp_all [Stops.below]; (repeat' split) <;> first | rfl | (simp_all; done) | omega | (exfalso; omega)) | (simp only [Stops.below]; (repeat' split) <;> first | (simp_all; done) | (simp_all; omega) | omega | (exfalso; simp_all; omega)) | (simp_all; (simp only [Stops.below]; (repeat' split) <;> first | (simp_all; done) | (simp_all; omega) | omega | (exfalso; simp_all; omega))))
  · refine gc_seq ?_
    refine gc_region ?_
    refine sq (q_mv rfl) rfl rfl ?_
    refine sq (q_geq rfl rfl) rfl rfl ?_
    refine sq (q_as rfl) rfl rfl ?_
    refine go_nil ?_
    refine tn ?_
    refine gc_if rfl (fun h3 => ?_) (fun h3 => ?_)
    · refine gc_seq ?_
      refine gc_region ?_
      refine sq (q_lda rfl Tryz.isAgg213 Tryz.sizeOf213 rfl) rfl rfl ?_
      refine s_callE (e_call (all_spec s) rfl en382) rfl rfl ?_
      refine sq (q_as rfl) rfl rfl ?_
      refine go_nil ?_
      refine tn ?_
      refine gc_ret ?_
      refine br (tr ?_)
      refine ret_1 (.inl rfl) rfl rfl ?_
      exact rsE (by first | rfl | (simp_all [Stops.below]; done) | (simp_all [Stops.below]; rfl) | (simp_all [Stops.below]; omega) | (simp_all [Stops.below]; intros; omega) | (simp_all [Stops.below]; (repeat' split) <;> first | rfl | (simp_all; done) | omega | (exfalso; omega)) | (simp only [Stops.below]; (repeat' split) <;> first | (simp_all; done) | (simp_all; omega) | omega | (exfalso; simp_all; omega)) | (simp_all; (simp only [Stops.below]; (repeat' split) <;> first | (simp_all; done) | (simp_all; omega) | omega | (exfalso; simp_all; omega))))
    · refine gc_skip ?_
      refine bn (tn ?_)
      refine gc_seq ?_
      refine gc_draw (ord := [(0, true), (2, true), (3, true), (4, true), (1, false), (5, false)]) [6] mixed (by kernel_rfl) rfl (by kernel_rfl) (.cons_cons _ (.slnil)) ?_
      refine gx_q (q_lda rfl Tryz.isAgg213 Tryz.sizeOf213 rfl) rfl rfl rfl ?_
      refine gx_q (q_mv rfl) rfl rfl rfl ?_
      refine gx_q (q_shlU (a := 1#64) rfl rfl (by simp_all)) rfl rfl rfl ?_
      refine gx_q (q_subU (b := 1#64) rfl rfl) rfl rfl rfl ?_
      refine x_callE (e_call (all_spec s) rfl en382) rfl rfl rfl (by repeat (first | exact List.nil_sublist _ | exact List.Sublist.refl _ | exact List.sublist_append_right _ _ | apply List.Sublist.cons_cons | apply List.Sublist.cons | refine List.Sublist.trans ?_ (List.sublist_append_right _ _))) ?_
      refine x_qe (q_andU rfl rfl) rfl rfl rfl (by repeat (first | exact List.nil_sublist _ | exact List.Sublist.refl _ | exact List.sublist_append_right _ _ | apply List.Sublist.cons_cons | apply List.Sublist.cons | refine List.Sublist.trans ?_ (List.sublist_append_right _ _))) ?_
      refine gx_tail ?_
      refine t_q (q_as rfl) rfl rfl rfl ?_
      refine gt_nil ?_
      refine tn ?_
      refine gc_ret ?_
      refine ret_1 (.inl rfl) rfl rfl ?_
      exact rsE (by first | rfl | (simp_all [Stops.below]; done) | (simp_all [Stops.below]; rfl) | (simp_all [Stops.below]; omega) | (simp_all [Stops.below]; intros; omega) | (simp_all [Stops.below]; (repeat' split) <;> first | rfl | (simp_all; done) | omega | (exfalso; omega)) | (simp only [Stops.below]; (repeat' split) <;> first | (simp_all; done) | (simp_all; omega) | omega | (exfalso; simp_all; omega)) | (simp_all; (simp only [Stops.below]; (repeat' split) <;> first | (simp_all; done) | (simp_all; omega) | omega | (exfalso; simp_all; omega))))

set_option maxRecDepth 4000 in
set_option maxHeartbeats 2000000 in
theorem above_spec (s : Stops) (n : Int) :
    Spec Tryz.prog 380 [s.v, i6 n] [] [] (fun v L => v = .bool (decide (s.above n ≠ 0#64)) ∧ L = []) := by
  refine spec_of Tryz.func380 rfl Tryz.ntmps380 (by simp) fun w0 hb => ?_
  refine gc_seq ?_
  refine gc_region ?_
  refine s_new (e_box rfl rfl) rfl rfl fun b1 => ?_
  refine sq (q_as rfl) rfl rfl ?_
  refine go_nil ?_
  refine tn ?_
  refine gc_seq ?_
  refine gc_region ?_
  refine sq (q_lda rfl Tryz.isAgg213 Tryz.sizeOf213 rfl) rfl rfl ?_
  refine sq (q_mv rfl) rfl rfl ?_
  refine s_callE (e_call (up_spec s _) rfl en366) rfl rfl ?_
  refine sq (q_neqU (b := 0#64) rfl rfl) rfl rfl ?_
  refine sq (q_as rfl) rfl rfl ?_
  refine go_nil ?_
  refine tn ?_
  refine gc_ret ?_
  refine ret_1 (.inl rfl) rfl rfl ?_
  exact rsE (by first | rfl | (simp_all; done) | (simp_all; rfl) | (simp_all; omega) | (simp_all; intros; omega) | (simp_all; (repeat' split) <;> first | rfl | (simp_all; done) | omega | (exfalso; omega)))

set_option maxRecDepth 4000 in
set_option maxHeartbeats 2000000 in
theorem below_spec (s : Stops) (n : Int) :
    Spec Tryz.prog 381 [s.v, i6 n] [] [] (fun v L => v = .bool (decide (s.below n ≠ 0#64)) ∧ L = []) := by
  refine spec_of Tryz.func381 rfl Tryz.ntmps381 (by simp) fun w0 hb => ?_
  refine gc_seq ?_
  refine gc_region ?_
  refine s_new (e_box rfl rfl) rfl rfl fun b1 => ?_
  refine sq (q_as rfl) rfl rfl ?_
  refine go_nil ?_
  refine tn ?_
  refine gc_seq ?_
  refine gc_region ?_
  refine sq (q_lda rfl Tryz.isAgg213 Tryz.sizeOf213 rfl) rfl rfl ?_
  refine sq (q_mv rfl) rfl rfl ?_
  refine s_callE (e_call (down_spec s _) rfl en367) rfl rfl ?_
  refine sq (q_neqU (b := 0#64) rfl rfl) rfl rfl ?_
  refine sq (q_as rfl) rfl rfl ?_
  refine go_nil ?_
  refine tn ?_
  refine gc_ret ?_
  refine ret_1 (.inl rfl) rfl rfl ?_
  exact rsE (by first | rfl | (simp_all; done) | (simp_all; rfl) | (simp_all; omega) | (simp_all; intros; omega) | (simp_all; (repeat' split) <;> first | rfl | (simp_all; done) | omega | (exfalso; omega)))

set_option maxRecDepth 4000 in
set_option maxHeartbeats 2000000 in
theorem toward_spec (s : Stops) (n d : Int) :
    Spec Tryz.prog 365 [s.v, i6 n, i6 d] [] [] (fun v L => v = .bool (s.toward n d) ∧ L = []) := by
  refine spec_of Tryz.func365 rfl Tryz.ntmps365 (by simp) fun w0 hb => ?_
  refine gc_seq ?_
  refine gc_region ?_
  refine s_new (e_box rfl rfl) rfl rfl fun b1 => ?_
  refine sq (q_as rfl) rfl rfl ?_
  refine go_nil ?_
  refine tn ?_
  refine gc_seq ?_
  refine gc_region ?_
  refine sq (q_mv rfl) rfl rfl ?_
  refine sq (q_eql rfl rfl) rfl rfl ?_
  refine sq (q_mv rfl) rfl rfl ?_
  refine bsp (fun h2 => ?_) (fun h2 => ?_)
  · refine sq (q_lda rfl Tryz.isAgg213 Tryz.sizeOf213 rfl) rfl rfl ?_
    refine sq (q_mv rfl) rfl rfl ?_
    refine s_callE (e_call (above_spec s _) rfl en380) rfl rfl ?_
    refine sq (q_pick rfl rfl) rfl rfl ?_
    refine sq (q_mv rfl) rfl rfl ?_
    refine bsp (fun h3 => ?_) (fun h3 => ?_)
    · refine sskip rfl rfl ?_
      refine sskip rfl rfl ?_
      refine sskip rfl rfl ?_
      refine sskip rfl rfl ?_
      refine sskip rfl rfl ?_
      refine sskip rfl rfl ?_
      refine sskip rfl rfl ?_
      refine sq (q_pick rfl rfl) rfl rfl ?_
      refine sq (q_as rfl) rfl rfl ?_
      refine go_nil ?_
      refine tn ?_
      refine gc_ret ?_
      refine ret_1 (.inl rfl) rfl rfl ?_
      exact rsE (by first | rfl | (simp_all [Stops.toward]; done) | (simp_all [Stops.toward]; rfl) | (simp_all [Stops.toward]; omega) | (simp_all [Stops.toward]; intros; omega) | (simp_all [Stops.toward]; (repeat' split) <;> first | rfl | (simp_all; done) | omega | (exfalso; omega)) | (simp only [Stops.toward]; (repeat' split) <;> first | (simp_all; done) | (simp_all; omega) | omega | (exfalso; simp_all; omega)) | (simp_all; (simp only [Stops.toward]; (repeat' split) <;> first | (simp_all; done) | (simp_all; omega) | omega | (exfalso; simp_all; omega))))
    · refine sq (q_mv rfl) rfl rfl ?_
      refine sq (q_eql rfl rfl) rfl rfl ?_
      refine sq (q_mv rfl) rfl rfl ?_
      refine bsp (fun h4 => ?_) (fun h4 => ?_)
      · refine sq (q_lda rfl Tryz.isAgg213 Tryz.sizeOf213 rfl) rfl rfl ?_
        refine sq (q_mv rfl) rfl rfl ?_
        refine s_callE (e_call (below_spec s _) rfl en381) rfl rfl ?_
        refine sq (q_pick rfl rfl) rfl rfl ?_
        refine sq (q_pick rfl rfl) rfl rfl ?_
        refine sq (q_as rfl) rfl rfl ?_
        refine go_nil ?_
        refine tn ?_
        refine gc_ret ?_
        refine ret_1 (.inl rfl) rfl rfl ?_
        exact rsE (by first | rfl | (simp_all [Stops.toward]; done) | (simp_all [Stops.toward]; rfl) | (simp_all [Stops.toward]; omega) | (simp_all [Stops.toward]; intros; omega) | (simp_all [Stops.toward]; (repeat' split) <;> first | rfl | (simp_all; done) | omega | (exfalso; omega)) | (simp only [Stops.toward]; (repeat' split) <;> first | (simp_all; done) | (simp_all; omega) | omega | (exfalso; simp_all; omega)) | (simp_all; (simp only [Stops.toward]; (repeat' split) <;> first | (simp_all; done) | (simp_all; omega) | omega | (exfalso; simp_all; omega))))
      · refine sskip rfl rfl ?_
        refine sskip rfl rfl ?_
        refine sskip rfl rfl ?_
        refine sq (q_pick rfl rfl) rfl rfl ?_
        refine sq (q_pick rfl rfl) rfl rfl ?_
        refine sq (q_as rfl) rfl rfl ?_
        refine go_nil ?_
        refine tn ?_
        refine gc_ret ?_
        refine ret_1 (.inl rfl) rfl rfl ?_
        exact rsE (by first | rfl | (simp_all [Stops.toward]; done) | (simp_all [Stops.toward]; rfl) | (simp_all [Stops.toward]; omega) | (simp_all [Stops.toward]; intros; omega) | (simp_all [Stops.toward]; (repeat' split) <;> first | rfl | (simp_all; done) | omega | (exfalso; omega)) | (simp only [Stops.toward]; (repeat' split) <;> first | (simp_all; done) | (simp_all; omega) | omega | (exfalso; simp_all; omega)) | (simp_all; (simp only [Stops.toward]; (repeat' split) <;> first | (simp_all; done) | (simp_all; omega) | omega | (exfalso; simp_all; omega))))
  · refine sskip rfl rfl ?_
    refine sskip rfl rfl ?_
    refine sskip rfl rfl ?_
    refine sq (q_pick rfl rfl) rfl rfl ?_
    refine sq (q_mv rfl) rfl rfl ?_
    refine sq (q_mv rfl) rfl rfl ?_
    refine sq (q_eql rfl rfl) rfl rfl ?_
    refine sq (q_mv rfl) rfl rfl ?_
    refine bsp (fun h5 => ?_) (fun h5 => ?_)
    · refine sq (q_lda rfl Tryz.isAgg213 Tryz.sizeOf213 rfl) rfl rfl ?_
      refine sq (q_mv rfl) rfl rfl ?_
      refine s_callE (e_call (below_spec s _) rfl en381) rfl rfl ?_
      refine sq (q_pick rfl rfl) rfl rfl ?_
      refine sq (q_pick rfl rfl) rfl rfl ?_
      refine sq (q_as rfl) rfl rfl ?_
      refine go_nil ?_
      refine tn ?_
      refine gc_ret ?_
      refine ret_1 (.inl rfl) rfl rfl ?_
      exact rsE (by first | rfl | (simp_all [Stops.toward]; done) | (simp_all [Stops.toward]; rfl) | (simp_all [Stops.toward]; omega) | (simp_all [Stops.toward]; intros; omega) | (simp_all [Stops.toward]; (repeat' split) <;> first | rfl | (simp_all; done) | omega | (exfalso; omega)) | (simp only [Stops.toward]; (repeat' split) <;> first | (simp_all; done) | (simp_all; omega) | omega | (exfalso; simp_all; omega)) | (simp_all; (simp only [Stops.toward]; (repeat' split) <;> first | (simp_all; done) | (simp_all; omega) | omega | (exfalso; simp_all; omega))))
    · refine sskip rfl rfl ?_
      refine sskip rfl rfl ?_
      refine sskip rfl rfl ?_
      refine sq (q_pick rfl rfl) rfl rfl ?_
      refine sq (q_pick rfl rfl) rfl rfl ?_
      refine sq (q_as rfl) rfl rfl ?_
      refine go_nil ?_
      refine tn ?_
      refine gc_ret ?_
      refine ret_1 (.inl rfl) rfl rfl ?_
      exact rsE (by first | rfl | (simp_all [Stops.toward]; done) | (simp_all [Stops.toward]; rfl) | (simp_all [Stops.toward]; omega) | (simp_all [Stops.toward]; intros; omega) | (simp_all [Stops.toward]; (repeat' split) <;> first | rfl | (simp_all; done) | omega | (exfalso; omega)) | (simp only [Stops.toward]; (repeat' split) <;> first | (simp_all; done) | (simp_all; omega) | omega | (exfalso; simp_all; omega)) | (simp_all; (simp only [Stops.toward]; (repeat' split) <;> first | (simp_all; done) | (simp_all; omega) | omega | (exfalso; simp_all; omega))))

set_option maxRecDepth 4000 in
set_option maxHeartbeats 2000000 in
theorem put_spec (s : Stops) (x d : Int) :
    Spec Tryz.prog 276 [s.v, .agg #[i6 x, i6 d]] [] [] (fun v L => v = (s.put x d).v ∧ L = []) := by
  refine spec_of Tryz.func276 rfl Tryz.ntmps276 (by simp) fun w0 hb => ?_
  refine gc_seq ?_
  refine gc_region ?_
  refine s_new (e_box rfl rfl) rfl rfl fun b1 => ?_
  refine s_new (e_box rfl rfl) rfl rfl fun b2 => ?_
  refine s_new (e_alloc Tryz.zeroValue213 rfl) rfl rfl fun b3 => ?_
  refine go_nil ?_
  refine tn ?_
  refine gc_seq ?_
  refine gc_block ?_
  refine gc_seq ?_
  refine gc_region ?_
  refine sq (q_fa rfl Tryz.runUnderlying70 rfl Tryz.sizeOf3) rfl rfl ?_
  refine sq (q_ld rfl Tryz.isAgg3 rfl) rfl rfl ?_
  refine s_callE (e_call (fl_spec _) rfl en275) rfl rfl ?_
  refine sq (q_not rfl) rfl rfl ?_
  refine sq (q_as rfl) rfl rfl ?_
  refine go_nil ?_
  refine tn ?_
  refine gc_if rfl (fun h4 => ?_) (fun h4 => ?_)
  · refine gc_skip ?_
    refine bn (tn ?_)
    refine gc_seq ?_
    refine gc_region ?_
    refine sq (q_lda rfl Tryz.isAgg213 Tryz.sizeOf213 rfl) rfl rfl ?_
    refine s_st (e_st rfl rfl Tryz.sizeOf213 rfl rfl rfl rfl) rfl rfl ?_
    refine go_nil ?_
    refine tn ?_
    refine gc_ret ?_
    refine ret_c (.inl rfl) rfl rfl Tryz.isAgg213 Tryz.sizeOf213 rfl ?_
    exact rsE (by first | rfl | (simp_all [Stops.put]; done) | (simp_all [Stops.put]; rfl) | (simp_all [Stops.put]; omega) | (simp_all [Stops.put]; intros; omega) | (simp_all [Stops.put]; (repeat' split) <;> first | rfl | (simp_all; done) | omega | (exfalso; omega)) | (simp only [Stops.put]; (repeat' split) <;> first | (simp_all; done) | (simp_all; omega) | omega | (exfalso; simp_all; omega)) | (simp_all; (simp only [Stops.put]; (repeat' split) <;> first | (simp_all; done) | (simp_all; omega) | omega | (exfalso; simp_all; omega))))
  · refine gc_seq ?_
    refine gc_region ?_
    refine sq (q_fa rfl Tryz.runUnderlying70 rfl Tryz.sizeOf3) rfl rfl ?_
    refine sq (q_ld rfl Tryz.isAgg3 rfl) rfl rfl ?_
    refine sq (q_eql rfl rfl) rfl rfl ?_
    refine sq (q_as rfl) rfl rfl ?_
    refine go_nil ?_
    refine tn ?_
    refine gc_if rfl (fun h5 => ?_) (fun h5 => ?_)
    · refine gc_draw (ord := [(0, true), (1, true), (2, false), (3, false), (4, false), (5, false), (6, false)]) [7] mixed (by kernel_rfl) rfl (by kernel_rfl) (.cons_cons _ (.cons_cons _ (.cons_cons _ (.slnil)))) ?_
      refine gx_q (q_fa rfl Tryz.runUnderlying213 rfl Tryz.sizeOf211) rfl rfl rfl ?_
      refine gx_q (q_ld rfl Tryz.isAgg211 rfl) rfl rfl rfl ?_
      refine x_qe (q_fa rfl Tryz.runUnderlying70 rfl Tryz.sizeOf3) rfl rfl rfl (by repeat (first | exact List.nil_sublist _ | exact List.Sublist.refl _ | exact List.sublist_append_right _ _ | apply List.Sublist.cons_cons | apply List.Sublist.cons | refine List.Sublist.trans ?_ (List.sublist_append_right _ _))) ?_
      refine x_qe (q_ld rfl Tryz.isAgg3 rfl) rfl rfl rfl (by repeat (first | exact List.nil_sublist _ | exact List.Sublist.refl _ | exact List.sublist_append_right _ _ | apply List.Sublist.cons_cons | apply List.Sublist.cons | refine List.Sublist.trans ?_ (List.sublist_append_right _ _))) ?_
      refine x_qe (q_shlU (a := 1#64) rfl rfl (by (first | omega | (simp_all [fl]; done) | (simp_all [fl]; omega)))) rfl rfl rfl (by repeat (first | exact List.nil_sublist _ | exact List.Sublist.refl _ | exact List.sublist_append_right _ _ | apply List.Sublist.cons_cons | apply List.Sublist.cons | refine List.Sublist.trans ?_ (List.sublist_append_right _ _))) ?_
      refine x_qe (q_orU rfl rfl) rfl rfl rfl (by repeat (first | exact List.nil_sublist _ | exact List.Sublist.refl _ | exact List.sublist_append_right _ _ | apply List.Sublist.cons_cons | apply List.Sublist.cons | refine List.Sublist.trans ?_ (List.sublist_append_right _ _))) ?_
      refine x_qe (q_fa rfl Tryz.runUnderlying213 rfl Tryz.sizeOf211) rfl rfl rfl (by repeat (first | exact List.nil_sublist _ | exact List.Sublist.refl _ | exact List.sublist_append_right _ _ | apply List.Sublist.cons_cons | apply List.Sublist.cons | refine List.Sublist.trans ?_ (List.sublist_append_right _ _))) ?_
      refine gx_tail ?_
      refine t_st (e_st rfl rfl Tryz.sizeOf211 rfl rfl rfl rfl) rfl rfl rfl ?_
      refine gt_nil ?_
      refine bn (tn ?_)
      refine gc_seq ?_
      refine gc_region ?_
      refine sq (q_lda rfl Tryz.isAgg213 Tryz.sizeOf213 rfl) rfl rfl ?_
      refine s_st (e_st rfl rfl Tryz.sizeOf213 rfl rfl rfl rfl) rfl rfl ?_
      refine go_nil ?_
      refine tn ?_
      refine gc_ret ?_
      refine ret_c (.inl rfl) rfl rfl Tryz.isAgg213 Tryz.sizeOf213 rfl ?_
      exact rsE (by first | rfl | (simp_all [Stops.put]; done) | (simp_all [Stops.put]; rfl) | (simp_all [Stops.put]; omega) | (simp_all [Stops.put]; intros; omega) | (simp_all [Stops.put]; (repeat' split) <;> first | rfl | (simp_all; done) | omega | (exfalso; omega)) | (simp only [Stops.put]; (repeat' split) <;> first | (simp_all; done) | (simp_all; omega) | omega | (exfalso; simp_all; omega)) | (simp_all; (simp only [Stops.put]; (repeat' split) <;> first | (simp_all; done) | (simp_all; omega) | omega | (exfalso; simp_all; omega))))
    · refine gc_seq ?_
      refine gc_region ?_
      refine sq (q_fa rfl Tryz.runUnderlying70 rfl Tryz.sizeOf3) rfl rfl ?_
      refine sq (q_ld rfl Tryz.isAgg3 rfl) rfl rfl ?_
      refine sq (q_eql rfl rfl) rfl rfl ?_
      refine sq (q_as rfl) rfl rfl ?_
      refine go_nil ?_
      refine tn ?_
      refine gc_if rfl (fun h6 => ?_) (fun h6 => ?_)
      · refine gc_draw (ord := [(0, true), (1, true), (2, false), (3, false), (4, false), (5, false), (6, false)]) [7] mixed (by kernel_rfl) rfl (by kernel_rfl) (.cons_cons _ (.cons_cons _ (.cons_cons _ (.slnil)))) ?_
        refine gx_q (q_fa rfl Tryz.runUnderlying213 rfl Tryz.sizeOf211) rfl rfl rfl ?_
        refine gx_q (q_ld rfl Tryz.isAgg211 rfl) rfl rfl rfl ?_
        refine x_qe (q_fa rfl Tryz.runUnderlying70 rfl Tryz.sizeOf3) rfl rfl rfl (by repeat (first | exact List.nil_sublist _ | exact List.Sublist.refl _ | exact List.sublist_append_right _ _ | apply List.Sublist.cons_cons | apply List.Sublist.cons | refine List.Sublist.trans ?_ (List.sublist_append_right _ _))) ?_
        refine x_qe (q_ld rfl Tryz.isAgg3 rfl) rfl rfl rfl (by repeat (first | exact List.nil_sublist _ | exact List.Sublist.refl _ | exact List.sublist_append_right _ _ | apply List.Sublist.cons_cons | apply List.Sublist.cons | refine List.Sublist.trans ?_ (List.sublist_append_right _ _))) ?_
        refine x_qe (q_shlU (a := 1#64) rfl rfl (by (first | omega | (simp_all [fl]; done) | (simp_all [fl]; omega)))) rfl rfl rfl (by repeat (first | exact List.nil_sublist _ | exact List.Sublist.refl _ | exact List.sublist_append_right _ _ | apply List.Sublist.cons_cons | apply List.Sublist.cons | refine List.Sublist.trans ?_ (List.sublist_append_right _ _))) ?_
        refine x_qe (q_orU rfl rfl) rfl rfl rfl (by repeat (first | exact List.nil_sublist _ | exact List.Sublist.refl _ | exact List.sublist_append_right _ _ | apply List.Sublist.cons_cons | apply List.Sublist.cons | refine List.Sublist.trans ?_ (List.sublist_append_right _ _))) ?_
        refine x_qe (q_fa rfl Tryz.runUnderlying213 rfl Tryz.sizeOf211) rfl rfl rfl (by repeat (first | exact List.nil_sublist _ | exact List.Sublist.refl _ | exact List.sublist_append_right _ _ | apply List.Sublist.cons_cons | apply List.Sublist.cons | refine List.Sublist.trans ?_ (List.sublist_append_right _ _))) ?_
        refine gx_tail ?_
        refine t_st (e_st rfl rfl Tryz.sizeOf211 rfl rfl rfl rfl) rfl rfl rfl ?_
        refine gt_nil ?_
        refine bn (tn ?_)
        refine gc_seq ?_
        refine gc_region ?_
        refine sq (q_lda rfl Tryz.isAgg213 Tryz.sizeOf213 rfl) rfl rfl ?_
        refine s_st (e_st rfl rfl Tryz.sizeOf213 rfl rfl rfl rfl) rfl rfl ?_
        refine go_nil ?_
        refine tn ?_
        refine gc_ret ?_
        refine ret_c (.inl rfl) rfl rfl Tryz.isAgg213 Tryz.sizeOf213 rfl ?_
        exact rsE (by first | rfl | (simp_all [Stops.put]; done) | (simp_all [Stops.put]; rfl) | (simp_all [Stops.put]; omega) | (simp_all [Stops.put]; intros; omega) | (simp_all [Stops.put]; (repeat' split) <;> first | rfl | (simp_all; done) | omega | (exfalso; omega)) | (simp only [Stops.put]; (repeat' split) <;> first | (simp_all; done) | (simp_all; omega) | omega | (exfalso; simp_all; omega)) | (simp_all; (simp only [Stops.put]; (repeat' split) <;> first | (simp_all; done) | (simp_all; omega) | omega | (exfalso; simp_all; omega))))
      · refine gc_skip ?_
        refine bn (tn ?_)
        refine gc_seq ?_
        refine gc_region ?_
        refine sq (q_lda rfl Tryz.isAgg213 Tryz.sizeOf213 rfl) rfl rfl ?_
        refine s_st (e_st rfl rfl Tryz.sizeOf213 rfl rfl rfl rfl) rfl rfl ?_
        refine go_nil ?_
        refine tn ?_
        refine gc_ret ?_
        refine ret_c (.inl rfl) rfl rfl Tryz.isAgg213 Tryz.sizeOf213 rfl ?_
        exact rsE (by first | rfl | (simp_all [Stops.put]; done) | (simp_all [Stops.put]; rfl) | (simp_all [Stops.put]; omega) | (simp_all [Stops.put]; intros; omega) | (simp_all [Stops.put]; (repeat' split) <;> first | rfl | (simp_all; done) | omega | (exfalso; omega)) | (simp only [Stops.put]; (repeat' split) <;> first | (simp_all; done) | (simp_all; omega) | omega | (exfalso; simp_all; omega)) | (simp_all; (simp only [Stops.put]; (repeat' split) <;> first | (simp_all; done) | (simp_all; omega) | omega | (exfalso; simp_all; omega))))

set_option maxRecDepth 4000 in
set_option maxHeartbeats 2000000 in
theorem tz_spec (a : BitVec 64) :
    Spec Tryz.prog 368 [uv a] [] dbt (fun v L => v = i6 (tz a) ∧ L = []) := by
  refine spec_of Tryz.func368 rfl Tryz.ntmps368 (by simp) fun w0 hb => ?_
  refine gc_seq ?_
  refine gc_region ?_
  refine sq (q_as rfl) rfl rfl ?_
  refine go_nil ?_
  refine tn ?_
  refine gc_seq ?_
  refine gc_seq ?_
  refine gc_region ?_
  refine sq (q_mv rfl) rfl rfl ?_
  refine sq (q_eqlU (b := 0#64) rfl rfl) rfl rfl ?_
  refine go_nil ?_
  refine tn ?_
  refine gc_if rfl (fun h1 => ?_) (fun h1 => ?_)
  · refine gc_seq ?_
    refine gc_region ?_
    refine sq (q_as rfl) rfl rfl ?_
    refine go_nil ?_
    refine tn ?_
    refine gc_ret ?_
    refine tr ?_
    refine ret_1 (.inl rfl) rfl rfl ?_
    exact rsE (by first | (simp_all [tz]; done) | (have := dbTab_b (dbIx a); rw [wrap64_id (by omega)]; simp_all only [tz, if_false, decide_eq_false_iff_not]))
  · refine gc_skip ?_
    refine tn ?_
    refine gc_seq ?_
    refine gc_region ?_
    refine sq (q_mv rfl) rfl rfl ?_
    refine sq (q_mv rfl) rfl rfl ?_
    refine sq (q_negU rfl) rfl rfl ?_
    refine sq (q_andU rfl rfl) rfl rfl ?_
    refine sq (q_mulU (b := 285870213051353865#64) rfl rfl) rfl rfl ?_
    refine sq (q_shrU rfl rfl (by first | decide | omega)) rfl rfl ?_
    refine sq (q_iaA rfl rfl Tryz.runUnderlying432 Tryz.sizeOf5 (dbIx_r a)) rfl rfl ?_
    refine sq (q_ld rfl Tryz.isAgg5 (dbLk a)) rfl rfl ?_
    refine sq (q_conv Tryz.runUnderlying5 Tryz.runUnderlying3 rfl) rfl rfl ?_
    refine sq (q_as rfl) rfl rfl ?_
    refine go_nil ?_
    refine tn ?_
    refine gc_ret ?_
    refine ret_1 (.inl rfl) rfl rfl ?_
    exact rsE (by first | (simp_all [tz]; done) | (have := dbTab_b (dbIx a); rw [wrap64_id (by omega)]; simp_all only [tz, if_false, decide_eq_false_iff_not]))
theorem lenU_spec (a : BitVec 64) : Spec Tryz.prog 326 [uv a] [] [] (fun v L => v = i6 (lenU a) ∧ L = []) := spec_pure fun w => Tryz.bits_Len64 _ w (by omega) (by have := a.isLt; omega)

set_option maxRecDepth 4000 in
set_option maxHeartbeats 2000000 in
theorem near_spec (s : Stops) (n : Int) :
    Spec Tryz.prog 339 [s.v, i6 n] [] dbt (fun v L => v = i6 (s.near n) ∧ L = []) := by
  refine spec_of Tryz.func339 rfl Tryz.ntmps339 (by simp) fun w0 hb => ?_
  refine gc_seq ?_
  refine gc_region ?_
  refine s_new (e_box rfl rfl) rfl rfl fun b1 => ?_
  refine sq (q_as rfl) rfl rfl ?_
  refine go_nil ?_
  refine tn ?_
  refine gc_seq ?_
  refine gc_draw (ord := [(0, true), (1, true), (3, true), (4, true), (2, false), (5, false), (6, false)]) [7] mixed (by kernel_rfl) rfl (by kernel_rfl) (.cons_cons _ (.slnil)) ?_
  refine gx_q (q_lda rfl Tryz.isAgg213 Tryz.sizeOf213 rfl) rfl rfl rfl ?_
  refine gx_q (q_mv rfl) rfl rfl rfl ?_
  refine gx_q (q_lda rfl Tryz.isAgg213 Tryz.sizeOf213 rfl) rfl rfl rfl ?_
  refine gx_q (q_mv rfl) rfl rfl rfl ?_
  refine x_callE (e_call (up_spec s _) rfl en366) rfl rfl rfl (by repeat (first | exact List.nil_sublist _ | exact List.Sublist.refl _ | exact List.sublist_append_right _ _ | apply List.Sublist.cons_cons | apply List.Sublist.cons | refine List.Sublist.trans ?_ (List.sublist_append_right _ _))) ?_
  refine x_callE (e_call (down_spec s _) rfl en367) rfl rfl rfl (by repeat (first | exact List.nil_sublist _ | exact List.Sublist.refl _ | exact List.sublist_append_right _ _ | apply List.Sublist.cons_cons | apply List.Sublist.cons | refine List.Sublist.trans ?_ (List.sublist_append_right _ _))) ?_
  refine x_qe (q_as rfl) rfl rfl rfl (by repeat (first | exact List.nil_sublist _ | exact List.Sublist.refl _ | exact List.sublist_append_right _ _ | apply List.Sublist.cons_cons | apply List.Sublist.cons | refine List.Sublist.trans ?_ (List.sublist_append_right _ _))) ?_
  refine gx_tail ?_
  refine t_q (q_as rfl) rfl rfl rfl ?_
  refine gt_nil ?_
  refine tn ?_
  refine gc_seq ?_
  refine gc_block ?_
  refine gc_seq ?_
  refine gc_region ?_
  refine sq (q_mv rfl) rfl rfl ?_
  refine sq (q_eqlU (b := 0#64) rfl rfl) rfl rfl ?_
  refine sq (q_mv rfl) rfl rfl ?_
  refine bsp (fun h2 => ?_) (fun h2 => ?_)
  · refine sq (q_mv rfl) rfl rfl ?_
    refine sq (q_eqlU (b := 0#64) rfl rfl) rfl rfl ?_
    refine sq (q_pick rfl rfl) rfl rfl ?_
    refine sq (q_as rfl) rfl rfl ?_
    refine go_nil ?_
    refine tn ?_
    refine gc_if rfl (fun h3 => ?_) (fun h3 => ?_)
    · refine gc_seq ?_
      refine gc_region ?_
      refine sq (q_as rfl) rfl rfl ?_
      refine go_nil ?_
      refine tn ?_
      refine gc_ret ?_
      refine br (tr ?_)
      refine ret_1 (.inl rfl) rfl rfl ?_
      exact rsE (by first | rfl | (simp_all [Stops.near]; done) | (simp_all [Stops.near]; rfl) | (simp_all [Stops.near]; omega) | (simp_all [Stops.near]; intros; omega) | (simp_all [Stops.near]; (repeat' split) <;> first | rfl | (simp_all; done) | omega | (exfalso; omega)) | (simp only [Stops.near]; (repeat' split) <;> first | (simp_all; done) | (simp_all; omega) | omega | (exfalso; simp_all; omega)) | (simp_all; (simp only [Stops.near]; (repeat' split) <;> first | (simp_all; done) | (simp_all; omega) | omega | (exfalso; simp_all; omega))))
    · refine gc_seq ?_
      refine gc_region ?_
      refine sq (q_mv rfl) rfl rfl ?_
      refine sq (q_eqlU (b := 0#64) rfl rfl) rfl rfl ?_
      refine sq (q_as rfl) rfl rfl ?_
      refine go_nil ?_
      refine tn ?_
      refine gc_if rfl (fun h4 => ?_) (fun h4 => ?_)
      · refine gc_seq ?_
        refine gc_region ?_
        refine sq (q_as rfl) rfl rfl ?_
        refine go_nil ?_
        refine tn ?_
        refine gc_ret ?_
        refine br (tr ?_)
        refine ret_1 (.inl rfl) rfl rfl ?_
        exact rsE (by first | rfl | (simp_all [Stops.near]; done) | (simp_all [Stops.near]; rfl) | (simp_all [Stops.near]; omega) | (simp_all [Stops.near]; intros; omega) | (simp_all [Stops.near]; (repeat' split) <;> first | rfl | (simp_all; done) | omega | (exfalso; omega)) | (simp only [Stops.near]; (repeat' split) <;> first | (simp_all; done) | (simp_all; omega) | omega | (exfalso; simp_all; omega)) | (simp_all; (simp only [Stops.near]; (repeat' split) <;> first | (simp_all; done) | (simp_all; omega) | omega | (exfalso; simp_all; omega))))
      · refine gc_seq ?_
        refine gc_region ?_
        refine sq (q_mv rfl) rfl rfl ?_
        refine sq (q_eqlU (b := 0#64) rfl rfl) rfl rfl ?_
        refine sq (q_as rfl) rfl rfl ?_
        refine go_nil ?_
        refine tn ?_
        refine gc_if rfl (fun h5 => ?_) (fun h5 => ?_)
        · refine gc_seq ?_
          refine gc_region ?_
          refine sq (q_as rfl) rfl rfl ?_
          refine go_nil ?_
          refine tn ?_
          refine gc_ret ?_
          refine br (tr ?_)
          refine ret_1 (.inl rfl) rfl rfl ?_
          exact rsE (by first | rfl | (simp_all [Stops.near]; done) | (simp_all [Stops.near]; rfl) | (simp_all [Stops.near]; omega) | (simp_all [Stops.near]; intros; omega) | (simp_all [Stops.near]; (repeat' split) <;> first | rfl | (simp_all; done) | omega | (exfalso; omega)) | (simp only [Stops.near]; (repeat' split) <;> first | (simp_all; done) | (simp_all; omega) | omega | (exfalso; simp_all; omega)) | (simp_all; (simp only [Stops.near]; (repeat' split) <;> first | (simp_all; done) | (simp_all; omega) | omega | (exfalso; simp_all; omega))))
        · refine gc_skip ?_
          refine bn (tn ?_)
          refine gc_seq ?_
          refine gc_seq ?_
          refine gc_region ?_
          refine sq (q_mv rfl) rfl rfl ?_
          refine s_callE (e_call (tz_spec _) rfl en368) rfl rfl ?_
          refine sq (q_mv rfl) rfl rfl ?_
          refine sq (q_subw rfl rfl) rfl rfl ?_
          refine sq (q_mv rfl) rfl rfl ?_
          refine sq (q_mv rfl) rfl rfl ?_
          refine s_callE (e_call (lenU_spec _) rfl en326) rfl rfl ?_
          refine sq (q_subw rfl rfl) rfl rfl ?_
          refine sq (q_subw rfl rfl) rfl rfl ?_
          refine sq (q_leq rfl rfl) rfl rfl ?_
          refine go_nil ?_
          refine tn ?_
          refine gc_if rfl (fun h6 => ?_) (fun h6 => ?_)
          · refine gc_seq ?_
            refine gc_region ?_
            refine sq (q_as rfl) rfl rfl ?_
            refine go_nil ?_
            refine tn ?_
            refine gc_ret ?_
            refine tr ?_
            refine ret_1 (.inl rfl) rfl rfl ?_
            exact rsE (by first | rfl | (simp_all [Stops.near]; done) | (simp_all [Stops.near]; rfl) | (simp_all [Stops.near]; omega) | (simp_all [Stops.near]; intros; omega) | (simp_all [Stops.near]; (repeat' split) <;> first | rfl | (simp_all; done) | omega | (exfalso; omega)) | (simp only [Stops.near]; (repeat' split) <;> first | (simp_all; done) | (simp_all; omega) | omega | (exfalso; simp_all; omega)) | (simp_all; (simp only [Stops.near]; (repeat' split) <;> first | (simp_all; done) | (simp_all; omega) | omega | (exfalso; simp_all; omega))))
          · refine gc_skip ?_
            refine tn ?_
            refine gc_seq ?_
            refine gc_region ?_
            refine sq (q_as rfl) rfl rfl ?_
            refine go_nil ?_
            refine tn ?_
            refine gc_ret ?_
            refine ret_1 (.inl rfl) rfl rfl ?_
            exact rsE (by first | rfl | (simp_all [Stops.near]; done) | (simp_all [Stops.near]; rfl) | (simp_all [Stops.near]; omega) | (simp_all [Stops.near]; intros; omega) | (simp_all [Stops.near]; (repeat' split) <;> first | rfl | (simp_all; done) | omega | (exfalso; omega)) | (simp only [Stops.near]; (repeat' split) <;> first | (simp_all; done) | (simp_all; omega) | omega | (exfalso; simp_all; omega)) | (simp_all; (simp only [Stops.near]; (repeat' split) <;> first | (simp_all; done) | (simp_all; omega) | omega | (exfalso; simp_all; omega))))
  · refine sskip rfl rfl ?_
    refine sskip rfl rfl ?_
    refine sq (q_pick rfl rfl) rfl rfl ?_
    refine sq (q_as rfl) rfl rfl ?_
    refine go_nil ?_
    refine tn ?_
    refine gc_false rfl ?_
    refine gc_seq ?_
    refine gc_region ?_
    refine sq (q_mv rfl) rfl rfl ?_
    refine sq (q_eqlU (b := 0#64) rfl rfl) rfl rfl ?_
    refine sq (q_as rfl) rfl rfl ?_
    refine go_nil ?_
    refine tn ?_
    refine gc_if rfl (fun h7 => ?_) (fun h7 => ?_)
    · refine gc_seq ?_
      refine gc_region ?_
      refine sq (q_as rfl) rfl rfl ?_
      refine go_nil ?_
      refine tn ?_
      refine gc_ret ?_
      refine br (tr ?_)
      refine ret_1 (.inl rfl) rfl rfl ?_
      exact rsE (by first | rfl | (simp_all [Stops.near]; done) | (simp_all [Stops.near]; rfl) | (simp_all [Stops.near]; omega) | (simp_all [Stops.near]; intros; omega) | (simp_all [Stops.near]; (repeat' split) <;> first | rfl | (simp_all; done) | omega | (exfalso; omega)) | (simp only [Stops.near]; (repeat' split) <;> first | (simp_all; done) | (simp_all; omega) | omega | (exfalso; simp_all; omega)) | (simp_all; (simp only [Stops.near]; (repeat' split) <;> first | (simp_all; done) | (simp_all; omega) | omega | (exfalso; simp_all; omega))))
    · refine gc_seq ?_
      refine gc_region ?_
      refine sq (q_mv rfl) rfl rfl ?_
      refine sq (q_eqlU (b := 0#64) rfl rfl) rfl rfl ?_
      refine sq (q_as rfl) rfl rfl ?_
      refine go_nil ?_
      refine tn ?_
      refine gc_if rfl (fun h8 => ?_) (fun h8 => ?_)
      · refine gc_seq ?_
        refine gc_region ?_
        refine sq (q_as rfl) rfl rfl ?_
        refine go_nil ?_
        refine tn ?_
        refine gc_ret ?_
        refine br (tr ?_)
        refine ret_1 (.inl rfl) rfl rfl ?_
        exact rsE (by first | rfl | (simp_all [Stops.near]; done) | (simp_all [Stops.near]; rfl) | (simp_all [Stops.near]; omega) | (simp_all [Stops.near]; intros; omega) | (simp_all [Stops.near]; (repeat' split) <;> first | rfl | (simp_all; done) | omega | (exfalso; omega)) | (simp only [Stops.near]; (repeat' split) <;> first | (simp_all; done) | (simp_all; omega) | omega | (exfalso; simp_all; omega)) | (simp_all; (simp only [Stops.near]; (repeat' split) <;> first | (simp_all; done) | (simp_all; omega) | omega | (exfalso; simp_all; omega))))
      · refine gc_skip ?_
        refine bn (tn ?_)
        refine gc_seq ?_
        refine gc_seq ?_
        refine gc_region ?_
        refine sq (q_mv rfl) rfl rfl ?_
        refine s_callE (e_call (tz_spec _) rfl en368) rfl rfl ?_
        refine sq (q_mv rfl) rfl rfl ?_
        refine sq (q_subw rfl rfl) rfl rfl ?_
        refine sq (q_mv rfl) rfl rfl ?_
        refine sq (q_mv rfl) rfl rfl ?_
        refine s_callE (e_call (lenU_spec _) rfl en326) rfl rfl ?_
        refine sq (q_subw rfl rfl) rfl rfl ?_
        refine sq (q_subw rfl rfl) rfl rfl ?_
        refine sq (q_leq rfl rfl) rfl rfl ?_
        refine go_nil ?_
        refine tn ?_
        refine gc_if rfl (fun h9 => ?_) (fun h9 => ?_)
        · refine gc_seq ?_
          refine gc_region ?_
          refine sq (q_as rfl) rfl rfl ?_
          refine go_nil ?_
          refine tn ?_
          refine gc_ret ?_
          refine tr ?_
          refine ret_1 (.inl rfl) rfl rfl ?_
          exact rsE (by first | rfl | (simp_all [Stops.near]; done) | (simp_all [Stops.near]; rfl) | (simp_all [Stops.near]; omega) | (simp_all [Stops.near]; intros; omega) | (simp_all [Stops.near]; (repeat' split) <;> first | rfl | (simp_all; done) | omega | (exfalso; omega)) | (simp only [Stops.near]; (repeat' split) <;> first | (simp_all; done) | (simp_all; omega) | omega | (exfalso; simp_all; omega)) | (simp_all; (simp only [Stops.near]; (repeat' split) <;> first | (simp_all; done) | (simp_all; omega) | omega | (exfalso; simp_all; omega))))
        · refine gc_skip ?_
          refine tn ?_
          refine gc_seq ?_
          refine gc_region ?_
          refine sq (q_as rfl) rfl rfl ?_
          refine go_nil ?_
          refine tn ?_
          refine gc_ret ?_
          refine ret_1 (.inl rfl) rfl rfl ?_
          exact rsE (by first | rfl | (simp_all [Stops.near]; done) | (simp_all [Stops.near]; rfl) | (simp_all [Stops.near]; omega) | (simp_all [Stops.near]; intros; omega) | (simp_all [Stops.near]; (repeat' split) <;> first | rfl | (simp_all; done) | omega | (exfalso; omega)) | (simp only [Stops.near]; (repeat' split) <;> first | (simp_all; done) | (simp_all; omega) | omega | (exfalso; simp_all; omega)) | (simp_all; (simp only [Stops.near]; (repeat' split) <;> first | (simp_all; done) | (simp_all; omega) | omega | (exfalso; simp_all; omega))))

set_option maxRecDepth 4000 in
set_option maxHeartbeats 2000000 in
theorem way_spec (s : Stops) (n d : Int) :
    Spec Tryz.prog 338 [s.v, i6 n, i6 d] [] [] (fun v L => v = .bool (way s n d) ∧ L = []) := by
  refine spec_of Tryz.func338 rfl Tryz.ntmps338 (by simp) fun w0 hb => ?_
  refine gc_seq ?_
  refine gc_region ?_
  refine s_new (e_box rfl rfl) rfl rfl fun b1 => ?_
  refine sq (q_as rfl) rfl rfl ?_
  refine go_nil ?_
  refine tn ?_
  refine gc_seq ?_
  refine gc_region ?_
  refine sq (q_lda rfl Tryz.isAgg213 Tryz.sizeOf213 rfl) rfl rfl ?_
  refine sq (q_mv rfl) rfl rfl ?_
  refine sq (q_mv rfl) rfl rfl ?_
  refine s_callE (e_call (toward_spec s _ _) rfl en365) rfl rfl ?_
  refine sq (q_mv rfl) rfl rfl ?_
  refine bsp (fun h2 => ?_) (fun h2 => ?_)
  · refine sskip rfl rfl ?_
    refine sskip rfl rfl ?_
    refine sskip rfl rfl ?_
    refine sskip rfl rfl ?_
    refine sq (q_pick rfl rfl) rfl rfl ?_
    refine sq (q_as rfl) rfl rfl ?_
    refine go_nil ?_
    refine tn ?_
    refine gc_ret ?_
    refine ret_1 (.inl rfl) rfl rfl ?_
    exact rsE (by first | rfl | (simp_all [way]; done) | (simp_all [way]; rfl) | (simp_all [way]; omega) | (simp_all [way]; intros; omega) | (simp_all [way]; (repeat' split) <;> first | rfl | (simp_all; done) | omega | (exfalso; omega)) | (simp only [way]; (repeat' split) <;> first | (simp_all; done) | (simp_all; omega) | omega | (exfalso; simp_all; omega)) | (simp_all; (simp only [way]; (repeat' split) <;> first | (simp_all; done) | (simp_all; omega) | omega | (exfalso; simp_all; omega))))
  · refine sq (q_lda rfl Tryz.isAgg213 Tryz.sizeOf213 rfl) rfl rfl ?_
    refine sq (q_mv rfl) rfl rfl ?_
    refine sq (q_mv rfl) rfl rfl ?_
    refine s_callE (e_call (hall_spec s _ _) rfl en140) rfl rfl ?_
    refine sq (q_pick rfl rfl) rfl rfl ?_
    refine sq (q_as rfl) rfl rfl ?_
    refine go_nil ?_
    refine tn ?_
    refine gc_ret ?_
    refine ret_1 (.inl rfl) rfl rfl ?_
    exact rsE (by first | rfl | (simp_all [way]; done) | (simp_all [way]; rfl) | (simp_all [way]; omega) | (simp_all [way]; intros; omega) | (simp_all [way]; (repeat' split) <;> first | rfl | (simp_all; done) | omega | (exfalso; omega)) | (simp only [way]; (repeat' split) <;> first | (simp_all; done) | (simp_all; omega) | omega | (exfalso; simp_all; omega)) | (simp_all; (simp only [way]; (repeat' split) <;> first | (simp_all; done) | (simp_all; omega) | omega | (exfalso; simp_all; omega))))

set_option maxRecDepth 4000 in
set_option maxHeartbeats 2000000 in
theorem turn_spec (s : Stops) (n d : Int) :
    Spec Tryz.prog 316 [s.v, i6 n, i6 d] [] dbt (fun v L => v = i6 (turn s n d) ∧ L = []) := by
  refine spec_of Tryz.func316 rfl Tryz.ntmps316 (by simp) fun w0 hb => ?_
  refine gc_seq ?_
  refine gc_region ?_
  refine s_new (e_box rfl rfl) rfl rfl fun b1 => ?_
  refine sq (q_as rfl) rfl rfl ?_
  refine go_nil ?_
  refine tn ?_
  refine gc_seq ?_
  refine gc_block ?_
  refine gc_seq ?_
  refine gc_region ?_
  refine sq (q_mv rfl) rfl rfl ?_
  refine sq (q_neq rfl rfl) rfl rfl ?_
  refine sq (q_mv rfl) rfl rfl ?_
  refine bsp (fun h2 => ?_) (fun h2 => ?_)
  · refine sq (q_lda rfl Tryz.isAgg213 Tryz.sizeOf213 rfl) rfl rfl ?_
    refine sq (q_mv rfl) rfl rfl ?_
    refine sq (q_mv rfl) rfl rfl ?_
    refine s_callE (e_call (way_spec s _ _) rfl en338) rfl rfl ?_
    refine sq (q_pick rfl rfl) rfl rfl ?_
    refine sq (q_as rfl) rfl rfl ?_
    refine go_nil ?_
    refine tn ?_
    refine gc_if rfl (fun h3 => ?_) (fun h3 => ?_)
    · refine gc_seq ?_
      refine gc_region ?_
      refine sq (q_mv rfl) rfl rfl ?_
      refine sq (q_as rfl) rfl rfl ?_
      refine go_nil ?_
      refine tn ?_
      refine gc_ret ?_
      refine br (tr ?_)
      refine ret_1 (.inl rfl) rfl rfl ?_
      exact rsE (by first | rfl | (simp_all [turn]; done) | (simp_all [turn]; rfl) | (simp_all [turn]; omega) | (simp_all [turn]; intros; omega) | (simp_all [turn]; (repeat' split) <;> first | rfl | (simp_all; done) | omega | (exfalso; omega)) | (simp only [turn]; (repeat' split) <;> first | (simp_all; done) | (simp_all; omega) | omega | (exfalso; simp_all; omega)) | (simp_all; (simp only [turn]; (repeat' split) <;> first | (simp_all; done) | (simp_all; omega) | omega | (exfalso; simp_all; omega))))
    · refine gc_seq ?_
      refine gc_region ?_
      refine sq (q_mv rfl) rfl rfl ?_
      refine sq (q_neq rfl rfl) rfl rfl ?_
      refine sq (q_mv rfl) rfl rfl ?_
      refine bsp (fun h4 => ?_) (fun h4 => ?_)
      · refine sq (q_lda rfl Tryz.isAgg213 Tryz.sizeOf213 rfl) rfl rfl ?_
        refine sq (q_mv rfl) rfl rfl ?_
        refine sq (q_mv rfl) rfl rfl ?_
        refine sq (q_negw rfl) rfl rfl ?_
        refine s_callE (e_call (way_spec s _ _) rfl en338) rfl rfl ?_
        refine sq (q_pick rfl rfl) rfl rfl ?_
        refine sq (q_as rfl) rfl rfl ?_
        refine go_nil ?_
        refine tn ?_
        refine gc_if rfl (fun h5 => ?_) (fun h5 => ?_)
        · refine gc_seq ?_
          refine gc_region ?_
          refine sq (q_mv rfl) rfl rfl ?_
          refine sq (q_negw rfl) rfl rfl ?_
          refine sq (q_as rfl) rfl rfl ?_
          refine go_nil ?_
          refine tn ?_
          refine gc_ret ?_
          refine br (tr ?_)
          refine ret_1 (.inl rfl) rfl rfl ?_
          exact rsE (by first | rfl | (simp_all [turn]; done) | (simp_all [turn]; rfl) | (simp_all [turn]; omega) | (simp_all [turn]; intros; omega) | (simp_all [turn]; (repeat' split) <;> first | rfl | (simp_all; done) | omega | (exfalso; omega)) | (simp only [turn]; (repeat' split) <;> first | (simp_all; done) | (simp_all; omega) | omega | (exfalso; simp_all; omega)) | (simp_all; (simp only [turn]; (repeat' split) <;> first | (simp_all; done) | (simp_all; omega) | omega | (exfalso; simp_all; omega))))
        · refine gc_seq ?_
          refine gc_region ?_
          refine sq (q_mv rfl) rfl rfl ?_
          refine sq (q_neq rfl rfl) rfl rfl ?_
          refine sq (q_as rfl) rfl rfl ?_
          refine go_nil ?_
          refine tn ?_
          refine gc_if rfl (fun h6 => ?_) (fun h6 => ?_)
          · refine gc_seq ?_
            refine gc_region ?_
            refine sq (q_as rfl) rfl rfl ?_
            refine go_nil ?_
            refine tn ?_
            refine gc_ret ?_
            refine br (tr ?_)
            refine ret_1 (.inl rfl) rfl rfl ?_
            exact rsE (by first | rfl | (simp_all [turn]; done) | (simp_all [turn]; rfl) | (simp_all [turn]; omega) | (simp_all [turn]; intros; omega) | (simp_all [turn]; (repeat' split) <;> first | rfl | (simp_all; done) | omega | (exfalso; omega)) | (simp only [turn]; (repeat' split) <;> first | (simp_all; done) | (simp_all; omega) | omega | (exfalso; simp_all; omega)) | (simp_all; (simp only [turn]; (repeat' split) <;> first | (simp_all; done) | (simp_all; omega) | omega | (exfalso; simp_all; omega))))
          · refine gc_seq ?_
            refine gc_region ?_
            refine sq (q_lda rfl Tryz.isAgg213 Tryz.sizeOf213 rfl) rfl rfl ?_
            refine sq (q_mv rfl) rfl rfl ?_
            refine s_callE (e_call (hall_spec s _ _) rfl en140) rfl rfl ?_
            refine sq (q_as rfl) rfl rfl ?_
            refine go_nil ?_
            refine tn ?_
            refine gc_if rfl (fun h7 => ?_) (fun h7 => ?_)
            · refine gc_seq ?_
              refine gc_region ?_
              refine sq (q_as rfl) rfl rfl ?_
              refine go_nil ?_
              refine tn ?_
              refine gc_ret ?_
              refine br (tr ?_)
              refine ret_1 (.inl rfl) rfl rfl ?_
              exact rsE (by first | rfl | (simp_all [turn]; done) | (simp_all [turn]; rfl) | (simp_all [turn]; omega) | (simp_all [turn]; intros; omega) | (simp_all [turn]; (repeat' split) <;> first | rfl | (simp_all; done) | omega | (exfalso; omega)) | (simp only [turn]; (repeat' split) <;> first | (simp_all; done) | (simp_all; omega) | omega | (exfalso; simp_all; omega)) | (simp_all; (simp only [turn]; (repeat' split) <;> first | (simp_all; done) | (simp_all; omega) | omega | (exfalso; simp_all; omega))))
            · refine gc_seq ?_
              refine gc_region ?_
              refine sq (q_lda rfl Tryz.isAgg213 Tryz.sizeOf213 rfl) rfl rfl ?_
              refine sq (q_mv rfl) rfl rfl ?_
              refine s_callE (e_call (hall_spec s _ _) rfl en140) rfl rfl ?_
              refine sq (q_as rfl) rfl rfl ?_
              refine go_nil ?_
              refine tn ?_
              refine gc_if rfl (fun h8 => ?_) (fun h8 => ?_)
              · refine gc_seq ?_
                refine gc_region ?_
                refine sq (q_as rfl) rfl rfl ?_
                refine go_nil ?_
                refine tn ?_
                refine gc_ret ?_
                refine br (tr ?_)
                refine ret_1 (.inl rfl) rfl rfl ?_
                exact rsE (by first | rfl | (simp_all [turn]; done) | (simp_all [turn]; rfl) | (simp_all [turn]; omega) | (simp_all [turn]; intros; omega) | (simp_all [turn]; (repeat' split) <;> first | rfl | (simp_all; done) | omega | (exfalso; omega)) | (simp only [turn]; (repeat' split) <;> first | (simp_all; done) | (simp_all; omega) | omega | (exfalso; simp_all; omega)) | (simp_all; (simp only [turn]; (repeat' split) <;> first | (simp_all; done) | (simp_all; omega) | omega | (exfalso; simp_all; omega))))
              · refine gc_skip ?_
                refine bn (tn ?_)
                refine gc_seq ?_
                refine gc_region ?_
                refine sq (q_lda rfl Tryz.isAgg213 Tryz.sizeOf213 rfl) rfl rfl ?_
                refine sq (q_mv rfl) rfl rfl ?_
                refine s_callE (e_call (near_spec s _) rfl en339) rfl rfl ?_
                refine sq (q_as rfl) rfl rfl ?_
                refine go_nil ?_
                refine tn ?_
                refine gc_ret ?_
                refine ret_1 (.inl rfl) rfl rfl ?_
                exact rsE (by first | rfl | (simp_all [turn]; done) | (simp_all [turn]; rfl) | (simp_all [turn]; omega) | (simp_all [turn]; intros; omega) | (simp_all [turn]; (repeat' split) <;> first | rfl | (simp_all; done) | omega | (exfalso; omega)) | (simp only [turn]; (repeat' split) <;> first | (simp_all; done) | (simp_all; omega) | omega | (exfalso; simp_all; omega)) | (simp_all; (simp only [turn]; (repeat' split) <;> first | (simp_all; done) | (simp_all; omega) | omega | (exfalso; simp_all; omega))))
      · refine sskip rfl rfl ?_
        refine sskip rfl rfl ?_
        refine sskip rfl rfl ?_
        refine sskip rfl rfl ?_
        refine sskip rfl rfl ?_
        refine sq (q_pick rfl rfl) rfl rfl ?_
        refine sq (q_as rfl) rfl rfl ?_
        refine go_nil ?_
        refine tn ?_
        refine gc_false rfl ?_
        refine gc_seq ?_
        refine gc_region ?_
        refine sq (q_mv rfl) rfl rfl ?_
        refine sq (q_neq rfl rfl) rfl rfl ?_
        refine sq (q_as rfl) rfl rfl ?_
        refine go_nil ?_
        refine tn ?_
        refine gc_if rfl (fun h9 => ?_) (fun h9 => ?_)
        · refine gc_seq ?_
          refine gc_region ?_
          refine sq (q_as rfl) rfl rfl ?_
          refine go_nil ?_
          refine tn ?_
          refine gc_ret ?_
          refine br (tr ?_)
          refine ret_1 (.inl rfl) rfl rfl ?_
          exact rsE (by first | rfl | (simp_all [turn]; done) | (simp_all [turn]; rfl) | (simp_all [turn]; omega) | (simp_all [turn]; intros; omega) | (simp_all [turn]; (repeat' split) <;> first | rfl | (simp_all; done) | omega | (exfalso; omega)) | (simp only [turn]; (repeat' split) <;> first | (simp_all; done) | (simp_all; omega) | omega | (exfalso; simp_all; omega)) | (simp_all; (simp only [turn]; (repeat' split) <;> first | (simp_all; done) | (simp_all; omega) | omega | (exfalso; simp_all; omega))))
        · refine gc_seq ?_
          refine gc_region ?_
          refine sq (q_lda rfl Tryz.isAgg213 Tryz.sizeOf213 rfl) rfl rfl ?_
          refine sq (q_mv rfl) rfl rfl ?_
          refine s_callE (e_call (hall_spec s _ _) rfl en140) rfl rfl ?_
          refine sq (q_as rfl) rfl rfl ?_
          refine go_nil ?_
          refine tn ?_
          refine gc_if rfl (fun h10 => ?_) (fun h10 => ?_)
          · refine gc_seq ?_
            refine gc_region ?_
            refine sq (q_as rfl) rfl rfl ?_
            refine go_nil ?_
            refine tn ?_
            refine gc_ret ?_
            refine br (tr ?_)
            refine ret_1 (.inl rfl) rfl rfl ?_
            exact rsE (by first | rfl | (simp_all [turn]; done) | (simp_all [turn]; rfl) | (simp_all [turn]; omega) | (simp_all [turn]; intros; omega) | (simp_all [turn]; (repeat' split) <;> first | rfl | (simp_all; done) | omega | (exfalso; omega)) | (simp only [turn]; (repeat' split) <;> first | (simp_all; done) | (simp_all; omega) | omega | (exfalso; simp_all; omega)) | (simp_all; (simp only [turn]; (repeat' split) <;> first | (simp_all; done) | (simp_all; omega) | omega | (exfalso; simp_all; omega))))
          · refine gc_seq ?_
            refine gc_region ?_
            refine sq (q_lda rfl Tryz.isAgg213 Tryz.sizeOf213 rfl) rfl rfl ?_
            refine sq (q_mv rfl) rfl rfl ?_
            refine s_callE (e_call (hall_spec s _ _) rfl en140) rfl rfl ?_
            refine sq (q_as rfl) rfl rfl ?_
            refine go_nil ?_
            refine tn ?_
            refine gc_if rfl (fun h11 => ?_) (fun h11 => ?_)
            · refine gc_seq ?_
              refine gc_region ?_
              refine sq (q_as rfl) rfl rfl ?_
              refine go_nil ?_
              refine tn ?_
              refine gc_ret ?_
              refine br (tr ?_)
              refine ret_1 (.inl rfl) rfl rfl ?_
              exact rsE (by first | rfl | (simp_all [turn]; done) | (simp_all [turn]; rfl) | (simp_all [turn]; omega) | (simp_all [turn]; intros; omega) | (simp_all [turn]; (repeat' split) <;> first | rfl | (simp_all; done) | omega | (exfalso; omega)) | (simp only [turn]; (repeat' split) <;> first | (simp_all; done) | (simp_all; omega) | omega | (exfalso; simp_all; omega)) | (simp_all; (simp only [turn]; (repeat' split) <;> first | (simp_all; done) | (simp_all; omega) | omega | (exfalso; simp_all; omega))))
            · refine gc_skip ?_
              refine bn (tn ?_)
              refine gc_seq ?_
              refine gc_region ?_
              refine sq (q_lda rfl Tryz.isAgg213 Tryz.sizeOf213 rfl) rfl rfl ?_
              refine sq (q_mv rfl) rfl rfl ?_
              refine s_callE (e_call (near_spec s _) rfl en339) rfl rfl ?_
              refine sq (q_as rfl) rfl rfl ?_
              refine go_nil ?_
              refine tn ?_
              refine gc_ret ?_
              refine ret_1 (.inl rfl) rfl rfl ?_
              exact rsE (by first | rfl | (simp_all [turn]; done) | (simp_all [turn]; rfl) | (simp_all [turn]; omega) | (simp_all [turn]; intros; omega) | (simp_all [turn]; (repeat' split) <;> first | rfl | (simp_all; done) | omega | (exfalso; omega)) | (simp only [turn]; (repeat' split) <;> first | (simp_all; done) | (simp_all; omega) | omega | (exfalso; simp_all; omega)) | (simp_all; (simp only [turn]; (repeat' split) <;> first | (simp_all; done) | (simp_all; omega) | omega | (exfalso; simp_all; omega))))
  · refine sskip rfl rfl ?_
    refine sskip rfl rfl ?_
    refine sskip rfl rfl ?_
    refine sskip rfl rfl ?_
    refine sq (q_pick rfl rfl) rfl rfl ?_
    refine sq (q_as rfl) rfl rfl ?_
    refine go_nil ?_
    refine tn ?_
    refine gc_false rfl ?_
    refine gc_seq ?_
    refine gc_region ?_
    refine sq (q_mv rfl) rfl rfl ?_
    refine sq (q_neq rfl rfl) rfl rfl ?_
    refine sq (q_mv rfl) rfl rfl ?_
    refine bsp (fun h12 => ?_) (fun h12 => ?_)
    · refine sq (q_lda rfl Tryz.isAgg213 Tryz.sizeOf213 rfl) rfl rfl ?_
      refine sq (q_mv rfl) rfl rfl ?_
      refine sq (q_mv rfl) rfl rfl ?_
      refine sq (q_negw rfl) rfl rfl ?_
      refine s_callE (e_call (way_spec s _ _) rfl en338) rfl rfl ?_
      refine sq (q_pick rfl rfl) rfl rfl ?_
      refine sq (q_as rfl) rfl rfl ?_
      refine go_nil ?_
      refine tn ?_
      refine gc_if rfl (fun h13 => ?_) (fun h13 => ?_)
      · refine gc_seq ?_
        refine gc_region ?_
        refine sq (q_mv rfl) rfl rfl ?_
        refine sq (q_negw rfl) rfl rfl ?_
        refine sq (q_as rfl) rfl rfl ?_
        refine go_nil ?_
        refine tn ?_
        refine gc_ret ?_
        refine br (tr ?_)
        refine ret_1 (.inl rfl) rfl rfl ?_
        exact rsE (by first | rfl | (simp_all [turn]; done) | (simp_all [turn]; rfl) | (simp_all [turn]; omega) | (simp_all [turn]; intros; omega) | (simp_all [turn]; (repeat' split) <;> first | rfl | (simp_all; done) | omega | (exfalso; omega)) | (simp only [turn]; (repeat' split) <;> first | (simp_all; done) | (simp_all; omega) | omega | (exfalso; simp_all; omega)) | (simp_all; (simp only [turn]; (repeat' split) <;> first | (simp_all; done) | (simp_all; omega) | omega | (exfalso; simp_all; omega))))
      · refine gc_seq ?_
        refine gc_region ?_
        refine sq (q_mv rfl) rfl rfl ?_
        refine sq (q_neq rfl rfl) rfl rfl ?_
        refine sq (q_as rfl) rfl rfl ?_
        refine go_nil ?_
        refine tn ?_
        refine gc_if rfl (fun h14 => ?_) (fun h14 => ?_)
        · refine gc_seq ?_
          refine gc_region ?_
          refine sq (q_as rfl) rfl rfl ?_
          refine go_nil ?_
          refine tn ?_
          refine gc_ret ?_
          refine br (tr ?_)
          refine ret_1 (.inl rfl) rfl rfl ?_
          exact rsE (by first | rfl | (simp_all [turn]; done) | (simp_all [turn]; rfl) | (simp_all [turn]; omega) | (simp_all [turn]; intros; omega) | (simp_all [turn]; (repeat' split) <;> first | rfl | (simp_all; done) | omega | (exfalso; omega)) | (simp only [turn]; (repeat' split) <;> first | (simp_all; done) | (simp_all; omega) | omega | (exfalso; simp_all; omega)) | (simp_all; (simp only [turn]; (repeat' split) <;> first | (simp_all; done) | (simp_all; omega) | omega | (exfalso; simp_all; omega))))
        · refine gc_seq ?_
          refine gc_region ?_
          refine sq (q_lda rfl Tryz.isAgg213 Tryz.sizeOf213 rfl) rfl rfl ?_
          refine sq (q_mv rfl) rfl rfl ?_
          refine s_callE (e_call (hall_spec s _ _) rfl en140) rfl rfl ?_
          refine sq (q_as rfl) rfl rfl ?_
          refine go_nil ?_
          refine tn ?_
          refine gc_if rfl (fun h15 => ?_) (fun h15 => ?_)
          · refine gc_seq ?_
            refine gc_region ?_
            refine sq (q_as rfl) rfl rfl ?_
            refine go_nil ?_
            refine tn ?_
            refine gc_ret ?_
            refine br (tr ?_)
            refine ret_1 (.inl rfl) rfl rfl ?_
            exact rsE (by first | rfl | (simp_all [turn]; done) | (simp_all [turn]; rfl) | (simp_all [turn]; omega) | (simp_all [turn]; intros; omega) | (simp_all [turn]; (repeat' split) <;> first | rfl | (simp_all; done) | omega | (exfalso; omega)) | (simp only [turn]; (repeat' split) <;> first | (simp_all; done) | (simp_all; omega) | omega | (exfalso; simp_all; omega)) | (simp_all; (simp only [turn]; (repeat' split) <;> first | (simp_all; done) | (simp_all; omega) | omega | (exfalso; simp_all; omega))))
          · refine gc_seq ?_
            refine gc_region ?_
            refine sq (q_lda rfl Tryz.isAgg213 Tryz.sizeOf213 rfl) rfl rfl ?_
            refine sq (q_mv rfl) rfl rfl ?_
            refine s_callE (e_call (hall_spec s _ _) rfl en140) rfl rfl ?_
            refine sq (q_as rfl) rfl rfl ?_
            refine go_nil ?_
            refine tn ?_
            refine gc_if rfl (fun h16 => ?_) (fun h16 => ?_)
            · refine gc_seq ?_
              refine gc_region ?_
              refine sq (q_as rfl) rfl rfl ?_
              refine go_nil ?_
              refine tn ?_
              refine gc_ret ?_
              refine br (tr ?_)
              refine ret_1 (.inl rfl) rfl rfl ?_
              exact rsE (by first | rfl | (simp_all [turn]; done) | (simp_all [turn]; rfl) | (simp_all [turn]; omega) | (simp_all [turn]; intros; omega) | (simp_all [turn]; (repeat' split) <;> first | rfl | (simp_all; done) | omega | (exfalso; omega)) | (simp only [turn]; (repeat' split) <;> first | (simp_all; done) | (simp_all; omega) | omega | (exfalso; simp_all; omega)) | (simp_all; (simp only [turn]; (repeat' split) <;> first | (simp_all; done) | (simp_all; omega) | omega | (exfalso; simp_all; omega))))
            · refine gc_skip ?_
              refine bn (tn ?_)
              refine gc_seq ?_
              refine gc_region ?_
              refine sq (q_lda rfl Tryz.isAgg213 Tryz.sizeOf213 rfl) rfl rfl ?_
              refine sq (q_mv rfl) rfl rfl ?_
              refine s_callE (e_call (near_spec s _) rfl en339) rfl rfl ?_
              refine sq (q_as rfl) rfl rfl ?_
              refine go_nil ?_
              refine tn ?_
              refine gc_ret ?_
              refine ret_1 (.inl rfl) rfl rfl ?_
              exact rsE (by first | rfl | (simp_all [turn]; done) | (simp_all [turn]; rfl) | (simp_all [turn]; omega) | (simp_all [turn]; intros; omega) | (simp_all [turn]; (repeat' split) <;> first | rfl | (simp_all; done) | omega | (exfalso; omega)) | (simp only [turn]; (repeat' split) <;> first | (simp_all; done) | (simp_all; omega) | omega | (exfalso; simp_all; omega)) | (simp_all; (simp only [turn]; (repeat' split) <;> first | (simp_all; done) | (simp_all; omega) | omega | (exfalso; simp_all; omega))))
    · refine sskip rfl rfl ?_
      refine sskip rfl rfl ?_
      refine sskip rfl rfl ?_
      refine sskip rfl rfl ?_
      refine sskip rfl rfl ?_
      refine sq (q_pick rfl rfl) rfl rfl ?_
      refine sq (q_as rfl) rfl rfl ?_
      refine go_nil ?_
      refine tn ?_
      refine gc_false rfl ?_
      refine gc_seq ?_
      refine gc_region ?_
      refine sq (q_mv rfl) rfl rfl ?_
      refine sq (q_neq rfl rfl) rfl rfl ?_
      refine sq (q_as rfl) rfl rfl ?_
      refine go_nil ?_
      refine tn ?_
      refine gc_if rfl (fun h17 => ?_) (fun h17 => ?_)
      · refine gc_seq ?_
        refine gc_region ?_
        refine sq (q_as rfl) rfl rfl ?_
        refine go_nil ?_
        refine tn ?_
        refine gc_ret ?_
        refine br (tr ?_)
        refine ret_1 (.inl rfl) rfl rfl ?_
        exact rsE (by first | rfl | (simp_all [turn]; done) | (simp_all [turn]; rfl) | (simp_all [turn]; omega) | (simp_all [turn]; intros; omega) | (simp_all [turn]; (repeat' split) <;> first | rfl | (simp_all; done) | omega | (exfalso; omega)) | (simp only [turn]; (repeat' split) <;> first | (simp_all; done) | (simp_all; omega) | omega | (exfalso; simp_all; omega)) | (simp_all; (simp only [turn]; (repeat' split) <;> first | (simp_all; done) | (simp_all; omega) | omega | (exfalso; simp_all; omega))))
      · refine gc_seq ?_
        refine gc_region ?_
        refine sq (q_lda rfl Tryz.isAgg213 Tryz.sizeOf213 rfl) rfl rfl ?_
        refine sq (q_mv rfl) rfl rfl ?_
        refine s_callE (e_call (hall_spec s _ _) rfl en140) rfl rfl ?_
        refine sq (q_as rfl) rfl rfl ?_
        refine go_nil ?_
        refine tn ?_
        refine gc_if rfl (fun h18 => ?_) (fun h18 => ?_)
        · refine gc_seq ?_
          refine gc_region ?_
          refine sq (q_as rfl) rfl rfl ?_
          refine go_nil ?_
          refine tn ?_
          refine gc_ret ?_
          refine br (tr ?_)
          refine ret_1 (.inl rfl) rfl rfl ?_
          exact rsE (by first | rfl | (simp_all [turn]; done) | (simp_all [turn]; rfl) | (simp_all [turn]; omega) | (simp_all [turn]; intros; omega) | (simp_all [turn]; (repeat' split) <;> first | rfl | (simp_all; done) | omega | (exfalso; omega)) | (simp only [turn]; (repeat' split) <;> first | (simp_all; done) | (simp_all; omega) | omega | (exfalso; simp_all; omega)) | (simp_all; (simp only [turn]; (repeat' split) <;> first | (simp_all; done) | (simp_all; omega) | omega | (exfalso; simp_all; omega))))
        · refine gc_seq ?_
          refine gc_region ?_
          refine sq (q_lda rfl Tryz.isAgg213 Tryz.sizeOf213 rfl) rfl rfl ?_
          refine sq (q_mv rfl) rfl rfl ?_
          refine s_callE (e_call (hall_spec s _ _) rfl en140) rfl rfl ?_
          refine sq (q_as rfl) rfl rfl ?_
          refine go_nil ?_
          refine tn ?_
          refine gc_if rfl (fun h19 => ?_) (fun h19 => ?_)
          · refine gc_seq ?_
            refine gc_region ?_
            refine sq (q_as rfl) rfl rfl ?_
            refine go_nil ?_
            refine tn ?_
            refine gc_ret ?_
            refine br (tr ?_)
            refine ret_1 (.inl rfl) rfl rfl ?_
            exact rsE (by first | rfl | (simp_all [turn]; done) | (simp_all [turn]; rfl) | (simp_all [turn]; omega) | (simp_all [turn]; intros; omega) | (simp_all [turn]; (repeat' split) <;> first | rfl | (simp_all; done) | omega | (exfalso; omega)) | (simp only [turn]; (repeat' split) <;> first | (simp_all; done) | (simp_all; omega) | omega | (exfalso; simp_all; omega)) | (simp_all; (simp only [turn]; (repeat' split) <;> first | (simp_all; done) | (simp_all; omega) | omega | (exfalso; simp_all; omega))))
          · refine gc_skip ?_
            refine bn (tn ?_)
            refine gc_seq ?_
            refine gc_region ?_
            refine sq (q_lda rfl Tryz.isAgg213 Tryz.sizeOf213 rfl) rfl rfl ?_
            refine sq (q_mv rfl) rfl rfl ?_
            refine s_callE (e_call (near_spec s _) rfl en339) rfl rfl ?_
            refine sq (q_as rfl) rfl rfl ?_
            refine go_nil ?_
            refine tn ?_
            refine gc_ret ?_
            refine ret_1 (.inl rfl) rfl rfl ?_
            exact rsE (by first | rfl | (simp_all [turn]; done) | (simp_all [turn]; rfl) | (simp_all [turn]; omega) | (simp_all [turn]; intros; omega) | (simp_all [turn]; (repeat' split) <;> first | rfl | (simp_all; done) | omega | (exfalso; omega)) | (simp only [turn]; (repeat' split) <;> first | (simp_all; done) | (simp_all; omega) | omega | (exfalso; simp_all; omega)) | (simp_all; (simp only [turn]; (repeat' split) <;> first | (simp_all; done) | (simp_all; omega) | omega | (exfalso; simp_all; omega))))

set_option maxRecDepth 4000 in
set_option maxHeartbeats 2000000 in
theorem planAt_spec (s : Stops) (n d : Int) :
    Spec Tryz.prog 289 [s.v, i6 n, i6 d] [] dbt (fun v L => v = (planAt s n d).v ∧ L = []) := by
  refine spec_of Tryz.func289 rfl Tryz.ntmps289 (by simp) fun w0 hb => ?_
  refine gc_seq ?_
  refine gc_region ?_
  refine s_new (e_box rfl rfl) rfl rfl fun b1 => ?_
  refine s_new (e_alloc Tryz.zeroValue368 rfl) rfl rfl fun b2 => ?_
  refine go_nil ?_
  refine tn ?_
  refine gc_seq ?_
  refine gc_seq ?_
  refine gc_region ?_
  refine sq (q_mv rfl) rfl rfl ?_
  refine sq (q_lss rfl rfl) rfl rfl ?_
  refine sq (q_mv rfl) rfl rfl ?_
  refine bsp (fun h3 => ?_) (fun h3 => ?_)
  · refine sskip rfl rfl ?_
    refine sskip rfl rfl ?_
    refine sq (q_pick rfl rfl) rfl rfl ?_
    refine sq (q_mv rfl) rfl rfl ?_
    refine sskip rfl rfl ?_
    refine sskip rfl rfl ?_
    refine sq (q_pick rfl rfl) rfl rfl ?_
    refine sq (q_mv rfl) rfl rfl ?_
    refine sskip rfl rfl ?_
    refine sskip rfl rfl ?_
    refine sq (q_pick rfl rfl) rfl rfl ?_
    refine go_nil ?_
    refine tn ?_
    refine gc_true rfl ?_
    refine gc_seq ?_
    refine gc_region ?_
    refine sq (q_bld rfl Tryz.runUnderlying368 Tryz.zeroValue368 rfl pl368 rfl) rfl rfl ?_
    refine s_st (e_st rfl rfl Tryz.sizeOf368 rfl rfl rfl rfl) rfl rfl ?_
    refine go_nil ?_
    refine tn ?_
    refine gc_ret ?_
    refine tr ?_
    refine ret_c (.inl rfl) rfl rfl Tryz.isAgg368 Tryz.sizeOf368 rfl ?_
    exact rsE (by first | rfl | (simp_all [planAt]; done) | (simp_all [planAt]; rfl) | (simp_all [planAt]; omega) | (simp_all [planAt]; intros; omega) | (simp_all [planAt]; (repeat' split) <;> first | rfl | (simp_all; done) | omega | (exfalso; omega)) | (simp only [planAt]; (repeat' split) <;> first | (simp_all; done) | (simp_all; omega) | omega | (exfalso; simp_all; omega)) | (simp_all; (simp only [planAt]; (repeat' split) <;> first | (simp_all; done) | (simp_all; omega) | omega | (exfalso; simp_all; omega))))
  · refine sq (q_mv rfl) rfl rfl ?_
    refine sq (q_geq rfl rfl) rfl rfl ?_
    refine sq (q_pick rfl rfl) rfl rfl ?_
    refine sq (q_mv rfl) rfl rfl ?_
    refine bsp (fun h4 => ?_) (fun h4 => ?_)
    · refine sskip rfl rfl ?_
      refine sskip rfl rfl ?_
      refine sq (q_pick rfl rfl) rfl rfl ?_
      refine sq (q_mv rfl) rfl rfl ?_
      refine sskip rfl rfl ?_
      refine sskip rfl rfl ?_
      refine sq (q_pick rfl rfl) rfl rfl ?_
      refine go_nil ?_
      refine tn ?_
      refine gc_true rfl ?_
      refine gc_seq ?_
      refine gc_region ?_
      refine sq (q_bld rfl Tryz.runUnderlying368 Tryz.zeroValue368 rfl pl368 rfl) rfl rfl ?_
      refine s_st (e_st rfl rfl Tryz.sizeOf368 rfl rfl rfl rfl) rfl rfl ?_
      refine go_nil ?_
      refine tn ?_
      refine gc_ret ?_
      refine tr ?_
      refine ret_c (.inl rfl) rfl rfl Tryz.isAgg368 Tryz.sizeOf368 rfl ?_
      exact rsE (by first | rfl | (simp_all [planAt]; done) | (simp_all [planAt]; rfl) | (simp_all [planAt]; omega) | (simp_all [planAt]; intros; omega) | (simp_all [planAt]; (repeat' split) <;> first | rfl | (simp_all; done) | omega | (exfalso; omega)) | (simp only [planAt]; (repeat' split) <;> first | (simp_all; done) | (simp_all; omega) | omega | (exfalso; simp_all; omega)) | (simp_all; (simp only [planAt]; (repeat' split) <;> first | (simp_all; done) | (simp_all; omega) | omega | (exfalso; simp_all; omega))))
    · refine sq (q_mv rfl) rfl rfl ?_
      refine sq (q_lss rfl rfl) rfl rfl ?_
      refine sq (q_pick rfl rfl) rfl rfl ?_
      refine sq (q_mv rfl) rfl rfl ?_
      refine bsp (fun h5 => ?_) (fun h5 => ?_)
      · refine sskip rfl rfl ?_
        refine sskip rfl rfl ?_
        refine sq (q_pick rfl rfl) rfl rfl ?_
        refine go_nil ?_
        refine tn ?_
        refine gc_true rfl ?_
        refine gc_seq ?_
        refine gc_region ?_
        refine sq (q_bld rfl Tryz.runUnderlying368 Tryz.zeroValue368 rfl pl368 rfl) rfl rfl ?_
        refine s_st (e_st rfl rfl Tryz.sizeOf368 rfl rfl rfl rfl) rfl rfl ?_
        refine go_nil ?_
        refine tn ?_
        refine gc_ret ?_
        refine tr ?_
        refine ret_c (.inl rfl) rfl rfl Tryz.isAgg368 Tryz.sizeOf368 rfl ?_
        exact rsE (by first | rfl | (simp_all [planAt]; done) | (simp_all [planAt]; rfl) | (simp_all [planAt]; omega) | (simp_all [planAt]; intros; omega) | (simp_all [planAt]; (repeat' split) <;> first | rfl | (simp_all; done) | omega | (exfalso; omega)) | (simp only [planAt]; (repeat' split) <;> first | (simp_all; done) | (simp_all; omega) | omega | (exfalso; simp_all; omega)) | (simp_all; (simp only [planAt]; (repeat' split) <;> first | (simp_all; done) | (simp_all; omega) | omega | (exfalso; simp_all; omega))))
      · refine sq (q_mv rfl) rfl rfl ?_
        refine sq (q_gtr rfl rfl) rfl rfl ?_
        refine sq (q_pick rfl rfl) rfl rfl ?_
        refine go_nil ?_
        refine tn ?_
        refine gc_if rfl (fun h6 => ?_) (fun h6 => ?_)
        · refine gc_seq ?_
          refine gc_region ?_
          refine sq (q_bld rfl Tryz.runUnderlying368 Tryz.zeroValue368 rfl pl368 rfl) rfl rfl ?_
          refine s_st (e_st rfl rfl Tryz.sizeOf368 rfl rfl rfl rfl) rfl rfl ?_
          refine go_nil ?_
          refine tn ?_
          refine gc_ret ?_
          refine tr ?_
          refine ret_c (.inl rfl) rfl rfl Tryz.isAgg368 Tryz.sizeOf368 rfl ?_
          exact rsE (by first | rfl | (simp_all [planAt]; done) | (simp_all [planAt]; rfl) | (simp_all [planAt]; omega) | (simp_all [planAt]; intros; omega) | (simp_all [planAt]; (repeat' split) <;> first | rfl | (simp_all; done) | omega | (exfalso; omega)) | (simp only [planAt]; (repeat' split) <;> first | (simp_all; done) | (simp_all; omega) | omega | (exfalso; simp_all; omega)) | (simp_all; (simp only [planAt]; (repeat' split) <;> first | (simp_all; done) | (simp_all; omega) | omega | (exfalso; simp_all; omega))))
        · refine gc_skip ?_
          refine tn ?_
          refine gc_seq ?_
          refine gc_region ?_
          refine sq (q_lda rfl Tryz.isAgg213 Tryz.sizeOf213 rfl) rfl rfl ?_
          refine sq (q_mv rfl) rfl rfl ?_
          refine sq (q_mv rfl) rfl rfl ?_
          refine s_callE (e_call (turn_spec s _ _) rfl en316) rfl rfl ?_
          refine sq (q_bld rfl Tryz.runUnderlying368 Tryz.zeroValue368 rfl pl368 rfl) rfl rfl ?_
          refine s_new (e_alloc Tryz.zeroValue368 rfl) rfl rfl fun b7 => ?_
          refine s_st (e_st rfl rfl Tryz.sizeOf368 rfl rfl rfl rfl) rfl rfl ?_
          refine go_nil ?_
          refine tn ?_
          refine gc_seq ?_
          refine gc_region ?_
          refine sq (q_lda rfl Tryz.isAgg213 Tryz.sizeOf213 rfl) rfl rfl ?_
          refine sq (q_mv rfl) rfl rfl ?_
          refine s_callE (e_call (aat_spec s _) rfl en138) rfl rfl ?_
          refine sq (q_mv rfl) rfl rfl ?_
          refine bsp (fun h8 => ?_) (fun h8 => ?_)
          · refine sskip rfl rfl ?_
            refine sskip rfl rfl ?_
            refine sskip rfl rfl ?_
            refine sskip rfl rfl ?_
            refine sskip rfl rfl ?_
            refine sq (q_pick rfl rfl) rfl rfl ?_
            refine sq (q_fa rfl Tryz.runUnderlying368 rfl Tryz.sizeOf4) rfl rfl ?_
            refine s_st (e_st rfl rfl Tryz.sizeOf4 rfl rfl rfl rfl) rfl rfl ?_
            refine go_nil ?_
            refine tn ?_
            refine gc_seq ?_
            refine gc_seq ?_
            refine gc_region ?_
            refine sq (q_fa rfl Tryz.runUnderlying368 rfl Tryz.sizeOf4) rfl rfl ?_
            refine sq (q_ld rfl Tryz.isAgg4 rfl) rfl rfl ?_
            refine sq (q_not rfl) rfl rfl ?_
            refine go_nil ?_
            refine tn ?_
            refine gc_if rfl (fun h9 => ?_) (fun h9 => ?_)
            · refine gc_region ?_
              refine sq (q_fa rfl Tryz.runUnderlying368 rfl Tryz.sizeOf3) rfl rfl ?_
              refine sq (q_ld rfl Tryz.isAgg3 rfl) rfl rfl ?_
              refine sq (q_fa rfl Tryz.runUnderlying368 rfl Tryz.sizeOf3) rfl rfl ?_
              refine s_st (e_st rfl rfl Tryz.sizeOf3 rfl rfl rfl rfl) rfl rfl ?_
              refine go_nil ?_
              refine tn ?_
              refine gc_seq ?_
              refine gc_region ?_
              refine sq (q_lda rfl Tryz.isAgg368 Tryz.sizeOf368 rfl) rfl rfl ?_
              refine s_st (e_st rfl rfl Tryz.sizeOf368 rfl rfl rfl rfl) rfl rfl ?_
              refine go_nil ?_
              refine tn ?_
              refine gc_ret ?_
              refine ret_c (.inl rfl) rfl rfl Tryz.isAgg368 Tryz.sizeOf368 rfl ?_
              exact rsE (by first | rfl | (simp_all [planAt]; done) | (simp_all [planAt]; rfl) | (simp_all [planAt]; omega) | (simp_all [planAt]; intros; omega) | (simp_all [planAt]; (repeat' split) <;> first | rfl | (simp_all; done) | omega | (exfalso; omega)) | (simp only [planAt]; (repeat' split) <;> first | (simp_all; done) | (simp_all; omega) | omega | (exfalso; simp_all; omega)) | (simp_all; (simp only [planAt]; (repeat' split) <;> first | (simp_all; done) | (simp_all; omega) | omega | (exfalso; simp_all; omega))))
            · refine gc_skip ?_
              refine tn ?_
              refine gc_seq ?_
              refine gc_region ?_
              refine sq (q_lda rfl Tryz.isAgg368 Tryz.sizeOf368 rfl) rfl rfl ?_
              refine s_st (e_st rfl rfl Tryz.sizeOf368 rfl rfl rfl rfl) rfl rfl ?_
              refine go_nil ?_
              refine tn ?_
              refine gc_ret ?_
              refine ret_c (.inl rfl) rfl rfl Tryz.isAgg368 Tryz.sizeOf368 rfl ?_
              exact rsE (by first | rfl | (simp_all [planAt]; done) | (simp_all [planAt]; rfl) | (simp_all [planAt]; omega) | (simp_all [planAt]; intros; omega) | (simp_all [planAt]; (repeat' split) <;> first | rfl | (simp_all; done) | omega | (exfalso; omega)) | (simp only [planAt]; (repeat' split) <;> first | (simp_all; done) | (simp_all; omega) | omega | (exfalso; simp_all; omega)) | (simp_all; (simp only [planAt]; (repeat' split) <;> first | (simp_all; done) | (simp_all; omega) | omega | (exfalso; simp_all; omega))))
          · refine sq (q_lda rfl Tryz.isAgg213 Tryz.sizeOf213 rfl) rfl rfl ?_
            refine sq (q_mv rfl) rfl rfl ?_
            refine sq (q_fa rfl Tryz.runUnderlying368 rfl Tryz.sizeOf3) rfl rfl ?_
            refine sq (q_ld rfl Tryz.isAgg3 rfl) rfl rfl ?_
            refine s_callE (e_call (hall_spec s _ _) rfl en140) rfl rfl ?_
            refine sq (q_pick rfl rfl) rfl rfl ?_
            refine sq (q_fa rfl Tryz.runUnderlying368 rfl Tryz.sizeOf4) rfl rfl ?_
            refine s_st (e_st rfl rfl Tryz.sizeOf4 rfl rfl rfl rfl) rfl rfl ?_
            refine go_nil ?_
            refine tn ?_
            refine gc_seq ?_
            refine gc_seq ?_
            refine gc_region ?_
            refine sq (q_fa rfl Tryz.runUnderlying368 rfl Tryz.sizeOf4) rfl rfl ?_
            refine sq (q_ld rfl Tryz.isAgg4 rfl) rfl rfl ?_
            refine sq (q_not rfl) rfl rfl ?_
            refine go_nil ?_
            refine tn ?_
            refine gc_if rfl (fun h10 => ?_) (fun h10 => ?_)
            · refine gc_region ?_
              refine sq (q_fa rfl Tryz.runUnderlying368 rfl Tryz.sizeOf3) rfl rfl ?_
              refine sq (q_ld rfl Tryz.isAgg3 rfl) rfl rfl ?_
              refine sq (q_fa rfl Tryz.runUnderlying368 rfl Tryz.sizeOf3) rfl rfl ?_
              refine s_st (e_st rfl rfl Tryz.sizeOf3 rfl rfl rfl rfl) rfl rfl ?_
              refine go_nil ?_
              refine tn ?_
              refine gc_seq ?_
              refine gc_region ?_
              refine sq (q_lda rfl Tryz.isAgg368 Tryz.sizeOf368 rfl) rfl rfl ?_
              refine s_st (e_st rfl rfl Tryz.sizeOf368 rfl rfl rfl rfl) rfl rfl ?_
              refine go_nil ?_
              refine tn ?_
              refine gc_ret ?_
              refine ret_c (.inl rfl) rfl rfl Tryz.isAgg368 Tryz.sizeOf368 rfl ?_
              exact rsE (by first | rfl | (simp_all [planAt]; done) | (simp_all [planAt]; rfl) | (simp_all [planAt]; omega) | (simp_all [planAt]; intros; omega) | (simp_all [planAt]; (repeat' split) <;> first | rfl | (simp_all; done) | omega | (exfalso; omega)) | (simp only [planAt]; (repeat' split) <;> first | (simp_all; done) | (simp_all; omega) | omega | (exfalso; simp_all; omega)) | (simp_all; (simp only [planAt]; (repeat' split) <;> first | (simp_all; done) | (simp_all; omega) | omega | (exfalso; simp_all; omega))))
            · refine gc_skip ?_
              refine tn ?_
              refine gc_seq ?_
              refine gc_region ?_
              refine sq (q_lda rfl Tryz.isAgg368 Tryz.sizeOf368 rfl) rfl rfl ?_
              refine s_st (e_st rfl rfl Tryz.sizeOf368 rfl rfl rfl rfl) rfl rfl ?_
              refine go_nil ?_
              refine tn ?_
              refine gc_ret ?_
              refine ret_c (.inl rfl) rfl rfl Tryz.isAgg368 Tryz.sizeOf368 rfl ?_
              exact rsE (by first | rfl | (simp_all [planAt]; done) | (simp_all [planAt]; rfl) | (simp_all [planAt]; omega) | (simp_all [planAt]; intros; omega) | (simp_all [planAt]; (repeat' split) <;> first | rfl | (simp_all; done) | omega | (exfalso; omega)) | (simp only [planAt]; (repeat' split) <;> first | (simp_all; done) | (simp_all; omega) | omega | (exfalso; simp_all; omega)) | (simp_all; (simp only [planAt]; (repeat' split) <;> first | (simp_all; done) | (simp_all; omega) | omega | (exfalso; simp_all; omega))))
end Go.LL
