/- Part of a claim: contracts of the program's functions, walked op by op. -/
import Derived.Test.YthabegpfnfbmaaaGreatDoorA13
import Derived.Test.YthabegpfnfbmaaaGreatDoorMO9
set_option linter.unusedSimpArgs false
set_option linter.unusedVariables false
namespace Go.LL
open Go.Proofs

set_option maxRecDepth 8000 in
set_option maxHeartbeats 2000000 in
theorem drive_spec (np : Nat) (p : NodeP) (nm : NodeM) (rv : Value) (ob : Bool) (hno : (nm.c.tick nm.h (Stops.mk (ofF (insTo nm.ins 64) 0#64) 0#64 0#64) ob).2.opened = false) :
    Spec Tryz.prog 60 [pt np, rv, .bool ob] [(np, NodeM.o 129 p nm)] [(p.c, .cells #[.map none] 158 (0, 0)), (13, .cells dbCells.toArray 432 (0, 0))] (fun v L => ∃ s : Sli, SlE s (driveE nm.id (nm.c.tick nm.h (Stops.mk (ofF (insTo nm.ins 64) 0#64) 0#64 0#64) ob).2) ∧ v = s.v ∧ L = (np, NodeM.o 129 p { nm with c := (nm.c.tick nm.h (Stops.mk (ofF (insTo nm.ins 64) 0#64) 0#64 0#64) ob).1 }) :: s.L 76) := by
  refine spec_of Tryz.func60 rfl Tryz.ntmps60 (by simp) fun w0 hb => ?_
  refine gc_seq ?_
  refine gc_region ?_
  refine sq (q_as rfl) rfl rfl ?_
  refine go_nil ?_
  refine tn ?_
  refine gc_seq ?_
  refine gc_seq ?_
  refine gc_region ?_
  refine sq (q_mv rfl) rfl rfl ?_
  refine sq (q_nc rfl) rfl rfl ?_
  refine sq (q_fa rfl Tryz.runUnderlying129 rfl Tryz.sizeOf125) rfl rfl ?_
  refine sq (q_ld rfl Tryz.isAgg125 rfl) rfl rfl ?_
  refine s_callE (e_call (allnil_spec p.c) rfl en71) rfl rfl ?_
  refine sq (q_lenS Tryz.runUnderlying58 rfl) rfl rfl ?_
  refine sq (q_mv rfl) rfl rfl ?_
  refine go_nil ?_
  refine tn ?_
  refine gc_block ?_
  refine gc_unroll 1 (gr_succ ?_)
  refine gc_seq ?_
  refine gc_region ?_
  refine sq (q_lss rfl rfl) rfl rfl ?_
  refine go_nil ?_
  refine tn ?_
  refine gc_seq ?_
  refine gc_if rfl (fun h1 => ?_) (fun h1 => ?_)
  · refine gc_skip ?_
    refine tn ?_
    refine gc_seq ?_
    refine gc_block ?_
    refine gc_seq ?_
    exfalso; simp_all
  · refine gc_exit ?_
    refine tx (tx (bx (tn ?_)))
    refine gc_seq ?_
    refine gc_mid (A := Nat × Nat) (fun y => [(0, pt np), (1, rv), (2, .bool ob), (9, pt y.1), (10, pt y.2)]) (fun y => [(y.2, .cells ([.bool (nm.c.tick nm.h (Stops.mk (ofF (insTo nm.ins 64) 0#64) 0#64 0#64) ob).2.opened, .bool (nm.c.tick nm.h (Stops.mk (ofF (insTo nm.ins 64) 0#64) 0#64 0#64) ob).2.closed, i6 (nm.c.tick nm.h (Stops.mk (ofF (insTo nm.ins 64) 0#64) 0#64 0#64) ob).2.floor, i6 (nm.c.tick nm.h (Stops.mk (ofF (insTo nm.ins 64) 0#64) 0#64 0#64) ob).2.lantern, i6 (nm.c.tick nm.h (Stops.mk (ofF (insTo nm.ins 64) 0#64) 0#64 0#64) ob).2.moved, uv (nm.c.tick nm.h (Stops.mk (ofF (insTo nm.ins 64) 0#64) 0#64 0#64) ob).2.stops.car, uv (nm.c.tick nm.h (Stops.mk (ofF (insTo nm.ins 64) 0#64) 0#64 0#64) ob).2.stops.up, uv (nm.c.tick nm.h (Stops.mk (ofF (insTo nm.ins 64) 0#64) 0#64 0#64) ob).2.stops.down] : List Value).toArray 232 (0, 0)), (y.1, .cells ([i6 (nm.c.tick nm.h (Stops.mk (ofF (insTo nm.ins 64) 0#64) 0#64 0#64) ob).1.s.pos, i6 (nm.c.tick nm.h (Stops.mk (ofF (insTo nm.ins 64) 0#64) 0#64 0#64) ob).1.s.dir, i6 (nm.c.tick nm.h (Stops.mk (ofF (insTo nm.ins 64) 0#64) 0#64 0#64) ob).1.s.door, .bool (nm.c.tick nm.h (Stops.mk (ofF (insTo nm.ins 64) 0#64) 0#64 0#64) ob).1.s.relevel, i6 (nm.c.tick nm.h (Stops.mk (ofF (insTo nm.ins 64) 0#64) 0#64 0#64) ob).1.held] : List Value).toArray 64 (0, 0)), (np, NodeM.o 129 p nm)]) ?_ (fun y => ?_)
    · refine gc_drawY mixed (List.Sublist.refl _) ?_
      refine gy_q (i := 0) (q_mv rfl) rfl rfl rfl (by kernel_rfl) (by kernel_rfl) ?_
      refine gy_q (i := 1) (q_nc rfl) rfl rfl rfl (by kernel_rfl) (by kernel_rfl) ?_
      refine gy_q (i := 2) (q_fa rfl Tryz.runUnderlying129 rfl Tryz.sizeOf29) rfl rfl rfl (by kernel_rfl) (by kernel_rfl) ?_
      refine gy_q (i := 3) (q_lda rfl Tryz.isAgg29 Tryz.sizeOf29 rfl) rfl rfl rfl (by kernel_rfl) (by kernel_rfl) ?_
      refine gy_q (i := 4) (q_mv rfl) rfl rfl rfl (by kernel_rfl) (by kernel_rfl) ?_
      refine gy_q (i := 5) (q_nc rfl) rfl rfl rfl (by kernel_rfl) (by kernel_rfl) ?_
      refine gy_q (i := 6) (q_fa rfl Tryz.runUnderlying129 rfl Tryz.sizeOf64) rfl rfl rfl (by kernel_rfl) (by kernel_rfl) ?_
      refine gy_q (i := 7) (q_lda rfl Tryz.isAgg64 Tryz.sizeOf64 rfl) rfl rfl rfl (by kernel_rfl) (by kernel_rfl) ?_
      refine gy_q (i := 8) (q_mv rfl) rfl rfl rfl (by kernel_rfl) (by kernel_rfl) ?_
      refine gy_q (i := 10) (q_mv rfl) rfl rfl rfl (by kernel_rfl) (by kernel_rfl) ?_
      refine gy_3 (i := 9) (j := 15) (k := 16) (by kernel_rfl) ?_ ?_ ?_
      · refine ga_callE (e_call (stops_spec np p nm) rfl en122) rfl rfl rfl (by repeat (first | exact List.nil_sublist _ | exact List.Sublist.refl _ | exact List.sublist_append_right _ _ | apply List.Sublist.cons_cons | apply List.Sublist.cons | refine List.Sublist.trans ?_ (List.sublist_append_right _ _))) ?_
        refine gy_3 (i := 11) (j := 15) (k := 16) (by kernel_rfl) ?_ ?_ ?_
        · refine ga_callE (e_call (ctick_spec nm.h nm.c (Stops.mk (ofF (insTo nm.ins 64) 0#64) 0#64 0#64) ob) rfl en137) rfl rfl rfl (by repeat (first | exact List.nil_sublist _ | exact List.Sublist.refl _ | exact List.sublist_append_right _ _ | apply List.Sublist.cons_cons | apply List.Sublist.cons | refine List.Sublist.trans ?_ (List.sublist_append_right _ _))) ?_
          refine gy_q (i := 12) (q_mv rfl) rfl rfl rfl (by kernel_rfl) (by kernel_rfl) ?_
          refine gy_q (i := 13) (q_ext rfl rfl) rfl rfl rfl (by kernel_rfl) (by kernel_rfl) ?_
          refine gy_q (i := 14) (q_ext rfl rfl) rfl rfl rfl (by kernel_rfl) (by kernel_rfl) ?_
          refine gy_2 (i := 15) (j := 16) (by kernel_rfl) ?_ ?_
          · refine ga_new (e_alloc Tryz.zeroValue64 rfl) rfl rfl rfl (by repeat (first | exact List.nil_sublist _ | exact List.Sublist.refl _ | exact List.sublist_append_right _ _ | apply List.Sublist.cons_cons | apply List.Sublist.cons | refine List.Sublist.trans ?_ (List.sublist_append_right _ _))) fun b2 => ?_
            refine gy_1 (i := 16) (by kernel_rfl) (ga_new (e_alloc Tryz.zeroValue232 rfl) rfl rfl rfl (by repeat (first | exact List.nil_sublist _ | exact List.Sublist.refl _ | exact List.sublist_append_right _ _ | apply List.Sublist.cons_cons | apply List.Sublist.cons | refine List.Sublist.trans ?_ (List.sublist_append_right _ _))) fun b3 => ?_)
            refine gy_1 (i := 17) (by kernel_rfl) (ga_st (e_st rfl rfl Tryz.sizeOf64 rfl rfl rfl rfl) rfl rfl rfl (by repeat (first | exact List.nil_sublist _ | exact List.Sublist.refl _ | exact List.sublist_append_right _ _ | apply List.Sublist.cons_cons | apply List.Sublist.cons | refine List.Sublist.trans ?_ (List.sublist_append_right _ _))) ?_)
            refine gy_1 (i := 18) (by kernel_rfl) (ga_st (e_st rfl rfl Tryz.sizeOf232 rfl rfl rfl rfl) rfl rfl rfl (by repeat (first | exact List.nil_sublist _ | exact List.Sublist.refl _ | exact List.sublist_append_right _ _ | apply List.Sublist.cons_cons | apply List.Sublist.cons | refine List.Sublist.trans ?_ (List.sublist_append_right _ _))) ?_)
            refine gy_nil (by kernel_rfl) ?_
            exact aq_mid (b2, b3) ⟨rfl, rfl, rfl, rfl, rfl, trivial⟩ hpS
          · refine ga_new (e_alloc Tryz.zeroValue232 rfl) rfl rfl rfl (by repeat (first | exact List.nil_sublist _ | exact List.Sublist.refl _ | exact List.sublist_append_right _ _ | apply List.Sublist.cons_cons | apply List.Sublist.cons | refine List.Sublist.trans ?_ (List.sublist_append_right _ _))) fun b4 => ?_
            refine gy_1 (i := 15) (by kernel_rfl) (ga_new (e_alloc Tryz.zeroValue64 rfl) rfl rfl rfl (by repeat (first | exact List.nil_sublist _ | exact List.Sublist.refl _ | exact List.sublist_append_right _ _ | apply List.Sublist.cons_cons | apply List.Sublist.cons | refine List.Sublist.trans ?_ (List.sublist_append_right _ _))) fun b5 => ?_)
            refine gy_1 (i := 17) (by kernel_rfl) (ga_st (e_st rfl rfl Tryz.sizeOf64 rfl rfl rfl rfl) rfl rfl rfl (by repeat (first | exact List.nil_sublist _ | exact List.Sublist.refl _ | exact List.sublist_append_right _ _ | apply List.Sublist.cons_cons | apply List.Sublist.cons | refine List.Sublist.trans ?_ (List.sublist_append_right _ _))) ?_)
            refine gy_1 (i := 18) (by kernel_rfl) (ga_st (e_st rfl rfl Tryz.sizeOf232 rfl rfl rfl rfl) rfl rfl rfl (by repeat (first | exact List.nil_sublist _ | exact List.Sublist.refl _ | exact List.sublist_append_right _ _ | apply List.Sublist.cons_cons | apply List.Sublist.cons | refine List.Sublist.trans ?_ (List.sublist_append_right _ _))) ?_)
            refine gy_nil (by kernel_rfl) ?_
            exact aq_mid (b5, b4) ⟨rfl, rfl, rfl, rfl, rfl, trivial⟩ hpS
        · refine ga_new (e_alloc Tryz.zeroValue64 rfl) rfl rfl rfl (by repeat (first | exact List.nil_sublist _ | exact List.Sublist.refl _ | exact List.sublist_append_right _ _ | apply List.Sublist.cons_cons | apply List.Sublist.cons | refine List.Sublist.trans ?_ (List.sublist_append_right _ _))) fun b6 => ?_
          refine gy_2 (i := 11) (j := 16) (by kernel_rfl) ?_ ?_
          · refine ga_callE (e_call (ctick_spec nm.h nm.c (Stops.mk (ofF (insTo nm.ins 64) 0#64) 0#64 0#64) ob) rfl en137) rfl rfl rfl (by repeat (first | exact List.nil_sublist _ | exact List.Sublist.refl _ | exact List.sublist_append_right _ _ | apply List.Sublist.cons_cons | apply List.Sublist.cons | refine List.Sublist.trans ?_ (List.sublist_append_right _ _))) ?_
            refine gy_q (i := 12) (q_mv rfl) rfl rfl rfl (by kernel_rfl) (by kernel_rfl) ?_
            refine gy_q (i := 13) (q_ext rfl rfl) rfl rfl rfl (by kernel_rfl) (by kernel_rfl) ?_
            refine gy_q (i := 14) (q_ext rfl rfl) rfl rfl rfl (by kernel_rfl) (by kernel_rfl) ?_
            refine gy_1 (i := 16) (by kernel_rfl) (ga_new (e_alloc Tryz.zeroValue232 rfl) rfl rfl rfl (by repeat (first | exact List.nil_sublist _ | exact List.Sublist.refl _ | exact List.sublist_append_right _ _ | apply List.Sublist.cons_cons | apply List.Sublist.cons | refine List.Sublist.trans ?_ (List.sublist_append_right _ _))) fun b7 => ?_)
            refine gy_1 (i := 17) (by kernel_rfl) (ga_st (e_st rfl rfl Tryz.sizeOf64 rfl rfl rfl rfl) rfl rfl rfl (by repeat (first | exact List.nil_sublist _ | exact List.Sublist.refl _ | exact List.sublist_append_right _ _ | apply List.Sublist.cons_cons | apply List.Sublist.cons | refine List.Sublist.trans ?_ (List.sublist_append_right _ _))) ?_)
            refine gy_1 (i := 18) (by kernel_rfl) (ga_st (e_st rfl rfl Tryz.sizeOf232 rfl rfl rfl rfl) rfl rfl rfl (by repeat (first | exact List.nil_sublist _ | exact List.Sublist.refl _ | exact List.sublist_append_right _ _ | apply List.Sublist.cons_cons | apply List.Sublist.cons | refine List.Sublist.trans ?_ (List.sublist_append_right _ _))) ?_)
            refine gy_nil (by kernel_rfl) ?_
            exact aq_mid (b6, b7) ⟨rfl, rfl, rfl, rfl, rfl, trivial⟩ hpS
          · refine ga_new (e_alloc Tryz.zeroValue232 rfl) rfl rfl rfl (by repeat (first | exact List.nil_sublist _ | exact List.Sublist.refl _ | exact List.sublist_append_right _ _ | apply List.Sublist.cons_cons | apply List.Sublist.cons | refine List.Sublist.trans ?_ (List.sublist_append_right _ _))) fun b8 => ?_
            refine gy_1 (i := 11) (by kernel_rfl) (ga_callE (e_call (ctick_spec nm.h nm.c (Stops.mk (ofF (insTo nm.ins 64) 0#64) 0#64 0#64) ob) rfl en137) rfl rfl rfl (by repeat (first | exact List.nil_sublist _ | exact List.Sublist.refl _ | exact List.sublist_append_right _ _ | apply List.Sublist.cons_cons | apply List.Sublist.cons | refine List.Sublist.trans ?_ (List.sublist_append_right _ _))) ?_)
            refine gy_1 (i := 12) (by kernel_rfl) (ga_qe (q_mv rfl) rfl rfl rfl (by repeat (first | exact List.nil_sublist _ | exact List.Sublist.refl _ | exact List.sublist_append_right _ _ | apply List.Sublist.cons_cons | apply List.Sublist.cons | refine List.Sublist.trans ?_ (List.sublist_append_right _ _))) ?_)
            refine gy_q (i := 13) (q_ext rfl rfl) rfl rfl rfl (by kernel_rfl) (by kernel_rfl) ?_
            refine gy_q (i := 14) (q_ext rfl rfl) rfl rfl rfl (by kernel_rfl) (by kernel_rfl) ?_
            refine gy_1 (i := 17) (by kernel_rfl) (ga_st (e_st rfl rfl Tryz.sizeOf64 rfl rfl rfl rfl) rfl rfl rfl (by repeat (first | exact List.nil_sublist _ | exact List.Sublist.refl _ | exact List.sublist_append_right _ _ | apply List.Sublist.cons_cons | apply List.Sublist.cons | refine List.Sublist.trans ?_ (List.sublist_append_right _ _))) ?_)
            refine gy_1 (i := 18) (by kernel_rfl) (ga_st (e_st rfl rfl Tryz.sizeOf232 rfl rfl rfl rfl) rfl rfl rfl (by repeat (first | exact List.nil_sublist _ | exact List.Sublist.refl _ | exact List.sublist_append_right _ _ | apply List.Sublist.cons_cons | apply List.Sublist.cons | refine List.Sublist.trans ?_ (List.sublist_append_right _ _))) ?_)
            refine gy_nil (by kernel_rfl) ?_
            exact aq_mid (b6, b8) ⟨rfl, rfl, rfl, rfl, rfl, trivial⟩ hpS
        · refine ga_new (e_alloc Tryz.zeroValue232 rfl) rfl rfl rfl (by repeat (first | exact List.nil_sublist _ | exact List.Sublist.refl _ | exact List.sublist_append_right _ _ | apply List.Sublist.cons_cons | apply List.Sublist.cons | refine List.Sublist.trans ?_ (List.sublist_append_right _ _))) fun b9 => ?_
          refine gy_2 (i := 11) (j := 15) (by kernel_rfl) ?_ ?_
          · refine ga_callE (e_call (ctick_spec nm.h nm.c (Stops.mk (ofF (insTo nm.ins 64) 0#64) 0#64 0#64) ob) rfl en137) rfl rfl rfl (by repeat (first | exact List.nil_sublist _ | exact List.Sublist.refl _ | exact List.sublist_append_right _ _ | apply List.Sublist.cons_cons | apply List.Sublist.cons | refine List.Sublist.trans ?_ (List.sublist_append_right _ _))) ?_
            refine gy_q (i := 12) (q_mv rfl) rfl rfl rfl (by kernel_rfl) (by kernel_rfl) ?_
            refine gy_q (i := 13) (q_ext rfl rfl) rfl rfl rfl (by kernel_rfl) (by kernel_rfl) ?_
            refine gy_q (i := 14) (q_ext rfl rfl) rfl rfl rfl (by kernel_rfl) (by kernel_rfl) ?_
            refine gy_1 (i := 15) (by kernel_rfl) (ga_new (e_alloc Tryz.zeroValue64 rfl) rfl rfl rfl (by repeat (first | exact List.nil_sublist _ | exact List.Sublist.refl _ | exact List.sublist_append_right _ _ | apply List.Sublist.cons_cons | apply List.Sublist.cons | refine List.Sublist.trans ?_ (List.sublist_append_right _ _))) fun b10 => ?_)
            refine gy_1 (i := 17) (by kernel_rfl) (ga_st (e_st rfl rfl Tryz.sizeOf64 rfl rfl rfl rfl) rfl rfl rfl (by repeat (first | exact List.nil_sublist _ | exact List.Sublist.refl _ | exact List.sublist_append_right _ _ | apply List.Sublist.cons_cons | apply List.Sublist.cons | refine List.Sublist.trans ?_ (List.sublist_append_right _ _))) ?_)
            refine gy_1 (i := 18) (by kernel_rfl) (ga_st (e_st rfl rfl Tryz.sizeOf232 rfl rfl rfl rfl) rfl rfl rfl (by repeat (first | exact List.nil_sublist _ | exact List.Sublist.refl _ | exact List.sublist_append_right _ _ | apply List.Sublist.cons_cons | apply List.Sublist.cons | refine List.Sublist.trans ?_ (List.sublist_append_right _ _))) ?_)
            refine gy_nil (by kernel_rfl) ?_
            exact aq_mid (b10, b9) ⟨rfl, rfl, rfl, rfl, rfl, trivial⟩ hpS
          · refine ga_new (e_alloc Tryz.zeroValue64 rfl) rfl rfl rfl (by repeat (first | exact List.nil_sublist _ | exact List.Sublist.refl _ | exact List.sublist_append_right _ _ | apply List.Sublist.cons_cons | apply List.Sublist.cons | refine List.Sublist.trans ?_ (List.sublist_append_right _ _))) fun b11 => ?_
            refine gy_1 (i := 11) (by kernel_rfl) (ga_callE (e_call (ctick_spec nm.h nm.c (Stops.mk (ofF (insTo nm.ins 64) 0#64) 0#64 0#64) ob) rfl en137) rfl rfl rfl (by repeat (first | exact List.nil_sublist _ | exact List.Sublist.refl _ | exact List.sublist_append_right _ _ | apply List.Sublist.cons_cons | apply List.Sublist.cons | refine List.Sublist.trans ?_ (List.sublist_append_right _ _))) ?_)
            refine gy_1 (i := 12) (by kernel_rfl) (ga_qe (q_mv rfl) rfl rfl rfl (by repeat (first | exact List.nil_sublist _ | exact List.Sublist.refl _ | exact List.sublist_append_right _ _ | apply List.Sublist.cons_cons | apply List.Sublist.cons | refine List.Sublist.trans ?_ (List.sublist_append_right _ _))) ?_)
            refine gy_q (i := 13) (q_ext rfl rfl) rfl rfl rfl (by kernel_rfl) (by kernel_rfl) ?_
            refine gy_q (i := 14) (q_ext rfl rfl) rfl rfl rfl (by kernel_rfl) (by kernel_rfl) ?_
            refine gy_1 (i := 17) (by kernel_rfl) (ga_st (e_st rfl rfl Tryz.sizeOf64 rfl rfl rfl rfl) rfl rfl rfl (by repeat (first | exact List.nil_sublist _ | exact List.Sublist.refl _ | exact List.sublist_append_right _ _ | apply List.Sublist.cons_cons | apply List.Sublist.cons | refine List.Sublist.trans ?_ (List.sublist_append_right _ _))) ?_)
            refine gy_1 (i := 18) (by kernel_rfl) (ga_st (e_st rfl rfl Tryz.sizeOf232 rfl rfl rfl rfl) rfl rfl rfl (by repeat (first | exact List.nil_sublist _ | exact List.Sublist.refl _ | exact List.sublist_append_right _ _ | apply List.Sublist.cons_cons | apply List.Sublist.cons | refine List.Sublist.trans ?_ (List.sublist_append_right _ _))) ?_)
            refine gy_nil (by kernel_rfl) ?_
            exact aq_mid (b11, b9) ⟨rfl, rfl, rfl, rfl, rfl, trivial⟩ hpS
      · refine ga_new (e_alloc Tryz.zeroValue64 rfl) rfl rfl rfl (by repeat (first | exact List.nil_sublist _ | exact List.Sublist.refl _ | exact List.sublist_append_right _ _ | apply List.Sublist.cons_cons | apply List.Sublist.cons | refine List.Sublist.trans ?_ (List.sublist_append_right _ _))) fun b12 => ?_
        refine gy_2 (i := 9) (j := 16) (by kernel_rfl) ?_ ?_
        · refine ga_callE (e_call (stops_spec np p nm) rfl en122) rfl rfl rfl (by repeat (first | exact List.nil_sublist _ | exact List.Sublist.refl _ | exact List.sublist_append_right _ _ | apply List.Sublist.cons_cons | apply List.Sublist.cons | refine List.Sublist.trans ?_ (List.sublist_append_right _ _))) ?_
          refine gy_2 (i := 11) (j := 16) (by kernel_rfl) ?_ ?_
          · refine ga_callE (e_call (ctick_spec nm.h nm.c (Stops.mk (ofF (insTo nm.ins 64) 0#64) 0#64 0#64) ob) rfl en137) rfl rfl rfl (by repeat (first | exact List.nil_sublist _ | exact List.Sublist.refl _ | exact List.sublist_append_right _ _ | apply List.Sublist.cons_cons | apply List.Sublist.cons | refine List.Sublist.trans ?_ (List.sublist_append_right _ _))) ?_
            refine gy_q (i := 12) (q_mv rfl) rfl rfl rfl (by kernel_rfl) (by kernel_rfl) ?_
            refine gy_q (i := 13) (q_ext rfl rfl) rfl rfl rfl (by kernel_rfl) (by kernel_rfl) ?_
            refine gy_q (i := 14) (q_ext rfl rfl) rfl rfl rfl (by kernel_rfl) (by kernel_rfl) ?_
            refine gy_1 (i := 16) (by kernel_rfl) (ga_new (e_alloc Tryz.zeroValue232 rfl) rfl rfl rfl (by repeat (first | exact List.nil_sublist _ | exact List.Sublist.refl _ | exact List.sublist_append_right _ _ | apply List.Sublist.cons_cons | apply List.Sublist.cons | refine List.Sublist.trans ?_ (List.sublist_append_right _ _))) fun b13 => ?_)
            refine gy_1 (i := 17) (by kernel_rfl) (ga_st (e_st rfl rfl Tryz.sizeOf64 rfl rfl rfl rfl) rfl rfl rfl (by repeat (first | exact List.nil_sublist _ | exact List.Sublist.refl _ | exact List.sublist_append_right _ _ | apply List.Sublist.cons_cons | apply List.Sublist.cons | refine List.Sublist.trans ?_ (List.sublist_append_right _ _))) ?_)
            refine gy_1 (i := 18) (by kernel_rfl) (ga_st (e_st rfl rfl Tryz.sizeOf232 rfl rfl rfl rfl) rfl rfl rfl (by repeat (first | exact List.nil_sublist _ | exact List.Sublist.refl _ | exact List.sublist_append_right _ _ | apply List.Sublist.cons_cons | apply List.Sublist.cons | refine List.Sublist.trans ?_ (List.sublist_append_right _ _))) ?_)
            refine gy_nil (by kernel_rfl) ?_
            exact aq_mid (b12, b13) ⟨rfl, rfl, rfl, rfl, rfl, trivial⟩ hpS
          · refine ga_new (e_alloc Tryz.zeroValue232 rfl) rfl rfl rfl (by repeat (first | exact List.nil_sublist _ | exact List.Sublist.refl _ | exact List.sublist_append_right _ _ | apply List.Sublist.cons_cons | apply List.Sublist.cons | refine List.Sublist.trans ?_ (List.sublist_append_right _ _))) fun b14 => ?_
            refine gy_1 (i := 11) (by kernel_rfl) (ga_callE (e_call (ctick_spec nm.h nm.c (Stops.mk (ofF (insTo nm.ins 64) 0#64) 0#64 0#64) ob) rfl en137) rfl rfl rfl (by repeat (first | exact List.nil_sublist _ | exact List.Sublist.refl _ | exact List.sublist_append_right _ _ | apply List.Sublist.cons_cons | apply List.Sublist.cons | refine List.Sublist.trans ?_ (List.sublist_append_right _ _))) ?_)
            refine gy_1 (i := 12) (by kernel_rfl) (ga_qe (q_mv rfl) rfl rfl rfl (by repeat (first | exact List.nil_sublist _ | exact List.Sublist.refl _ | exact List.sublist_append_right _ _ | apply List.Sublist.cons_cons | apply List.Sublist.cons | refine List.Sublist.trans ?_ (List.sublist_append_right _ _))) ?_)
            refine gy_q (i := 13) (q_ext rfl rfl) rfl rfl rfl (by kernel_rfl) (by kernel_rfl) ?_
            refine gy_q (i := 14) (q_ext rfl rfl) rfl rfl rfl (by kernel_rfl) (by kernel_rfl) ?_
            refine gy_1 (i := 17) (by kernel_rfl) (ga_st (e_st rfl rfl Tryz.sizeOf64 rfl rfl rfl rfl) rfl rfl rfl (by repeat (first | exact List.nil_sublist _ | exact List.Sublist.refl _ | exact List.sublist_append_right _ _ | apply List.Sublist.cons_cons | apply List.Sublist.cons | refine List.Sublist.trans ?_ (List.sublist_append_right _ _))) ?_)
            refine gy_1 (i := 18) (by kernel_rfl) (ga_st (e_st rfl rfl Tryz.sizeOf232 rfl rfl rfl rfl) rfl rfl rfl (by repeat (first | exact List.nil_sublist _ | exact List.Sublist.refl _ | exact List.sublist_append_right _ _ | apply List.Sublist.cons_cons | apply List.Sublist.cons | refine List.Sublist.trans ?_ (List.sublist_append_right _ _))) ?_)
            refine gy_nil (by kernel_rfl) ?_
            exact aq_mid (b12, b14) ⟨rfl, rfl, rfl, rfl, rfl, trivial⟩ hpS
        · refine ga_new (e_alloc Tryz.zeroValue232 rfl) rfl rfl rfl (by repeat (first | exact List.nil_sublist _ | exact List.Sublist.refl _ | exact List.sublist_append_right _ _ | apply List.Sublist.cons_cons | apply List.Sublist.cons | refine List.Sublist.trans ?_ (List.sublist_append_right _ _))) fun b15 => ?_
          refine gy_1 (i := 9) (by kernel_rfl) (ga_callE (e_call (stops_spec np p nm) rfl en122) rfl rfl rfl (by repeat (first | exact List.nil_sublist _ | exact List.Sublist.refl _ | exact List.sublist_append_right _ _ | apply List.Sublist.cons_cons | apply List.Sublist.cons | refine List.Sublist.trans ?_ (List.sublist_append_right _ _))) ?_)
          refine gy_1 (i := 11) (by kernel_rfl) (ga_callE (e_call (ctick_spec nm.h nm.c (Stops.mk (ofF (insTo nm.ins 64) 0#64) 0#64 0#64) ob) rfl en137) rfl rfl rfl (by repeat (first | exact List.nil_sublist _ | exact List.Sublist.refl _ | exact List.sublist_append_right _ _ | apply List.Sublist.cons_cons | apply List.Sublist.cons | refine List.Sublist.trans ?_ (List.sublist_append_right _ _))) ?_)
          refine gy_1 (i := 12) (by kernel_rfl) (ga_qe (q_mv rfl) rfl rfl rfl (by repeat (first | exact List.nil_sublist _ | exact List.Sublist.refl _ | exact List.sublist_append_right _ _ | apply List.Sublist.cons_cons | apply List.Sublist.cons | refine List.Sublist.trans ?_ (List.sublist_append_right _ _))) ?_)
          refine gy_q (i := 13) (q_ext rfl rfl) rfl rfl rfl (by kernel_rfl) (by kernel_rfl) ?_
          refine gy_q (i := 14) (q_ext rfl rfl) rfl rfl rfl (by kernel_rfl) (by kernel_rfl) ?_
          refine gy_1 (i := 17) (by kernel_rfl) (ga_st (e_st rfl rfl Tryz.sizeOf64 rfl rfl rfl rfl) rfl rfl rfl (by repeat (first | exact List.nil_sublist _ | exact List.Sublist.refl _ | exact List.sublist_append_right _ _ | apply List.Sublist.cons_cons | apply List.Sublist.cons | refine List.Sublist.trans ?_ (List.sublist_append_right _ _))) ?_)
          refine gy_1 (i := 18) (by kernel_rfl) (ga_st (e_st rfl rfl Tryz.sizeOf232 rfl rfl rfl rfl) rfl rfl rfl (by repeat (first | exact List.nil_sublist _ | exact List.Sublist.refl _ | exact List.sublist_append_right _ _ | apply List.Sublist.cons_cons | apply List.Sublist.cons | refine List.Sublist.trans ?_ (List.sublist_append_right _ _))) ?_)
          refine gy_nil (by kernel_rfl) ?_
          exact aq_mid (b12, b15) ⟨rfl, rfl, rfl, rfl, rfl, trivial⟩ hpS
      · refine ga_new (e_alloc Tryz.zeroValue232 rfl) rfl rfl rfl (by repeat (first | exact List.nil_sublist _ | exact List.Sublist.refl _ | exact List.sublist_append_right _ _ | apply List.Sublist.cons_cons | apply List.Sublist.cons | refine List.Sublist.trans ?_ (List.sublist_append_right _ _))) fun b16 => ?_
        refine gy_2 (i := 9) (j := 15) (by kernel_rfl) ?_ ?_
        · refine ga_callE (e_call (stops_spec np p nm) rfl en122) rfl rfl rfl (by repeat (first | exact List.nil_sublist _ | exact List.Sublist.refl _ | exact List.sublist_append_right _ _ | apply List.Sublist.cons_cons | apply List.Sublist.cons | refine List.Sublist.trans ?_ (List.sublist_append_right _ _))) ?_
          refine gy_2 (i := 11) (j := 15) (by kernel_rfl) ?_ ?_
          · refine ga_callE (e_call (ctick_spec nm.h nm.c (Stops.mk (ofF (insTo nm.ins 64) 0#64) 0#64 0#64) ob) rfl en137) rfl rfl rfl (by repeat (first | exact List.nil_sublist _ | exact List.Sublist.refl _ | exact List.sublist_append_right _ _ | apply List.Sublist.cons_cons | apply List.Sublist.cons | refine List.Sublist.trans ?_ (List.sublist_append_right _ _))) ?_
            refine gy_q (i := 12) (q_mv rfl) rfl rfl rfl (by kernel_rfl) (by kernel_rfl) ?_
            refine gy_q (i := 13) (q_ext rfl rfl) rfl rfl rfl (by kernel_rfl) (by kernel_rfl) ?_
            refine gy_q (i := 14) (q_ext rfl rfl) rfl rfl rfl (by kernel_rfl) (by kernel_rfl) ?_
            refine gy_1 (i := 15) (by kernel_rfl) (ga_new (e_alloc Tryz.zeroValue64 rfl) rfl rfl rfl (by repeat (first | exact List.nil_sublist _ | exact List.Sublist.refl _ | exact List.sublist_append_right _ _ | apply List.Sublist.cons_cons | apply List.Sublist.cons | refine List.Sublist.trans ?_ (List.sublist_append_right _ _))) fun b17 => ?_)
            refine gy_1 (i := 17) (by kernel_rfl) (ga_st (e_st rfl rfl Tryz.sizeOf64 rfl rfl rfl rfl) rfl rfl rfl (by repeat (first | exact List.nil_sublist _ | exact List.Sublist.refl _ | exact List.sublist_append_right _ _ | apply List.Sublist.cons_cons | apply List.Sublist.cons | refine List.Sublist.trans ?_ (List.sublist_append_right _ _))) ?_)
            refine gy_1 (i := 18) (by kernel_rfl) (ga_st (e_st rfl rfl Tryz.sizeOf232 rfl rfl rfl rfl) rfl rfl rfl (by repeat (first | exact List.nil_sublist _ | exact List.Sublist.refl _ | exact List.sublist_append_right _ _ | apply List.Sublist.cons_cons | apply List.Sublist.cons | refine List.Sublist.trans ?_ (List.sublist_append_right _ _))) ?_)
            refine gy_nil (by kernel_rfl) ?_
            exact aq_mid (b17, b16) ⟨rfl, rfl, rfl, rfl, rfl, trivial⟩ hpS
          · refine ga_new (e_alloc Tryz.zeroValue64 rfl) rfl rfl rfl (by repeat (first | exact List.nil_sublist _ | exact List.Sublist.refl _ | exact List.sublist_append_right _ _ | apply List.Sublist.cons_cons | apply List.Sublist.cons | refine List.Sublist.trans ?_ (List.sublist_append_right _ _))) fun b18 => ?_
            refine gy_1 (i := 11) (by kernel_rfl) (ga_callE (e_call (ctick_spec nm.h nm.c (Stops.mk (ofF (insTo nm.ins 64) 0#64) 0#64 0#64) ob) rfl en137) rfl rfl rfl (by repeat (first | exact List.nil_sublist _ | exact List.Sublist.refl _ | exact List.sublist_append_right _ _ | apply List.Sublist.cons_cons | apply List.Sublist.cons | refine List.Sublist.trans ?_ (List.sublist_append_right _ _))) ?_)
            refine gy_1 (i := 12) (by kernel_rfl) (ga_qe (q_mv rfl) rfl rfl rfl (by repeat (first | exact List.nil_sublist _ | exact List.Sublist.refl _ | exact List.sublist_append_right _ _ | apply List.Sublist.cons_cons | apply List.Sublist.cons | refine List.Sublist.trans ?_ (List.sublist_append_right _ _))) ?_)
            refine gy_q (i := 13) (q_ext rfl rfl) rfl rfl rfl (by kernel_rfl) (by kernel_rfl) ?_
            refine gy_q (i := 14) (q_ext rfl rfl) rfl rfl rfl (by kernel_rfl) (by kernel_rfl) ?_
            refine gy_1 (i := 17) (by kernel_rfl) (ga_st (e_st rfl rfl Tryz.sizeOf64 rfl rfl rfl rfl) rfl rfl rfl (by repeat (first | exact List.nil_sublist _ | exact List.Sublist.refl _ | exact List.sublist_append_right _ _ | apply List.Sublist.cons_cons | apply List.Sublist.cons | refine List.Sublist.trans ?_ (List.sublist_append_right _ _))) ?_)
            refine gy_1 (i := 18) (by kernel_rfl) (ga_st (e_st rfl rfl Tryz.sizeOf232 rfl rfl rfl rfl) rfl rfl rfl (by repeat (first | exact List.nil_sublist _ | exact List.Sublist.refl _ | exact List.sublist_append_right _ _ | apply List.Sublist.cons_cons | apply List.Sublist.cons | refine List.Sublist.trans ?_ (List.sublist_append_right _ _))) ?_)
            refine gy_nil (by kernel_rfl) ?_
            exact aq_mid (b18, b16) ⟨rfl, rfl, rfl, rfl, rfl, trivial⟩ hpS
        · refine ga_new (e_alloc Tryz.zeroValue64 rfl) rfl rfl rfl (by repeat (first | exact List.nil_sublist _ | exact List.Sublist.refl _ | exact List.sublist_append_right _ _ | apply List.Sublist.cons_cons | apply List.Sublist.cons | refine List.Sublist.trans ?_ (List.sublist_append_right _ _))) fun b19 => ?_
          refine gy_1 (i := 9) (by kernel_rfl) (ga_callE (e_call (stops_spec np p nm) rfl en122) rfl rfl rfl (by repeat (first | exact List.nil_sublist _ | exact List.Sublist.refl _ | exact List.sublist_append_right _ _ | apply List.Sublist.cons_cons | apply List.Sublist.cons | refine List.Sublist.trans ?_ (List.sublist_append_right _ _))) ?_)
          refine gy_1 (i := 11) (by kernel_rfl) (ga_callE (e_call (ctick_spec nm.h nm.c (Stops.mk (ofF (insTo nm.ins 64) 0#64) 0#64 0#64) ob) rfl en137) rfl rfl rfl (by repeat (first | exact List.nil_sublist _ | exact List.Sublist.refl _ | exact List.sublist_append_right _ _ | apply List.Sublist.cons_cons | apply List.Sublist.cons | refine List.Sublist.trans ?_ (List.sublist_append_right _ _))) ?_)
          refine gy_1 (i := 12) (by kernel_rfl) (ga_qe (q_mv rfl) rfl rfl rfl (by repeat (first | exact List.nil_sublist _ | exact List.Sublist.refl _ | exact List.sublist_append_right _ _ | apply List.Sublist.cons_cons | apply List.Sublist.cons | refine List.Sublist.trans ?_ (List.sublist_append_right _ _))) ?_)
          refine gy_q (i := 13) (q_ext rfl rfl) rfl rfl rfl (by kernel_rfl) (by kernel_rfl) ?_
          refine gy_q (i := 14) (q_ext rfl rfl) rfl rfl rfl (by kernel_rfl) (by kernel_rfl) ?_
          refine gy_1 (i := 17) (by kernel_rfl) (ga_st (e_st rfl rfl Tryz.sizeOf64 rfl rfl rfl rfl) rfl rfl rfl (by repeat (first | exact List.nil_sublist _ | exact List.Sublist.refl _ | exact List.sublist_append_right _ _ | apply List.Sublist.cons_cons | apply List.Sublist.cons | refine List.Sublist.trans ?_ (List.sublist_append_right _ _))) ?_)
          refine gy_1 (i := 18) (by kernel_rfl) (ga_st (e_st rfl rfl Tryz.sizeOf232 rfl rfl rfl rfl) rfl rfl rfl (by repeat (first | exact List.nil_sublist _ | exact List.Sublist.refl _ | exact List.sublist_append_right _ _ | apply List.Sublist.cons_cons | apply List.Sublist.cons | refine List.Sublist.trans ?_ (List.sublist_append_right _ _))) ?_)
          refine gy_nil (by kernel_rfl) ?_
          exact aq_mid (b19, b16) ⟨rfl, rfl, rfl, rfl, rfl, trivial⟩ hpS
    · refine tn ?_
      refine gc_seq ?_
      refine gc_region ?_
      refine sq (q_mv rfl) rfl rfl ?_
      refine sq (q_lda rfl Tryz.isAgg64 Tryz.sizeOf64 rfl) rfl rfl ?_
      refine sq (q_nc rfl) rfl rfl ?_
      refine sq (q_fa rfl Tryz.runUnderlying129 rfl Tryz.sizeOf64) rfl rfl ?_
      refine s_st (e_st rfl rfl Tryz.sizeOf64 rfl rfl rfl rfl) rfl rfl ?_
      refine go_nil ?_
      refine tn ?_
      refine gc_seq ?_
      refine gc_block ?_
      refine gc_seq ?_
      refine gc_region ?_
      refine sq (q_fa rfl Tryz.runUnderlying232 rfl Tryz.sizeOf4) rfl rfl ?_
      refine sq (q_ld rfl Tryz.isAgg4 rfl) rfl rfl ?_
      refine sq (q_as rfl) rfl rfl ?_
      refine go_nil ?_
      refine tn ?_
      refine gc_if rfl (fun h20 => ?_) (fun h20 => ?_)
      · refine gc_seq ?_
        refine gc_draw (ord := [(0, true), (1, true), (2, true), (3, true), (4, false), (5, false), (6, false), (7, false)]) [8] mixed (by kernel_rfl) rfl (by kernel_rfl) (.cons_cons _ (.cons_cons _ (.cons_cons _ (.slnil)))) ?_
        refine gx_q (q_mv rfl) rfl rfl rfl ?_
        refine gx_q (q_nc rfl) rfl rfl rfl ?_
        refine gx_q (q_fa rfl Tryz.runUnderlying129 rfl Tryz.sizeOf3) rfl rfl rfl ?_
        refine gx_q (q_ld rfl Tryz.isAgg3 rfl) rfl rfl rfl ?_
        refine x_qe (q_fa rfl Tryz.runUnderlying232 rfl Tryz.sizeOf3) rfl rfl rfl (by repeat (first | exact List.nil_sublist _ | exact List.Sublist.refl _ | exact List.sublist_append_right _ _ | apply List.Sublist.cons_cons | apply List.Sublist.cons | refine List.Sublist.trans ?_ (List.sublist_append_right _ _))) ?_
        refine x_qe (q_ld rfl Tryz.isAgg3 rfl) rfl rfl rfl (by repeat (first | exact List.nil_sublist _ | exact List.Sublist.refl _ | exact List.sublist_append_right _ _ | apply List.Sublist.cons_cons | apply List.Sublist.cons | refine List.Sublist.trans ?_ (List.sublist_append_right _ _))) ?_
        refine x_qe (q_bld rfl Tryz.runUnderlying76 Tryz.zeroValue76 rfl pl76 rfl) rfl rfl rfl (by repeat (first | exact List.nil_sublist _ | exact List.Sublist.refl _ | exact List.sublist_append_right _ _ | apply List.Sublist.cons_cons | apply List.Sublist.cons | refine List.Sublist.trans ?_ (List.sublist_append_right _ _))) ?_
        refine x_bsl (e_bsl (zl := [.int .i64 0, .int .i64 0, .int .i64 0, .int .i64 0, .int .i64 0, .int .i64 0, .int .i64 0, .int .i64 0, .int .i64 0]) rfl Tryz.runUnderlying31 Tryz.sizeOf76 (by decide) (by decide) Tryz.zeroValue76 (by kernel_rfl) rfl) rfl rfl rfl (by repeat (first | exact List.nil_sublist _ | exact List.Sublist.refl _ | exact List.sublist_append_right _ _ | apply List.Sublist.cons_cons | apply List.Sublist.cons | refine List.Sublist.trans ?_ (List.sublist_append_right _ _))) fun b21 => ?_
        refine gx_tail ?_
        refine t_q (q_as rfl) rfl rfl rfl ?_
        refine gt_nil ?_
        refine tn ?_
        refine gc_ret ?_
        refine br (tr ?_)
        refine ret_1 (.inl rfl) rfl rfl ?_
        first | exact rsX [np, b21] ⟨evS b21 ⟨6, nm.id, 0, 0, 0, 0, 0, _, 0⟩, by rw [driveE, if_pos (by simp_all)]; exact SlE.one _ _, rfl, rfl⟩ | exact rsX [np, b21] ⟨evS b21 ⟨7, nm.id, 0, 0, 0, 0, 0, _, _⟩, by rw [driveE, if_neg (by simp_all), if_pos (by simp_all)]; exact SlE.one _ _, rfl, rfl⟩ | exact rsX [np] ⟨Sli.none, by rw [driveE, if_neg (by simp_all), if_neg (by simp_all)]; exact SlE.none, rfl, rfl⟩
      · refine gc_seq ?_
        refine gc_region ?_
        refine sq (q_fa rfl Tryz.runUnderlying232 rfl Tryz.sizeOf3) rfl rfl ?_
        refine sq (q_ld rfl Tryz.isAgg3 rfl) rfl rfl ?_
        refine sq (q_neq rfl rfl) rfl rfl ?_
        refine sq (q_as rfl) rfl rfl ?_
        refine go_nil ?_
        refine tn ?_
        refine gc_if rfl (fun h22 => ?_) (fun h22 => ?_)
        · refine gc_seq ?_
          refine gc_draw (ord := [(0, true), (1, true), (2, true), (3, true), (4, true), (5, true), (6, false), (7, false), (8, false), (9, false)]) [10] mixed (by kernel_rfl) rfl (by kernel_rfl) (.cons_cons _ (.cons_cons _ (.cons_cons _ (.slnil)))) ?_
          refine gx_q (q_mv rfl) rfl rfl rfl ?_
          refine gx_q (q_nc rfl) rfl rfl rfl ?_
          refine gx_q (q_fa rfl Tryz.runUnderlying129 rfl Tryz.sizeOf3) rfl rfl rfl ?_
          refine gx_q (q_ld rfl Tryz.isAgg3 rfl) rfl rfl rfl ?_
          refine gx_q (q_fa rfl Tryz.runUnderlying232 rfl Tryz.sizeOf3) rfl rfl rfl ?_
          refine gx_q (q_ld rfl Tryz.isAgg3 rfl) rfl rfl rfl ?_
          refine x_qe (q_fa rfl Tryz.runUnderlying232 rfl Tryz.sizeOf3) rfl rfl rfl (by repeat (first | exact List.nil_sublist _ | exact List.Sublist.refl _ | exact List.sublist_append_right _ _ | apply List.Sublist.cons_cons | apply List.Sublist.cons | refine List.Sublist.trans ?_ (List.sublist_append_right _ _))) ?_
          refine x_qe (q_ld rfl Tryz.isAgg3 rfl) rfl rfl rfl (by repeat (first | exact List.nil_sublist _ | exact List.Sublist.refl _ | exact List.sublist_append_right _ _ | apply List.Sublist.cons_cons | apply List.Sublist.cons | refine List.Sublist.trans ?_ (List.sublist_append_right _ _))) ?_
          refine x_qe (q_bld rfl Tryz.runUnderlying76 Tryz.zeroValue76 rfl pl76 rfl) rfl rfl rfl (by repeat (first | exact List.nil_sublist _ | exact List.Sublist.refl _ | exact List.sublist_append_right _ _ | apply List.Sublist.cons_cons | apply List.Sublist.cons | refine List.Sublist.trans ?_ (List.sublist_append_right _ _))) ?_
          refine x_bsl (e_bsl (zl := [.int .i64 0, .int .i64 0, .int .i64 0, .int .i64 0, .int .i64 0, .int .i64 0, .int .i64 0, .int .i64 0, .int .i64 0]) rfl Tryz.runUnderlying31 Tryz.sizeOf76 (by decide) (by decide) Tryz.zeroValue76 (by kernel_rfl) rfl) rfl rfl rfl (by repeat (first | exact List.nil_sublist _ | exact List.Sublist.refl _ | exact List.sublist_append_right _ _ | apply List.Sublist.cons_cons | apply List.Sublist.cons | refine List.Sublist.trans ?_ (List.sublist_append_right _ _))) fun b23 => ?_
          refine gx_tail ?_
          refine t_q (q_as rfl) rfl rfl rfl ?_
          refine gt_nil ?_
          refine tn ?_
          refine gc_ret ?_
          refine br (tr ?_)
          refine ret_1 (.inl rfl) rfl rfl ?_
          first | exact rsX [np, b23] ⟨evS b23 ⟨6, nm.id, 0, 0, 0, 0, 0, _, 0⟩, by rw [driveE, if_pos (by simp_all)]; exact SlE.one _ _, rfl, rfl⟩ | exact rsX [np, b23] ⟨evS b23 ⟨7, nm.id, 0, 0, 0, 0, 0, _, _⟩, by rw [driveE, if_neg (by simp_all), if_pos (by simp_all)]; exact SlE.one _ _, rfl, rfl⟩ | exact rsX [np] ⟨Sli.none, by rw [driveE, if_neg (by simp_all), if_neg (by simp_all)]; exact SlE.none, rfl, rfl⟩
        · refine gc_seq ?_
          refine gc_region ?_
          refine sq (q_fa rfl Tryz.runUnderlying232 rfl Tryz.sizeOf4) rfl rfl ?_
          refine sq (q_ld rfl Tryz.isAgg4 rfl) rfl rfl ?_
          refine sq (q_not rfl) rfl rfl ?_
          refine sq (q_as rfl) rfl rfl ?_
          refine go_nil ?_
          refine tn ?_
          refine gc_if rfl (fun h24 => ?_) (fun h24 => ?_)
          · refine gc_seq ?_
            refine gc_region ?_
            refine sq (q_as rfl) rfl rfl ?_
            refine go_nil ?_
            refine tn ?_
            refine gc_ret ?_
            refine br (tr ?_)
            refine ret_1 (.inl rfl) rfl rfl ?_
            first | exact rsX [np, _] ⟨evS _ ⟨6, nm.id, 0, 0, 0, 0, 0, _, 0⟩, by rw [driveE, if_pos (by simp_all)]; exact SlE.one _ _, rfl, rfl⟩ | exact rsX [np, _] ⟨evS _ ⟨7, nm.id, 0, 0, 0, 0, 0, _, _⟩, by rw [driveE, if_neg (by simp_all), if_pos (by simp_all)]; exact SlE.one _ _, rfl, rfl⟩ | exact rsX [np] ⟨Sli.none, by rw [driveE, if_neg (by simp_all), if_neg (by simp_all)]; exact SlE.none, rfl, rfl⟩
          · refine gc_skip ?_
            refine bn (tn ?_)
            refine gc_seq ?_
            exfalso; simp_all
end Go.LL
