/- Part of a claim: contracts of the program's functions, walked op by op. -/
import Derived.Test.YthabegpfnfbmaaaGreatDoorA9
set_option linter.unusedSimpArgs false
set_option linter.unusedVariables false
namespace Go.LL
open Go.Proofs

set_option maxRecDepth 4000 in
set_option maxHeartbeats 2000000 in
theorem beats_spec (np : Nat) (p : NodeP) (nm : NodeM) (x : Tab) (g : GateM) (st : StoreM) (b : Nat) (hc : 0 ≤ nm.h.cars ∧ nm.h.cars ≤ 16) :
    Spec Tryz.prog 63 [pt np] [] [(np, NodeM.o 129 p nm), (p.l, Tab.o 163 x), (p.g, GateM.o 205 g), (p.s, StoreM.o 207 b st)] (fun v L => ∃ s : Sli, SlB s (beatsTo nm.id nm.life (seenN st x g) nm.out nm.h.cars.toNat) ∧ v = s.v ∧ L = s.L 41) := by
  refine spec_of Tryz.func63 rfl Tryz.ntmps63 (by simp) fun w0 hb => ?_
  refine gc_seq ?_
  refine gc_region ?_
  refine sq (q_as rfl) rfl rfl ?_
  refine go_nil ?_
  refine tn ?_
  refine gc_seq ?_
  refine gc_region ?_
  refine sq (q_as rfl) rfl rfl ?_
  refine go_nil ?_
  refine tn ?_
  refine gc_seq ?_
  refine gc_seq ?_
  refine gc_region ?_
  refine sq (q_mv rfl) rfl rfl ?_
  refine sq (q_nc rfl) rfl rfl ?_
  refine sq (q_fa rfl Tryz.runUnderlying129 rfl Tryz.sizeOf29) rfl rfl ?_
  refine sq (q_fa rfl Tryz.runUnderlying29 rfl Tryz.sizeOf3) rfl rfl ?_
  refine sq (q_ld rfl Tryz.isAgg3 rfl) rfl rfl ?_
  refine sq (q_mv rfl) rfl rfl ?_
  refine go_nil ?_
  refine tn ?_
  refine gc_block ?_
  refine gc_loop (A := Int × Sli) (fun y => 0 ≤ y.1 ∧ y.1 ≤ nm.h.cars ∧ SlB y.2 (beatsTo nm.id nm.life (seenN st x g) nm.out y.1.toNat)) (fun y => [(0, pt np), (3, y.2.v), (9, i6 nm.h.cars), (10, i6 y.1)]) (fun y => y.2.L 41) (fun y => (nm.h.cars - y.1).toNat) (0, Sli.none) ⟨by omega, by omega, ⟨Sli.none_ok, rfl, rfl⟩⟩ ⟨rfl, rfl, rfl, rfl, trivial⟩ hpS (fun y hI => ?_)
  refine gc_seq ?_
  refine gc_region ?_
  refine sq (q_lss rfl rfl) rfl rfl ?_
  refine go_nil ?_
  refine tn ?_
  refine gc_seq ?_
  refine gc_if rfl (fun h1 => ?_) (fun h1 => ?_)
  · refine gc_skip ?_
    refine tn ?_
    refine gc_seq ?_
    refine gc_block ?_
    refine gc_seq ?_
    refine gc_region ?_
    refine sq (q_mv rfl) rfl rfl ?_
    refine sq (q_as rfl) rfl rfl ?_
    refine go_nil ?_
    refine tn ?_
    refine gc_seq ?_
    refine gc_region ?_
    refine sq (q_mv rfl) rfl rfl ?_
    refine sq (q_mv rfl) rfl rfl ?_
    refine sq (q_nc rfl) rfl rfl ?_
    refine sq (q_fa rfl Tryz.runUnderlying129 rfl Tryz.sizeOf3) rfl rfl ?_
    refine sq (q_ld rfl Tryz.isAgg3 rfl) rfl rfl ?_
    refine sq (q_neq rfl rfl) rfl rfl ?_
    refine go_nil ?_
    refine tn ?_
    refine gc_if rfl (fun h2 => ?_) (fun h2 => ?_)
    · refine gc_draw (ord := [(0, true), (1, true), (2, true), (3, true), (4, true), (5, true), (6, true), (7, true), (8, true), (9, true), (10, true), (12, true), (13, true), (14, true), (15, true), (11, false), (16, false), (17, false), (18, false)]) [19] mixed (by kernel_rfl) rfl (by kernel_rfl) (List.nil_sublist _) ?_
      refine gx_q (q_mv rfl) rfl rfl rfl ?_
      refine gx_q (q_mv rfl) rfl rfl rfl ?_
      refine gx_q (q_nc rfl) rfl rfl rfl ?_
      refine gx_q (q_fa rfl Tryz.runUnderlying129 rfl Tryz.sizeOf3) rfl rfl rfl ?_
      refine gx_q (q_ld rfl Tryz.isAgg3 rfl) rfl rfl rfl ?_
      refine gx_q (q_mv rfl) rfl rfl rfl ?_
      refine gx_q (q_mv rfl) rfl rfl rfl ?_
      refine gx_q (q_nc rfl) rfl rfl rfl ?_
      refine gx_q (q_fa rfl Tryz.runUnderlying129 rfl Tryz.sizeOf2) rfl rfl rfl ?_
      refine gx_q (q_ld rfl Tryz.isAgg2 rfl) rfl rfl rfl ?_
      refine gx_q (q_mv rfl) rfl rfl rfl ?_
      refine gx_q (q_mv rfl) rfl rfl rfl ?_
      refine gx_q (q_nc rfl) rfl rfl rfl ?_
      refine gx_q (q_fa rfl Tryz.runUnderlying129 rfl Tryz.sizeOf4) rfl rfl rfl ?_
      refine gx_q (q_ld rfl Tryz.isAgg4 rfl) rfl rfl rfl ?_
      refine x_callE (e_call (nseen_spec np p nm x g st b) rfl en144) rfl rfl rfl (by repeat (first | exact List.nil_sublist _ | exact List.Sublist.refl _ | exact List.sublist_append_right _ _ | apply List.Sublist.cons_cons | apply List.Sublist.cons | refine List.Sublist.trans ?_ (List.sublist_append_right _ _))) ?_
      refine x_qe (q_bld rfl Tryz.runUnderlying41 Tryz.zeroValue41 rfl pl41 rfl) rfl rfl rfl (by repeat (first | exact List.nil_sublist _ | exact List.Sublist.refl _ | exact List.sublist_append_right _ _ | apply List.Sublist.cons_cons | apply List.Sublist.cons | refine List.Sublist.trans ?_ (List.sublist_append_right _ _))) ?_
      refine x_bsl (e_bsl (zl := [.int .i64 0, .int .i64 0, .int .i64 0, .int .i64 0, .int .i64 0, .bool false, .int .i64 0, .int .i64 0, .int .i64 0, .slice none 0 0, .slice none 0 0]) rfl Tryz.runUnderlying30 Tryz.sizeOf41 (by decide) (by decide) Tryz.zeroValue41 (by kernel_rfl) rfl) rfl rfl rfl (by repeat (first | exact List.nil_sublist _ | exact List.Sublist.refl _ | exact List.sublist_append_right _ _ | apply List.Sublist.cons_cons | apply List.Sublist.cons | refine List.Sublist.trans ?_ (List.sublist_append_right _ _))) fun b3 => ?_
      refine x_app (e_app (sl := y.2) rfl hI.2.2.ok rfl rfl (by simp [Value.oneCell']) Tryz.underlying30 ei41 (by have h1 := beats_len nm.id nm.life (seenN st x g) nm.out y.1.toNat; have h2 := hI.2.2.n; have h3 := hI.2.1; have h4 := hI.1; first | omega | (simp only [maxLen]; omega)) (by have h1 := beats_len nm.id nm.life (seenN st x g) nm.out y.1.toNat; have h2 := hI.2.2.n; have h3 := hI.2.1; have h4 := hI.1; first | omega | (simp only [maxLen]; omega))) rfl rfl rfl fun s4 hok4 hn4 hx4 => ⟨(by repeat (first | exact List.nil_sublist _ | exact List.Sublist.refl _ | exact List.sublist_append_right _ _ | apply List.Sublist.cons_cons | apply List.Sublist.cons | refine List.Sublist.trans ?_ (List.sublist_append_right _ _))), ?_⟩
      refine gx_tail ?_
      refine t_q (q_as rfl) rfl rfl rfl ?_
      refine gt_nil ?_
      refine bn (tn ?_)
      refine gc_region ?_
      refine sq (q_addi rfl rfl (by have := hI.1; have := hI.2.1; omega)) rfl rfl ?_
      refine sq (q_mv rfl) rfl rfl ?_
      refine go_nil ?_
      first | exact aq_round (y.1 + 1, y.2) ⟨by have := hI.1; omega, by simp_all; omega, by rw [show (y.1 + 1).toNat = y.1.toNat + 1 by (have := hI.1; omega), beats_no (by first | (simp_all; done) | (simp_all; omega))]; exact hI.2.2⟩ (by simp_all; omega) ⟨rfl, rfl, rfl, rfl, trivial⟩ hpS | exact aq_round (y.1 + 1, s4) ⟨by have := hI.1; omega, by simp_all; omega, by rw [show (y.1 + 1).toNat = y.1.toNat + 1 by (have := hI.1; omega), beats_yes (by first | (simp_all; done) | (simp_all; omega))]; exact ⟨hok4, by simp [*, hI.2.2.n], by simp [*, hI.2.2.xs, List.flatMap_append]; omega⟩⟩ (by simp_all; omega) ⟨rfl, rfl, rfl, rfl, trivial⟩ hpS
    · refine gc_skip ?_
      refine bn (tn ?_)
      refine gc_region ?_
      refine sq (q_addi rfl rfl (by have := hI.1; have := hI.2.1; omega)) rfl rfl ?_
      refine sq (q_mv rfl) rfl rfl ?_
      refine go_nil ?_
      first | exact aq_round (y.1 + 1, y.2) ⟨by have := hI.1; omega, by simp_all; omega, by rw [show (y.1 + 1).toNat = y.1.toNat + 1 by (have := hI.1; omega), beats_no (by first | (simp_all; done) | (simp_all; omega))]; exact hI.2.2⟩ (by simp_all; omega) ⟨rfl, rfl, rfl, rfl, trivial⟩ hpS | exact aq_round (y.1 + 1, y.2) ⟨by have := hI.1; omega, by simp_all; omega, by rw [show (y.1 + 1).toNat = y.1.toNat + 1 by (have := hI.1; omega), beats_yes (by first | (simp_all; done) | (simp_all; omega))]; exact ⟨hI.2.2.ok, by simp [*, hI.2.2.n], by simp [*, hI.2.2.xs, List.flatMap_append]; omega⟩⟩ (by simp_all; omega) ⟨rfl, rfl, rfl, rfl, trivial⟩ hpS
  · refine gc_exit ?_
    refine tx (tx (bx (tn ?_)))
    refine gc_seq ?_
    refine gc_region ?_
    refine sq (q_mv rfl) rfl rfl ?_
    refine sq (q_as rfl) rfl rfl ?_
    refine go_nil ?_
    refine tn ?_
    refine gc_ret ?_
    refine ret_1 (.inl rfl) rfl rfl ?_
    have e : y.1.toNat = nm.h.cars.toNat := (by simp_all; omega)
    have e2 := hI.2.2
    rw [e] at e2
    exact rsY (A := Sli.L 41 y.2) [] ⟨y.2, e2, rfl, rfl⟩
end Go.LL
