/- Part of a claim: contracts of the program's functions, walked op by op. -/
import Derived.Test.YthabegpfnfbmaaaGreatDoorA6
import Derived.Test.YthabegpfnfbmaaaGreatDoorMO4
set_option linter.unusedSimpArgs false
set_option linter.unusedVariables false
namespace Go.LL
open Go.Proofs

set_option maxRecDepth 4000 in
set_option maxHeartbeats 2000000 in
theorem save_spec (ε : Nat → Nat × Value) (s b q n : Nat) (m : CellM) (hn : m.bs.length = n) (st : StoreM) (r : Rec) :
    Spec Tryz.prog 53 [pt s, r.v] [(s, StoreM.o 207 b st), (b, CellM.o 146 q n m), (q, CellM.bo 5 m)] (ro ε) (fun v L => v = ev ε (saveM m st r).2.2 ∧ L = [(s, StoreM.o 207 b (saveM m st r).2.1), (b, CellM.o 146 q n (saveM m st r).1), (q, CellM.bo 5 (saveM m st r).1)]) := by
  refine spec_of Tryz.func53 rfl Tryz.ntmps53 (by simp) fun w0 hb => ?_
  refine gc_seq ?_
  refine gc_region ?_
  refine s_new (e_box rfl rfl) rfl rfl fun b1 => ?_
  refine sq (q_as rfl) rfl rfl ?_
  refine go_nil ?_
  refine tn ?_
  refine gc_seq ?_
  refine gc_seq ?_
  refine gc_region ?_
  refine sq (q_mv rfl) rfl rfl ?_
  refine sq (q_lda rfl Tryz.isAgg134 Tryz.sizeOf134 rfl) rfl rfl ?_
  refine s_callE (e_call (bad_spec ε b s st r) rfl en117) rfl rfl ?_
  refine sq (q_as rfl) rfl rfl ?_
  refine go_nil ?_
  refine tn ?_
  refine gc_seq ?_
  refine gc_region ?_
  refine sq (q_mv rfl) rfl rfl ?_
  refine sq (q_inil_neq rfl rfl Tryz.underlying47) rfl rfl ?_
  refine go_nil ?_
  refine tn ?_
  refine gc_if rfl (fun h2 => ?_) (fun h2 => ?_)
  · refine gc_seq ?_
    refine gc_region ?_
    refine sq (q_mv rfl) rfl rfl ?_
    refine sq (q_as rfl) rfl rfl ?_
    refine go_nil ?_
    refine tn ?_
    refine gc_ret ?_
    refine tr ?_
    refine ret_1 (.inl rfl) rfl rfl ?_
    first | (refine rsX [s, b, q] ⟨?_, ?_⟩ <;> (simp_all [saveM]; done)) | (have e := save_err hI.2.2.2 (by rw [recB_len]; have h1 := hI.1; have h2 := hI.2.1; simp only [decide_eq_true_eq, decide_eq_false_iff_not] at *; omega) (by simp_all); rw [hI.2.2.1] at e; refine rsX [s, b, q] ⟨?_, ?_⟩ <;> (simp_all [saveM]; done)) | (have e := save_end hI.2.2.2 (by rw [recB_len]; have h1 := hI.1; have h2 := hI.2.1; simp only [decide_eq_true_eq, decide_eq_false_iff_not] at *; omega); rw [hI.2.2.1] at e; refine rsX [s, b, q] ⟨?_, ?_⟩ <;> (simp_all [saveM]; done))
  · refine gc_skip ?_
    refine tn ?_
    refine gc_seq ?_
    refine gc_region ?_
    refine sq (q_mv rfl) rfl rfl ?_
    refine sq (q_nc rfl) rfl rfl ?_
    refine sq (q_fa rfl Tryz.runUnderlying207 rfl Tryz.sizeOf3) rfl rfl ?_
    refine sq (q_ld rfl Tryz.isAgg3 rfl) rfl rfl ?_
    refine sq (q_subw rfl rfl) rfl rfl ?_
    refine sq (q_as rfl) rfl rfl ?_
    refine go_nil ?_
    refine tn ?_
    refine gc_seq ?_
    refine gc_seq ?_
    refine gc_region ?_
    refine sq (q_mv rfl) rfl rfl ?_
    refine sq (q_nc rfl) rfl rfl ?_
    refine sq (q_fa rfl Tryz.runUnderlying207 rfl Tryz.sizeOf3) rfl rfl ?_
    refine sq (q_ld rfl Tryz.isAgg3 rfl) rfl rfl ?_
    refine sq (q_lss rfl rfl) rfl rfl ?_
    refine go_nil ?_
    refine tn ?_
    refine gc_if rfl (fun h3 => ?_) (fun h3 => ?_)
    · refine gc_region ?_
      refine sq (q_as rfl) rfl rfl ?_
      refine go_nil ?_
      refine tn ?_
      refine gc_seq ?_
      refine gc_draw (ord := [(1, true), (2, true), (4, true), (5, true), (0, false), (3, false), (6, false)]) [7] mixed (by kernel_rfl) rfl (by kernel_rfl) (.cons_cons _ (.cons_cons _ (.cons_cons _ (.cons_cons _ (.slnil))))) ?_
      refine gx_q (q_fa rfl Tryz.runUnderlying134 rfl Tryz.sizeOf2) rfl rfl rfl ?_
      refine gx_q (q_ld rfl Tryz.isAgg2 rfl) rfl rfl rfl ?_
      refine gx_q (q_fa rfl Tryz.runUnderlying134 rfl Tryz.sizeOf2) rfl rfl rfl ?_
      refine gx_q (q_ld rfl Tryz.isAgg2 rfl) rfl rfl rfl ?_
      refine x_bsl (e_bsl (zl := [.int .u8 0]) rfl Tryz.runUnderlying87 Tryz.sizeOf5 (by decide) (by decide) Tryz.zeroValue5 (by kernel_rfl) rfl) rfl rfl rfl (by repeat (first | exact List.nil_sublist _ | exact List.Sublist.refl _ | exact List.sublist_append_right _ _ | apply List.Sublist.cons_cons | apply List.Sublist.cons | refine List.Sublist.trans ?_ (List.sublist_append_right _ _))) fun b4 => ?_
      refine x_call (e_call ((show Spec Tryz.prog 118 [.slice (some ⟨b4, 0, none⟩) 1 1, i6 r.count] [(b4, .cells #[u8v 0] 5 (0, 0))] [] _ from sput_spec ⟨some b4, 1, 1, [u8v 0], []⟩ ⟨rfl, by simp, Nat.le_refl _, (by show 1 ≤ 9223372036854775807; omega), rfl⟩ (by show 1 ≤ 100; omega) r.count)) rfl en118) rfl rfl rfl (by repeat (first | exact List.nil_sublist _ | exact List.Sublist.refl _ | exact List.sublist_append_right _ _ | apply List.Sublist.cons_cons | apply List.Sublist.cons | refine List.Sublist.trans ?_ (List.sublist_append_right _ _))) ?_
      rintro _ _ ⟨s5, ok5, n5, x5, rfl, rfl⟩
      refine x_call (e_call (sput_spec s5 ok5 (by simp_all) r.life) rfl en118) rfl rfl rfl (by repeat (first | exact List.nil_sublist _ | exact List.Sublist.refl _ | exact List.sublist_append_right _ _ | apply List.Sublist.cons_cons | apply List.Sublist.cons | refine List.Sublist.trans ?_ (List.sublist_append_right _ _))) ?_
      rintro _ _ ⟨s6, ok6, n6, x6, rfl, rfl⟩
      refine gx_tail ?_
      refine t_q (q_as rfl) rfl rfl rfl ?_
      refine gt_nil ?_
      refine tn ?_
      refine gc_seq ?_
      refine gc_seq ?_
      refine gc_region ?_
      refine sq (q_mv rfl) rfl rfl ?_
      refine sq (q_lenS Tryz.runUnderlying87 rfl) rfl rfl ?_
      refine sq (q_mv rfl) rfl rfl ?_
      refine go_nil ?_
      refine tn ?_
      refine gc_block ?_
      have hN : s6.n = 13 := (by simp_all)
      have hN13 : i6 (s6.n : Int) = i6 13 := (by rw [hN]; rfl)
      have hX : s6.xs = (recB r).map u8v := (by simp_all [recB])
      refine gc_loop (A := Int × CellM × Int) (fun y => 0 ≤ y.1 ∧ y.1 ≤ 13 ∧ y.2.2 = slotOf st ∧ SaveI m y.2.2 (recB r) y.1 y.2.1) (fun y => [(0, pt s), (3, pt b1), (6, i6 y.2.2), (35, s6.v), (36, i6 13), (37, i6 y.1)]) (fun y => (s, StoreM.o 207 b st) :: (b, CellM.o 146 q n y.2.1) :: (q, CellM.bo 5 y.2.1) :: (b1, .cells #[i6 r.count, i6 r.life] 134 (0, 0)) :: s6.L 5) (fun y => (13 - y.1).toNat) (0, m, _) ⟨by omega, by omega, by first | (simp_all [slotOf]; done) | (simp_all [slotOf]; omega), save_0⟩ ⟨rfl, rfl, rfl, rfl, by rw [← hN13]; rfl, rfl, trivial⟩ hpS (fun y hI => ?_)
      refine gc_seq ?_
      refine gc_region ?_
      refine sq (q_lss rfl rfl) rfl rfl ?_
      refine go_nil ?_
      refine tn ?_
      refine gc_seq ?_
      refine gc_if rfl (fun h7 => ?_) (fun h7 => ?_)
      · refine gc_skip ?_
        refine tn ?_
        refine gc_seq ?_
        refine gc_block ?_
        refine gc_seq ?_
        refine gc_region ?_
        refine sq (q_mv rfl) rfl rfl ?_
        refine sq (q_iaSl (sl := s6) ok6 rfl rfl Tryz.runUnderlying87 Tryz.sizeOf5 (by rw [hN]; have h1 := hI.1; have h2 := hI.2.1; simp only [decide_eq_true_eq] at *; omega)) rfl rfl ?_
        refine sq (q_ldSl (sl := s6) (e := 5) ok6 rfl Tryz.isAgg5 (map_lds hX y.1.toNat (by rw [recB_len]; have h1 := hI.1; have h2 := hI.2.1; simp only [decide_eq_true_eq, decide_eq_false_iff_not] at *; omega))) rfl rfl ?_
        refine sq (q_as rfl) rfl rfl ?_
        refine sq (q_as rfl) rfl rfl ?_
        refine go_nil ?_
        refine tn ?_
        refine gc_seq ?_
        refine gc_region ?_
        refine sq (q_mv rfl) rfl rfl ?_
        refine sq (q_nc rfl) rfl rfl ?_
        refine sq (q_fa rfl Tryz.runUnderlying207 rfl Tryz.sizeOf45) rfl rfl ?_
        refine sq (q_ld rfl Tryz.isAgg45 rfl) rfl rfl ?_
        refine sq (q_mv rfl) rfl rfl ?_
        refine sq (q_mulw rfl rfl) rfl rfl ?_
        refine sq (q_mv rfl) rfl rfl ?_
        refine sq (q_addw rfl rfl) rfl rfl ?_
        refine sq (q_mv rfl) rfl rfl ?_
        refine s_call (e_call (cput_spec ε b q n y.2.1 (by rw [hI.2.2.2.1, hn]) _ _) rfl en119) rfl rfl ?_
        rintro _ _ ⟨rfl, rfl⟩
        refine app2 ?_
        refine sq (q_as rfl) rfl rfl ?_
        refine go_nil ?_
        refine tn ?_
        refine gc_seq ?_
        refine gc_region ?_
        refine sq (q_mv rfl) rfl rfl ?_
        refine sq (q_inil_neq (q := (y.2.1.put _ _).2.map ε) rfl rfl Tryz.underlying47) rfl rfl ?_
        refine go_nil ?_
        refine tn ?_
        refine gc_if rfl (fun h9 => ?_) (fun h9 => ?_)
        · refine gc_seq ?_
          refine gc_region ?_
          refine sq (q_mv rfl) rfl rfl ?_
          refine sq (q_as rfl) rfl rfl ?_
          refine go_nil ?_
          refine tn ?_
          refine gc_ret ?_
          refine br (tr (tr (br (tr ?_))))
          refine ret_1 (.inl rfl) rfl rfl ?_
          first | (refine rsX [s, b, q] ⟨?_, ?_⟩ <;> (simp_all [saveM]; done)) | (have e := save_err hI.2.2.2 (by rw [recB_len]; have h1 := hI.1; have h2 := hI.2.1; simp only [decide_eq_true_eq, decide_eq_false_iff_not] at *; omega) (by simp_all); rw [hI.2.2.1] at e; refine rsX [s, b, q] ⟨?_, ?_⟩ <;> (simp_all [saveM]; done)) | (have e := save_end hI.2.2.2 (by rw [recB_len]; have h1 := hI.1; have h2 := hI.2.1; simp only [decide_eq_true_eq, decide_eq_false_iff_not] at *; omega); rw [hI.2.2.1] at e; refine rsX [s, b, q] ⟨?_, ?_⟩ <;> (simp_all [saveM]; done))
        · refine gc_skip ?_
          refine bn (tn ?_)
          refine gc_region ?_
          refine sq (q_addi rfl rfl (by have h1 := hI.1; have h2 := hI.2.1; omega)) rfl rfl ?_
          refine sq (q_mv rfl) rfl rfl ?_
          refine go_nil ?_
          exact aq_round (y.1 + 1, (y.2.1.put (w64 (w64 (y.2.2 * 13) + y.1)) ((recB r).getD y.1.toNat 0)).1, y.2.2) ⟨by have := hI.1; omega, by simp_all; omega, hI.2.2.1, save_step hI.2.2.2 hI.1 (by rw [recB_len]; have h1 := hI.1; have h2 := hI.2.1; simp only [decide_eq_true_eq, decide_eq_false_iff_not] at *; omega) (by simp_all)⟩ (by simp_all; omega) ⟨rfl, rfl, rfl, rfl, rfl, rfl, trivial⟩ hpS
      · refine gc_exit ?_
        refine tx (tx (bx (tn ?_)))
        refine gc_seq ?_
        refine gc_seq ?_
        refine gc_region ?_
        refine sq (q_mv rfl) rfl rfl ?_
        refine sq (q_nc rfl) rfl rfl ?_
        refine sq (q_fa rfl Tryz.runUnderlying207 rfl Tryz.sizeOf45) rfl rfl ?_
        refine sq (q_ld rfl Tryz.isAgg45 rfl) rfl rfl ?_
        refine sq (q_mv rfl) rfl rfl ?_
        refine sq (q_mulw rfl rfl) rfl rfl ?_
        refine s_call (e_call (cput_spec ε b q n y.2.1 (by rw [hI.2.2.2.1, hn]) _ _) rfl en119) rfl rfl ?_
        rintro _ _ ⟨rfl, rfl⟩
        refine app2 ?_
        refine sq (q_as rfl) rfl rfl ?_
        refine go_nil ?_
        refine tn ?_
        refine gc_seq ?_
        refine gc_region ?_
        refine sq (q_mv rfl) rfl rfl ?_
        refine sq (q_inil_neq (q := (y.2.1.put _ _).2.map ε) rfl rfl Tryz.underlying47) rfl rfl ?_
        refine go_nil ?_
        refine tn ?_
        refine gc_if rfl (fun h11 => ?_) (fun h11 => ?_)
        · refine gc_seq ?_
          refine gc_region ?_
          refine sq (q_mv rfl) rfl rfl ?_
          refine sq (q_as rfl) rfl rfl ?_
          refine go_nil ?_
          refine tn ?_
          refine gc_ret ?_
          refine tr ?_
          refine ret_1 (.inl rfl) rfl rfl ?_
          first | (refine rsX [s, b, q] ⟨?_, ?_⟩ <;> (simp_all [saveM]; done)) | (have e := save_err hI.2.2.2 (by rw [recB_len]; have h1 := hI.1; have h2 := hI.2.1; simp only [decide_eq_true_eq, decide_eq_false_iff_not] at *; omega) (by simp_all); rw [hI.2.2.1] at e; refine rsX [s, b, q] ⟨?_, ?_⟩ <;> (simp_all [saveM]; done)) | (have e := save_end hI.2.2.2 (by rw [recB_len]; have h1 := hI.1; have h2 := hI.2.1; simp only [decide_eq_true_eq, decide_eq_false_iff_not] at *; omega); rw [hI.2.2.1] at e; refine rsX [s, b, q] ⟨?_, ?_⟩ <;> (simp_all [saveM]; done))
        · refine gc_skip ?_
          refine tn ?_
          refine gc_seq ?_
          refine gc_region ?_
          refine sq (q_mv rfl) rfl rfl ?_
          refine sq (q_mv rfl) rfl rfl ?_
          refine sq (q_lda rfl Tryz.isAgg134 Tryz.sizeOf134 rfl) rfl rfl ?_
          refine sq (q_mv rfl) rfl rfl ?_
          refine sq (q_nc rfl) rfl rfl ?_
          refine sq (q_fa rfl Tryz.runUnderlying207 rfl Tryz.sizeOf134) rfl rfl ?_
          refine s_st (e_st rfl rfl Tryz.sizeOf134 rfl rfl rfl rfl) rfl rfl ?_
          refine sq (q_nc rfl) rfl rfl ?_
          refine sq (q_fa rfl Tryz.runUnderlying207 rfl Tryz.sizeOf3) rfl rfl ?_
          refine s_st (e_st rfl rfl Tryz.sizeOf3 rfl rfl rfl rfl) rfl rfl ?_
          refine go_nil ?_
          refine tn ?_
          refine gc_seq ?_
          refine gc_region ?_
          refine sq (q_as rfl) rfl rfl ?_
          refine go_nil ?_
          refine tn ?_
          refine gc_ret ?_
          refine ret_1 (.inl rfl) rfl rfl ?_
          first | (refine rsX [s, b, q] ⟨?_, ?_⟩ <;> (simp_all [saveM]; done)) | (have e := save_err hI.2.2.2 (by rw [recB_len]; have h1 := hI.1; have h2 := hI.2.1; simp only [decide_eq_true_eq, decide_eq_false_iff_not] at *; omega) (by simp_all); rw [hI.2.2.1] at e; refine rsX [s, b, q] ⟨?_, ?_⟩ <;> (simp_all [saveM]; done)) | (have e := save_end hI.2.2.2 (by rw [recB_len]; have h1 := hI.1; have h2 := hI.2.1; simp only [decide_eq_true_eq, decide_eq_false_iff_not] at *; omega); rw [hI.2.2.1] at e; refine rsX [s, b, q] ⟨?_, ?_⟩ <;> (simp_all [saveM]; done))
    · refine gc_skip ?_
      refine tn ?_
      refine gc_seq ?_
      refine gc_draw (ord := [(1, true), (2, true), (4, true), (5, true), (0, false), (3, false), (6, false)]) [7] mixed (by kernel_rfl) rfl (by kernel_rfl) (.cons_cons _ (.cons_cons _ (.cons_cons _ (.cons_cons _ (.slnil))))) ?_
      refine gx_q (q_fa rfl Tryz.runUnderlying134 rfl Tryz.sizeOf2) rfl rfl rfl ?_
      refine gx_q (q_ld rfl Tryz.isAgg2 rfl) rfl rfl rfl ?_
      refine gx_q (q_fa rfl Tryz.runUnderlying134 rfl Tryz.sizeOf2) rfl rfl rfl ?_
      refine gx_q (q_ld rfl Tryz.isAgg2 rfl) rfl rfl rfl ?_
      refine x_bsl (e_bsl (zl := [.int .u8 0]) rfl Tryz.runUnderlying87 Tryz.sizeOf5 (by decide) (by decide) Tryz.zeroValue5 (by kernel_rfl) rfl) rfl rfl rfl (by repeat (first | exact List.nil_sublist _ | exact List.Sublist.refl _ | exact List.sublist_append_right _ _ | apply List.Sublist.cons_cons | apply List.Sublist.cons | refine List.Sublist.trans ?_ (List.sublist_append_right _ _))) fun b12 => ?_
      refine x_call (e_call ((show Spec Tryz.prog 118 [.slice (some ⟨b12, 0, none⟩) 1 1, i6 r.count] [(b12, .cells #[u8v 0] 5 (0, 0))] [] _ from sput_spec ⟨some b12, 1, 1, [u8v 0], []⟩ ⟨rfl, by simp, Nat.le_refl _, (by show 1 ≤ 9223372036854775807; omega), rfl⟩ (by show 1 ≤ 100; omega) r.count)) rfl en118) rfl rfl rfl (by repeat (first | exact List.nil_sublist _ | exact List.Sublist.refl _ | exact List.sublist_append_right _ _ | apply List.Sublist.cons_cons | apply List.Sublist.cons | refine List.Sublist.trans ?_ (List.sublist_append_right _ _))) ?_
      rintro _ _ ⟨s13, ok13, n13, x13, rfl, rfl⟩
      refine x_call (e_call (sput_spec s13 ok13 (by simp_all) r.life) rfl en118) rfl rfl rfl (by repeat (first | exact List.nil_sublist _ | exact List.Sublist.refl _ | exact List.sublist_append_right _ _ | apply List.Sublist.cons_cons | apply List.Sublist.cons | refine List.Sublist.trans ?_ (List.sublist_append_right _ _))) ?_
      rintro _ _ ⟨s14, ok14, n14, x14, rfl, rfl⟩
      refine gx_tail ?_
      refine t_q (q_as rfl) rfl rfl rfl ?_
      refine gt_nil ?_
      refine tn ?_
      refine gc_seq ?_
      refine gc_seq ?_
      refine gc_region ?_
      refine sq (q_mv rfl) rfl rfl ?_
      refine sq (q_lenS Tryz.runUnderlying87 rfl) rfl rfl ?_
      refine sq (q_mv rfl) rfl rfl ?_
      refine go_nil ?_
      refine tn ?_
      refine gc_block ?_
      have hN : s14.n = 13 := (by simp_all)
      have hN13 : i6 (s14.n : Int) = i6 13 := (by rw [hN]; rfl)
      have hX : s14.xs = (recB r).map u8v := (by simp_all [recB])
      refine gc_loop (A := Int × CellM × Int) (fun y => 0 ≤ y.1 ∧ y.1 ≤ 13 ∧ y.2.2 = slotOf st ∧ SaveI m y.2.2 (recB r) y.1 y.2.1) (fun y => [(0, pt s), (3, pt b1), (6, i6 y.2.2), (35, s14.v), (36, i6 13), (37, i6 y.1)]) (fun y => (s, StoreM.o 207 b st) :: (b, CellM.o 146 q n y.2.1) :: (q, CellM.bo 5 y.2.1) :: (b1, .cells #[i6 r.count, i6 r.life] 134 (0, 0)) :: s14.L 5) (fun y => (13 - y.1).toNat) (0, m, _) ⟨by omega, by omega, by first | (simp_all [slotOf]; done) | (simp_all [slotOf]; omega), save_0⟩ ⟨rfl, rfl, rfl, rfl, by rw [← hN13]; rfl, rfl, trivial⟩ hpS (fun y hI => ?_)
      refine gc_seq ?_
      refine gc_region ?_
      refine sq (q_lss rfl rfl) rfl rfl ?_
      refine go_nil ?_
      refine tn ?_
      refine gc_seq ?_
      refine gc_if rfl (fun h15 => ?_) (fun h15 => ?_)
      · refine gc_skip ?_
        refine tn ?_
        refine gc_seq ?_
        refine gc_block ?_
        refine gc_seq ?_
        refine gc_region ?_
        refine sq (q_mv rfl) rfl rfl ?_
        refine sq (q_iaSl (sl := s14) ok14 rfl rfl Tryz.runUnderlying87 Tryz.sizeOf5 (by rw [hN]; have h1 := hI.1; have h2 := hI.2.1; simp only [decide_eq_true_eq] at *; omega)) rfl rfl ?_
        refine sq (q_ldSl (sl := s14) (e := 5) ok14 rfl Tryz.isAgg5 (map_lds hX y.1.toNat (by rw [recB_len]; have h1 := hI.1; have h2 := hI.2.1; simp only [decide_eq_true_eq, decide_eq_false_iff_not] at *; omega))) rfl rfl ?_
        refine sq (q_as rfl) rfl rfl ?_
        refine sq (q_as rfl) rfl rfl ?_
        refine go_nil ?_
        refine tn ?_
        refine gc_seq ?_
        refine gc_region ?_
        refine sq (q_mv rfl) rfl rfl ?_
        refine sq (q_nc rfl) rfl rfl ?_
        refine sq (q_fa rfl Tryz.runUnderlying207 rfl Tryz.sizeOf45) rfl rfl ?_
        refine sq (q_ld rfl Tryz.isAgg45 rfl) rfl rfl ?_
        refine sq (q_mv rfl) rfl rfl ?_
        refine sq (q_mulw rfl rfl) rfl rfl ?_
        refine sq (q_mv rfl) rfl rfl ?_
        refine sq (q_addw rfl rfl) rfl rfl ?_
        refine sq (q_mv rfl) rfl rfl ?_
        refine s_call (e_call (cput_spec ε b q n y.2.1 (by rw [hI.2.2.2.1, hn]) _ _) rfl en119) rfl rfl ?_
        rintro _ _ ⟨rfl, rfl⟩
        refine app2 ?_
        refine sq (q_as rfl) rfl rfl ?_
        refine go_nil ?_
        refine tn ?_
        refine gc_seq ?_
        refine gc_region ?_
        refine sq (q_mv rfl) rfl rfl ?_
        refine sq (q_inil_neq (q := (y.2.1.put _ _).2.map ε) rfl rfl Tryz.underlying47) rfl rfl ?_
        refine go_nil ?_
        refine tn ?_
        refine gc_if rfl (fun h17 => ?_) (fun h17 => ?_)
        · refine gc_seq ?_
          refine gc_region ?_
          refine sq (q_mv rfl) rfl rfl ?_
          refine sq (q_as rfl) rfl rfl ?_
          refine go_nil ?_
          refine tn ?_
          refine gc_ret ?_
          refine br (tr (tr (br (tr ?_))))
          refine ret_1 (.inl rfl) rfl rfl ?_
          first | (refine rsX [s, b, q] ⟨?_, ?_⟩ <;> (simp_all [saveM]; done)) | (have e := save_err hI.2.2.2 (by rw [recB_len]; have h1 := hI.1; have h2 := hI.2.1; simp only [decide_eq_true_eq, decide_eq_false_iff_not] at *; omega) (by simp_all); rw [hI.2.2.1] at e; refine rsX [s, b, q] ⟨?_, ?_⟩ <;> (simp_all [saveM]; done)) | (have e := save_end hI.2.2.2 (by rw [recB_len]; have h1 := hI.1; have h2 := hI.2.1; simp only [decide_eq_true_eq, decide_eq_false_iff_not] at *; omega); rw [hI.2.2.1] at e; refine rsX [s, b, q] ⟨?_, ?_⟩ <;> (simp_all [saveM]; done))
        · refine gc_skip ?_
          refine bn (tn ?_)
          refine gc_region ?_
          refine sq (q_addi rfl rfl (by have h1 := hI.1; have h2 := hI.2.1; omega)) rfl rfl ?_
          refine sq (q_mv rfl) rfl rfl ?_
          refine go_nil ?_
          exact aq_round (y.1 + 1, (y.2.1.put (w64 (w64 (y.2.2 * 13) + y.1)) ((recB r).getD y.1.toNat 0)).1, y.2.2) ⟨by have := hI.1; omega, by simp_all; omega, hI.2.2.1, save_step hI.2.2.2 hI.1 (by rw [recB_len]; have h1 := hI.1; have h2 := hI.2.1; simp only [decide_eq_true_eq, decide_eq_false_iff_not] at *; omega) (by simp_all)⟩ (by simp_all; omega) ⟨rfl, rfl, rfl, rfl, rfl, rfl, trivial⟩ hpS
      · refine gc_exit ?_
        refine tx (tx (bx (tn ?_)))
        refine gc_seq ?_
        refine gc_seq ?_
        refine gc_region ?_
        refine sq (q_mv rfl) rfl rfl ?_
        refine sq (q_nc rfl) rfl rfl ?_
        refine sq (q_fa rfl Tryz.runUnderlying207 rfl Tryz.sizeOf45) rfl rfl ?_
        refine sq (q_ld rfl Tryz.isAgg45 rfl) rfl rfl ?_
        refine sq (q_mv rfl) rfl rfl ?_
        refine sq (q_mulw rfl rfl) rfl rfl ?_
        refine s_call (e_call (cput_spec ε b q n y.2.1 (by rw [hI.2.2.2.1, hn]) _ _) rfl en119) rfl rfl ?_
        rintro _ _ ⟨rfl, rfl⟩
        refine app2 ?_
        refine sq (q_as rfl) rfl rfl ?_
        refine go_nil ?_
        refine tn ?_
        refine gc_seq ?_
        refine gc_region ?_
        refine sq (q_mv rfl) rfl rfl ?_
        refine sq (q_inil_neq (q := (y.2.1.put _ _).2.map ε) rfl rfl Tryz.underlying47) rfl rfl ?_
        refine go_nil ?_
        refine tn ?_
        refine gc_if rfl (fun h19 => ?_) (fun h19 => ?_)
        · refine gc_seq ?_
          refine gc_region ?_
          refine sq (q_mv rfl) rfl rfl ?_
          refine sq (q_as rfl) rfl rfl ?_
          refine go_nil ?_
          refine tn ?_
          refine gc_ret ?_
          refine tr ?_
          refine ret_1 (.inl rfl) rfl rfl ?_
          first | (refine rsX [s, b, q] ⟨?_, ?_⟩ <;> (simp_all [saveM]; done)) | (have e := save_err hI.2.2.2 (by rw [recB_len]; have h1 := hI.1; have h2 := hI.2.1; simp only [decide_eq_true_eq, decide_eq_false_iff_not] at *; omega) (by simp_all); rw [hI.2.2.1] at e; refine rsX [s, b, q] ⟨?_, ?_⟩ <;> (simp_all [saveM]; done)) | (have e := save_end hI.2.2.2 (by rw [recB_len]; have h1 := hI.1; have h2 := hI.2.1; simp only [decide_eq_true_eq, decide_eq_false_iff_not] at *; omega); rw [hI.2.2.1] at e; refine rsX [s, b, q] ⟨?_, ?_⟩ <;> (simp_all [saveM]; done))
        · refine gc_skip ?_
          refine tn ?_
          refine gc_seq ?_
          refine gc_region ?_
          refine sq (q_mv rfl) rfl rfl ?_
          refine sq (q_mv rfl) rfl rfl ?_
          refine sq (q_lda rfl Tryz.isAgg134 Tryz.sizeOf134 rfl) rfl rfl ?_
          refine sq (q_mv rfl) rfl rfl ?_
          refine sq (q_nc rfl) rfl rfl ?_
          refine sq (q_fa rfl Tryz.runUnderlying207 rfl Tryz.sizeOf134) rfl rfl ?_
          refine s_st (e_st rfl rfl Tryz.sizeOf134 rfl rfl rfl rfl) rfl rfl ?_
          refine sq (q_nc rfl) rfl rfl ?_
          refine sq (q_fa rfl Tryz.runUnderlying207 rfl Tryz.sizeOf3) rfl rfl ?_
          refine s_st (e_st rfl rfl Tryz.sizeOf3 rfl rfl rfl rfl) rfl rfl ?_
          refine go_nil ?_
          refine tn ?_
          refine gc_seq ?_
          refine gc_region ?_
          refine sq (q_as rfl) rfl rfl ?_
          refine go_nil ?_
          refine tn ?_
          refine gc_ret ?_
          refine ret_1 (.inl rfl) rfl rfl ?_
          first | (refine rsX [s, b, q] ⟨?_, ?_⟩ <;> (simp_all [saveM]; done)) | (have e := save_err hI.2.2.2 (by rw [recB_len]; have h1 := hI.1; have h2 := hI.2.1; simp only [decide_eq_true_eq, decide_eq_false_iff_not] at *; omega) (by simp_all); rw [hI.2.2.1] at e; refine rsX [s, b, q] ⟨?_, ?_⟩ <;> (simp_all [saveM]; done)) | (have e := save_end hI.2.2.2 (by rw [recB_len]; have h1 := hI.1; have h2 := hI.2.1; simp only [decide_eq_true_eq, decide_eq_false_iff_not] at *; omega); rw [hI.2.2.1] at e; refine rsX [s, b, q] ⟨?_, ?_⟩ <;> (simp_all [saveM]; done))
end Go.LL
