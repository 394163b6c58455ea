/- Part of a claim: contracts of the program's functions, walked op by op. -/
import Derived.Test.YthabegpfnfbmaaaGreatDoorA3
set_option linter.unusedSimpArgs false
set_option linter.unusedVariables false
namespace Go.LL
open Go.Proofs
abbrev erc (k : Nat) (ε : Nat → Nat × Value) : Chunk := (k, .cells #[errV (some (ε k))] 47 (0, 0))
abbrev ro (ε : Nat → Nat × Value) : List Chunk := (13, .cells dbCells.toArray 432 (0, 0)) :: (0, .cells #[errV (some (ε 0))] 47 (0, 0)) :: (4, .cells #[errV (some (ε 4))] 47 (0, 0)) :: (5, .cells #[errV (some (ε 5))] 47 (0, 0)) :: (6, .cells #[errV (some (ε 6))] 47 (0, 0)) :: (1, .cells #[errV (some (ε 1))] 47 (0, 0)) :: (2, .cells #[errV (some (ε 2))] 47 (0, 0)) :: (3, .cells #[errV (some (ε 3))] 47 (0, 0)) :: []

set_option maxRecDepth 4000 in
set_option maxHeartbeats 2000000 in
theorem gone_spec (b q n : Nat) (m : CellM) :
    Spec Tryz.prog 197 [pt b] [(b, CellM.o 146 q n m)] [] (fun v L => v = .bool m.gone.down ∧ L = [(b, CellM.o 146 q n m.gone)]) := by
  refine spec_of Tryz.func197 rfl Tryz.ntmps197 (by simp) fun w0 hb => ?_
  refine gc_seq ?_
  refine gc_region ?_
  refine sq (q_as rfl) rfl rfl ?_
  refine go_nil ?_
  refine tn ?_
  refine gc_seq ?_
  refine gc_seq ?_
  refine gc_region ?_
  refine sq (q_mv rfl) rfl rfl ?_
  refine sq (q_nc rfl) rfl rfl ?_
  refine sq (q_fa rfl Tryz.runUnderlying146 rfl Tryz.sizeOf4) rfl rfl ?_
  refine sq (q_ld rfl Tryz.isAgg4 rfl) rfl rfl ?_
  refine sq (q_not rfl) rfl rfl ?_
  refine sq (q_mv rfl) rfl rfl ?_
  refine bsp (fun h1 => ?_) (fun h1 => ?_)
  · refine sq (q_mv rfl) rfl rfl ?_
    refine sq (q_nc rfl) rfl rfl ?_
    refine sq (q_fa rfl Tryz.runUnderlying146 rfl Tryz.sizeOf3) rfl rfl ?_
    refine sq (q_ld rfl Tryz.isAgg3 rfl) rfl rfl ?_
    refine sq (q_gtr rfl rfl) rfl rfl ?_
    refine sq (q_pick rfl rfl) rfl rfl ?_
    refine go_nil ?_
    refine tn ?_
    refine gc_if rfl (fun h2 => ?_) (fun h2 => ?_)
    · refine gc_seq ?_
      refine gc_region ?_
      refine sq (q_mv rfl) rfl rfl ?_
      refine sq (q_nc rfl) rfl rfl ?_
      refine sq (q_fa rfl Tryz.runUnderlying146 rfl Tryz.sizeOf3) rfl rfl ?_
      refine sq (q_ld rfl Tryz.isAgg3 rfl) rfl rfl ?_
      refine sq (q_subw rfl rfl) rfl rfl ?_
      refine sq (q_nc rfl) rfl rfl ?_
      refine sq (q_fa rfl Tryz.runUnderlying146 rfl Tryz.sizeOf3) rfl rfl ?_
      refine s_st (e_st rfl rfl Tryz.sizeOf3 rfl rfl rfl rfl) rfl rfl ?_
      refine go_nil ?_
      refine tn ?_
      refine gc_region ?_
      refine sq (q_mv rfl) rfl rfl ?_
      refine sq (q_mv rfl) rfl rfl ?_
      refine sq (q_nc rfl) rfl rfl ?_
      refine sq (q_fa rfl Tryz.runUnderlying146 rfl Tryz.sizeOf3) rfl rfl ?_
      refine sq (q_ld rfl Tryz.isAgg3 rfl) rfl rfl ?_
      refine sq (q_eql rfl rfl) rfl rfl ?_
      refine sq (q_nc rfl) rfl rfl ?_
      refine sq (q_fa rfl Tryz.runUnderlying146 rfl Tryz.sizeOf4) rfl rfl ?_
      refine s_st (e_st rfl rfl Tryz.sizeOf4 rfl rfl rfl rfl) rfl rfl ?_
      refine go_nil ?_
      refine tn ?_
      refine gc_seq ?_
      refine gc_region ?_
      refine sq (q_mv rfl) rfl rfl ?_
      refine sq (q_nc rfl) rfl rfl ?_
      refine sq (q_fa rfl Tryz.runUnderlying146 rfl Tryz.sizeOf4) rfl rfl ?_
      refine sq (q_ld rfl Tryz.isAgg4 rfl) rfl rfl ?_
      refine sq (q_as rfl) rfl rfl ?_
      refine go_nil ?_
      refine tn ?_
      refine gc_ret ?_
      refine ret_1 (.inl rfl) rfl rfl ?_
      refine rsX [b] ⟨?_, ?_⟩ <;> (first | rfl | (simp_all [CellM.gone]; done) | (simp_all [CellM.gone]; rfl) | (simp_all [CellM.gone]; omega) | (simp only [CellM.gone]; (repeat' split) <;> first | (simp_all; done) | (simp_all; omega) | omega | (exfalso; simp_all; omega)) | (simp_all; (simp only [CellM.gone]; (repeat' split) <;> first | (simp_all; done) | (simp_all; omega) | omega | (exfalso; simp_all; omega))))
    · refine gc_skip ?_
      refine tn ?_
      refine gc_seq ?_
      refine gc_region ?_
      refine sq (q_mv rfl) rfl rfl ?_
      refine sq (q_nc rfl) rfl rfl ?_
      refine sq (q_fa rfl Tryz.runUnderlying146 rfl Tryz.sizeOf4) rfl rfl ?_
      refine sq (q_ld rfl Tryz.isAgg4 rfl) rfl rfl ?_
      refine sq (q_as rfl) rfl rfl ?_
      refine go_nil ?_
      refine tn ?_
      refine gc_ret ?_
      refine ret_1 (.inl rfl) rfl rfl ?_
      refine rsX [b] ⟨?_, ?_⟩ <;> (first | rfl | (simp_all [CellM.gone]; done) | (simp_all [CellM.gone]; rfl) | (simp_all [CellM.gone]; omega) | (simp only [CellM.gone]; (repeat' split) <;> first | (simp_all; done) | (simp_all; omega) | omega | (exfalso; simp_all; omega)) | (simp_all; (simp only [CellM.gone]; (repeat' split) <;> first | (simp_all; done) | (simp_all; omega) | omega | (exfalso; simp_all; omega))))
  · refine sskip rfl rfl ?_
    refine sskip rfl rfl ?_
    refine sskip rfl rfl ?_
    refine sskip rfl rfl ?_
    refine sskip rfl rfl ?_
    refine sq (q_pick rfl rfl) rfl rfl ?_
    refine go_nil ?_
    refine tn ?_
    refine gc_false rfl ?_
    refine gc_skip ?_
    refine tn ?_
    refine gc_seq ?_
    refine gc_region ?_
    refine sq (q_mv rfl) rfl rfl ?_
    refine sq (q_nc rfl) rfl rfl ?_
    refine sq (q_fa rfl Tryz.runUnderlying146 rfl Tryz.sizeOf4) rfl rfl ?_
    refine sq (q_ld rfl Tryz.isAgg4 rfl) rfl rfl ?_
    refine sq (q_as rfl) rfl rfl ?_
    refine go_nil ?_
    refine tn ?_
    refine gc_ret ?_
    refine ret_1 (.inl rfl) rfl rfl ?_
    refine rsX [b] ⟨?_, ?_⟩ <;> (first | rfl | (simp_all [CellM.gone]; done) | (simp_all [CellM.gone]; rfl) | (simp_all [CellM.gone]; omega) | (simp only [CellM.gone]; (repeat' split) <;> first | (simp_all; done) | (simp_all; omega) | omega | (exfalso; simp_all; omega)) | (simp_all; (simp only [CellM.gone]; (repeat' split) <;> first | (simp_all; done) | (simp_all; omega) | omega | (exfalso; simp_all; omega))))

set_option maxRecDepth 4000 in
set_option maxHeartbeats 2000000 in
theorem cis_spec (b q n : Nat) (m : CellM) (hn : m.bs.length = n) (i : Int) :
    Spec Tryz.prog 198 [pt b, i6 i] [] [(b, CellM.o 146 q n m)] (fun v L => v = .bool (m.is i) ∧ L = []) := by
  refine spec_of Tryz.func198 rfl Tryz.ntmps198 (by simp) fun w0 hb => ?_
  refine gc_seq ?_
  refine gc_region ?_
  refine sq (q_as rfl) rfl rfl ?_
  refine go_nil ?_
  refine tn ?_
  refine gc_seq ?_
  refine gc_region ?_
  refine sq (q_mv rfl) rfl rfl ?_
  refine sq (q_geq rfl rfl) rfl rfl ?_
  refine sq (q_mv rfl) rfl rfl ?_
  refine bsp (fun h1 => ?_) (fun h1 => ?_)
  · refine sq (q_mv rfl) rfl rfl ?_
    refine sq (q_mv rfl) rfl rfl ?_
    refine sq (q_nc rfl) rfl rfl ?_
    refine sq (q_fa rfl Tryz.runUnderlying146 rfl Tryz.sizeOf87) rfl rfl ?_
    refine sq (q_ld rfl Tryz.isAgg87 rfl) rfl rfl ?_
    refine sq (q_lenS Tryz.runUnderlying87 rfl) rfl rfl ?_
    refine sq (q_lss rfl rfl) rfl rfl ?_
    refine sq (q_pick rfl rfl) rfl rfl ?_
    refine sq (q_as rfl) rfl rfl ?_
    refine go_nil ?_
    refine tn ?_
    refine gc_ret ?_
    refine ret_1 (.inl rfl) rfl rfl ?_
    exact rsE (by first | rfl | (simp_all [CellM.is]; done) | (simp_all [CellM.is]; rfl) | (simp_all [CellM.is]; omega) | (simp_all [CellM.is]; intros; omega) | (simp_all [CellM.is]; (repeat' split) <;> first | rfl | (simp_all; done) | omega | (exfalso; omega)) | (simp only [CellM.is]; (repeat' split) <;> first | (simp_all; done) | (simp_all; omega) | omega | (exfalso; simp_all; omega)) | (simp_all; (simp only [CellM.is]; (repeat' split) <;> first | (simp_all; done) | (simp_all; omega) | omega | (exfalso; simp_all; omega))))
  · refine sskip rfl rfl ?_
    refine sskip rfl rfl ?_
    refine sskip rfl rfl ?_
    refine sskip rfl rfl ?_
    refine sskip rfl rfl ?_
    refine sskip rfl rfl ?_
    refine sskip rfl rfl ?_
    refine sq (q_pick rfl rfl) rfl rfl ?_
    refine sq (q_as rfl) rfl rfl ?_
    refine go_nil ?_
    refine tn ?_
    refine gc_ret ?_
    refine ret_1 (.inl rfl) rfl rfl ?_
    exact rsE (by first | rfl | (simp_all [CellM.is]; done) | (simp_all [CellM.is]; rfl) | (simp_all [CellM.is]; omega) | (simp_all [CellM.is]; intros; omega) | (simp_all [CellM.is]; (repeat' split) <;> first | rfl | (simp_all; done) | omega | (exfalso; omega)) | (simp only [CellM.is]; (repeat' split) <;> first | (simp_all; done) | (simp_all; omega) | omega | (exfalso; simp_all; omega)) | (simp_all; (simp only [CellM.is]; (repeat' split) <;> first | (simp_all; done) | (simp_all; omega) | omega | (exfalso; simp_all; omega))))

set_option maxRecDepth 4000 in
set_option maxHeartbeats 2000000 in
theorem csize_spec (b q n : Nat) (m : CellM) :
    Spec Tryz.prog 154 [pt b] [] [(b, CellM.o 146 q n m)] (fun v L => v = i6 n ∧ L = []) := by
  refine spec_of Tryz.func154 rfl Tryz.ntmps154 (by simp) fun w0 hb => ?_
  refine gc_seq ?_
  refine gc_region ?_
  refine sq (q_as rfl) rfl rfl ?_
  refine go_nil ?_
  refine tn ?_
  refine gc_seq ?_
  refine gc_region ?_
  refine sq (q_mv rfl) rfl rfl ?_
  refine sq (q_nc rfl) rfl rfl ?_
  refine sq (q_fa rfl Tryz.runUnderlying146 rfl Tryz.sizeOf87) rfl rfl ?_
  refine sq (q_ld rfl Tryz.isAgg87 rfl) rfl rfl ?_
  refine sq (q_lenS Tryz.runUnderlying87 rfl) rfl rfl ?_
  refine sq (q_as rfl) rfl rfl ?_
  refine go_nil ?_
  refine tn ?_
  refine gc_ret ?_
  refine ret_1 (.inl rfl) rfl rfl ?_
  exact rsE (by first | rfl | (simp_all; done) | (simp_all; rfl) | (simp_all; omega) | (simp_all; intros; omega) | (simp_all; (repeat' split) <;> first | rfl | (simp_all; done) | omega | (exfalso; omega)))

set_option maxRecDepth 4000 in
set_option maxHeartbeats 2000000 in
theorem arm_spec (b q n : Nat) (m : CellM) (k : Int) :
    Spec Tryz.prog 18 [pt b, i6 k] [(b, CellM.o 146 q n m)] [] (fun v L => v = .tuple #[] ∧ L = [(b, CellM.o 146 q n ⟨m.bs, max k 0, m.down, m.writes⟩)]) := by
  refine spec_of Tryz.func18 rfl Tryz.ntmps18 (by simp) fun w0 hb => ?_
  refine gc_region ?_
  refine sq (q_mv rfl) rfl rfl ?_
  refine sq (q_mv rfl) rfl rfl ?_
  refine sq (q_max2 rfl rfl) rfl rfl ?_
  refine sq (q_nc rfl) rfl rfl ?_
  refine sq (q_fa rfl Tryz.runUnderlying146 rfl Tryz.sizeOf3) rfl rfl ?_
  refine s_st (e_st rfl rfl Tryz.sizeOf3 rfl rfl rfl rfl) rfl rfl ?_
  refine go_nil ?_
  refine ret_0 (.inr rfl) rfl ?_
  refine rsX [b] ⟨?_, ?_⟩ <;> (first | rfl | (simp_all; done) | (simp_all; rfl) | (simp_all; omega) | omega | (simp_all; omega))

set_option maxRecDepth 4000 in
set_option maxHeartbeats 2000000 in
theorem back_spec (b q n : Nat) (m : CellM) :
    Spec Tryz.prog 17 [pt b] [(b, CellM.o 146 q n m)] [] (fun v L => v = .tuple #[] ∧ L = [(b, CellM.o 146 q n ⟨m.bs, 0, false, m.writes⟩)]) := by
  refine spec_of Tryz.func17 rfl Tryz.ntmps17 (by simp) fun w0 hb => ?_
  refine gc_region ?_
  refine sq (q_mv rfl) rfl rfl ?_
  refine sq (q_mv rfl) rfl rfl ?_
  refine sq (q_nc rfl) rfl rfl ?_
  refine sq (q_fa rfl Tryz.runUnderlying146 rfl Tryz.sizeOf3) rfl rfl ?_
  refine s_st (e_st rfl rfl Tryz.sizeOf3 rfl rfl rfl rfl) rfl rfl ?_
  refine sq (q_nc rfl) rfl rfl ?_
  refine sq (q_fa rfl Tryz.runUnderlying146 rfl Tryz.sizeOf4) rfl rfl ?_
  refine s_st (e_st rfl rfl Tryz.sizeOf4 rfl rfl rfl rfl) rfl rfl ?_
  refine go_nil ?_
  refine ret_0 (.inr rfl) rfl ?_
  refine rsX [b] ⟨?_, ?_⟩ <;> (first | rfl | (simp_all; done) | (simp_all; rfl) | (simp_all; omega) | omega | (simp_all; omega))

set_option maxRecDepth 4000 in
set_option maxHeartbeats 2000000 in
theorem cdown_spec (b q n : Nat) (m : CellM) :
    Spec Tryz.prog 47 [pt b] [] [(b, CellM.o 146 q n m)] (fun v L => v = .bool m.down ∧ L = []) := by
  refine spec_of Tryz.func47 rfl Tryz.ntmps47 (by simp) fun w0 hb => ?_
  refine gc_seq ?_
  refine gc_region ?_
  refine sq (q_as rfl) rfl rfl ?_
  refine go_nil ?_
  refine tn ?_
  refine gc_seq ?_
  refine gc_region ?_
  refine sq (q_mv rfl) rfl rfl ?_
  refine sq (q_nc rfl) rfl rfl ?_
  refine sq (q_fa rfl Tryz.runUnderlying146 rfl Tryz.sizeOf4) rfl rfl ?_
  refine sq (q_ld rfl Tryz.isAgg4 rfl) rfl rfl ?_
  refine sq (q_as rfl) rfl rfl ?_
  refine go_nil ?_
  refine tn ?_
  refine gc_ret ?_
  refine ret_1 (.inl rfl) rfl rfl ?_
  exact rsE (by first | rfl | (simp_all; done) | (simp_all; rfl) | (simp_all; omega) | (simp_all; intros; omega) | (simp_all; (repeat' split) <;> first | rfl | (simp_all; done) | omega | (exfalso; omega)))

set_option maxRecDepth 4000 in
set_option maxHeartbeats 2000000 in
theorem get_spec (ε : Nat → Nat × Value) (b q n : Nat) (m : CellM) (hn : m.bs.length = n) (i : Int) :
    Spec Tryz.prog 238 [pt b, i6 i] [] ((b, CellM.o 146 q n m) :: (q, CellM.bo 5 m) :: ro ε) (fun v L => v = .tuple #[u8v (m.get i).1, ev ε (m.get i).2] ∧ L = []) := by
  refine spec_of Tryz.func238 rfl Tryz.ntmps238 (by simp) fun w0 hb => ?_
  refine gc_seq ?_
  refine gc_region ?_
  refine sq (q_as rfl) rfl rfl ?_
  refine sq (q_as rfl) rfl rfl ?_
  refine go_nil ?_
  refine tn ?_
  refine gc_seq ?_
  refine gc_block ?_
  refine gc_seq ?_
  refine gc_region ?_
  refine sq (q_mv rfl) rfl rfl ?_
  refine sq (q_nc rfl) rfl rfl ?_
  refine sq (q_fa rfl Tryz.runUnderlying146 rfl Tryz.sizeOf4) rfl rfl ?_
  refine sq (q_ld rfl Tryz.isAgg4 rfl) rfl rfl ?_
  refine sq (q_as rfl) rfl rfl ?_
  refine go_nil ?_
  refine tn ?_
  refine gc_if rfl (fun h1 => ?_) (fun h1 => ?_)
  · refine gc_seq ?_
    refine gc_draw (ord := [(0, true), (1, false), (2, false)]) [] mixed (by kernel_rfl) rfl (by kernel_rfl) (.slnil) ?_
    refine gx_q (q_ld rfl Tryz.isAgg47 rfl) rfl rfl rfl ?_
    refine x_qe (q_as rfl) rfl rfl rfl (by repeat (first | exact List.nil_sublist _ | exact List.Sublist.refl _ | exact List.sublist_append_right _ _ | apply List.Sublist.cons_cons | apply List.Sublist.cons | refine List.Sublist.trans ?_ (List.sublist_append_right _ _))) ?_
    refine x_qe (q_as rfl) rfl rfl rfl (by repeat (first | exact List.nil_sublist _ | exact List.Sublist.refl _ | exact List.sublist_append_right _ _ | apply List.Sublist.cons_cons | apply List.Sublist.cons | refine List.Sublist.trans ?_ (List.sublist_append_right _ _))) ?_
    refine gx_nil ?_
    refine tn ?_
    refine gc_ret ?_
    refine br (tr ?_)
    refine ret_2 (.inl rfl) rfl rfl rfl ?_
    exact rsE (by first | rfl | (simp_all [CellM.get]; done) | (simp_all [CellM.get]; rfl) | (simp_all [CellM.get]; omega) | (simp_all [CellM.get]; intros; omega) | (simp_all [CellM.get]; (repeat' split) <;> first | rfl | (simp_all; done) | omega | (exfalso; omega)) | (simp only [CellM.get]; (repeat' split) <;> first | (simp_all; done) | (simp_all; omega) | omega | (exfalso; simp_all; omega)) | (simp_all; (simp only [CellM.get]; (repeat' split) <;> first | (simp_all; done) | (simp_all; omega) | omega | (exfalso; simp_all; omega))))
  · refine gc_seq ?_
    refine gc_region ?_
    refine sq (q_mv rfl) rfl rfl ?_
    refine sq (q_mv rfl) rfl rfl ?_
    refine s_callE (e_call (cis_spec b q n m hn i) rfl en198) rfl rfl ?_
    refine sq (q_not rfl) rfl rfl ?_
    refine sq (q_as rfl) rfl rfl ?_
    refine go_nil ?_
    refine tn ?_
    refine gc_if rfl (fun h2 => ?_) (fun h2 => ?_)
    · refine gc_seq ?_
      refine gc_draw (ord := [(0, true), (1, false), (2, false)]) [] mixed (by kernel_rfl) rfl (by kernel_rfl) (.slnil) ?_
      refine gx_q (q_ld rfl Tryz.isAgg47 rfl) rfl rfl rfl ?_
      refine x_qe (q_as rfl) rfl rfl rfl (by repeat (first | exact List.nil_sublist _ | exact List.Sublist.refl _ | exact List.sublist_append_right _ _ | apply List.Sublist.cons_cons | apply List.Sublist.cons | refine List.Sublist.trans ?_ (List.sublist_append_right _ _))) ?_
      refine x_qe (q_as rfl) rfl rfl rfl (by repeat (first | exact List.nil_sublist _ | exact List.Sublist.refl _ | exact List.sublist_append_right _ _ | apply List.Sublist.cons_cons | apply List.Sublist.cons | refine List.Sublist.trans ?_ (List.sublist_append_right _ _))) ?_
      refine gx_nil ?_
      refine tn ?_
      refine gc_ret ?_
      refine br (tr ?_)
      refine ret_2 (.inl rfl) rfl rfl rfl ?_
      exact rsE (by first | rfl | (simp_all [CellM.get]; done) | (simp_all [CellM.get]; rfl) | (simp_all [CellM.get]; omega) | (simp_all [CellM.get]; intros; omega) | (simp_all [CellM.get]; (repeat' split) <;> first | rfl | (simp_all; done) | omega | (exfalso; omega)) | (simp only [CellM.get]; (repeat' split) <;> first | (simp_all; done) | (simp_all; omega) | omega | (exfalso; simp_all; omega)) | (simp_all; (simp only [CellM.get]; (repeat' split) <;> first | (simp_all; done) | (simp_all; omega) | omega | (exfalso; simp_all; omega))))
    · refine gc_skip ?_
      refine bn (tn ?_)
      refine gc_seq ?_
      refine gc_region ?_
      refine sq (q_mv rfl) rfl rfl ?_
      refine sq (q_nc rfl) rfl rfl ?_
      refine sq (q_fa rfl Tryz.runUnderlying146 rfl Tryz.sizeOf87) rfl rfl ?_
      refine sq (q_ld rfl Tryz.isAgg87 rfl) rfl rfl ?_
      refine sq (q_mv rfl) rfl rfl ?_
      refine sq (q_iaS rfl rfl Tryz.runUnderlying87 Tryz.sizeOf5 (by have : m.bs.length = n := hn; simp_all [CellM.is])) rfl rfl ?_
      refine sq (q_ld (l := m.bs.map u8v) rfl Tryz.isAgg5 (map_ld u8v m.bs i.toNat (by first | (simp_all [CellM.is]; done) | (simp_all [CellM.is]; omega)))) rfl rfl ?_
      refine sq (q_as rfl) rfl rfl ?_
      refine sq (q_as rfl) rfl rfl ?_
      refine go_nil ?_
      refine tn ?_
      refine gc_ret ?_
      refine ret_2 (.inl rfl) rfl rfl rfl ?_
      exact rsE (by first | rfl | (simp_all [CellM.get]; done) | (simp_all [CellM.get]; rfl) | (simp_all [CellM.get]; omega) | (simp_all [CellM.get]; intros; omega) | (simp_all [CellM.get]; (repeat' split) <;> first | rfl | (simp_all; done) | omega | (exfalso; omega)) | (simp only [CellM.get]; (repeat' split) <;> first | (simp_all; done) | (simp_all; omega) | omega | (exfalso; simp_all; omega)) | (simp_all; (simp only [CellM.get]; (repeat' split) <;> first | (simp_all; done) | (simp_all; omega) | omega | (exfalso; simp_all; omega))))

set_option maxRecDepth 4000 in
set_option maxHeartbeats 2000000 in
theorem cput_spec (ε : Nat → Nat × Value) (b q n : Nat) (m : CellM) (hn : m.bs.length = n) (i x : Int) :
    Spec Tryz.prog 119 [pt b, i6 i, u8v x] [(b, CellM.o 146 q n m), (q, CellM.bo 5 m)] (ro ε) (fun v L => v = ev ε (m.put i x).2 ∧ L = [(b, CellM.o 146 q n (m.put i x).1), (q, CellM.bo 5 (m.put i x).1)]) := by
  refine spec_of Tryz.func119 rfl Tryz.ntmps119 (by simp) fun w0 hb => ?_
  refine gc_seq ?_
  refine gc_region ?_
  refine sq (q_as rfl) rfl rfl ?_
  refine go_nil ?_
  refine tn ?_
  refine gc_seq ?_
  refine gc_block ?_
  refine gc_seq ?_
  refine gc_region ?_
  refine sq (q_mv rfl) rfl rfl ?_
  refine s_call (e_call (gone_spec b q n m) rfl en197) rfl rfl ?_
  rintro _ _ ⟨rfl, rfl⟩
  refine app1 ?_
  refine sq (q_as rfl) rfl rfl ?_
  refine go_nil ?_
  refine tn ?_
  refine gc_if rfl (fun h2 => ?_) (fun h2 => ?_)
  · refine gc_seq ?_
    refine gc_region ?_
    refine sq (q_ld rfl Tryz.isAgg47 rfl) rfl rfl ?_
    refine sq (q_as rfl) rfl rfl ?_
    refine go_nil ?_
    refine tn ?_
    refine gc_ret ?_
    refine br (tr ?_)
    refine ret_1 (.inl rfl) rfl rfl ?_
    refine rsX [b, q] ⟨?_, ?_⟩ <;> (first | rfl | (simp_all [CellM.put, CellM.gone_is, CellM.gone_bs]; done) | (simp_all [CellM.put, CellM.gone_is, CellM.gone_bs]; rfl) | (simp_all [CellM.put, CellM.gone_is, CellM.gone_bs]; omega) | (simp only [CellM.put, CellM.gone_is, CellM.gone_bs]; (repeat' split) <;> first | (simp_all; done) | (simp_all; omega) | omega | (exfalso; simp_all; omega)) | (simp_all; (simp only [CellM.put, CellM.gone_is, CellM.gone_bs]; (repeat' split) <;> first | (simp_all; done) | (simp_all; omega) | omega | (exfalso; simp_all; omega))))
  · refine gc_seq ?_
    refine gc_region ?_
    refine sq (q_mv rfl) rfl rfl ?_
    refine sq (q_mv rfl) rfl rfl ?_
    refine s_callE (e_call (cis_spec b q n m.gone (by rw [CellM.gone_bs, hn]) i) rfl en198) rfl rfl ?_
    refine sq (q_not rfl) rfl rfl ?_
    refine sq (q_as rfl) rfl rfl ?_
    refine go_nil ?_
    refine tn ?_
    refine gc_if rfl (fun h3 => ?_) (fun h3 => ?_)
    · refine gc_seq ?_
      refine gc_region ?_
      refine sq (q_ld rfl Tryz.isAgg47 rfl) rfl rfl ?_
      refine sq (q_as rfl) rfl rfl ?_
      refine go_nil ?_
      refine tn ?_
      refine gc_ret ?_
      refine br (tr ?_)
      refine ret_1 (.inl rfl) rfl rfl ?_
      refine rsX [b, q] ⟨?_, ?_⟩ <;> (first | rfl | (simp_all [CellM.put, CellM.gone_is, CellM.gone_bs]; done) | (simp_all [CellM.put, CellM.gone_is, CellM.gone_bs]; rfl) | (simp_all [CellM.put, CellM.gone_is, CellM.gone_bs]; omega) | (simp only [CellM.put, CellM.gone_is, CellM.gone_bs]; (repeat' split) <;> first | (simp_all; done) | (simp_all; omega) | omega | (exfalso; simp_all; omega)) | (simp_all; (simp only [CellM.put, CellM.gone_is, CellM.gone_bs]; (repeat' split) <;> first | (simp_all; done) | (simp_all; omega) | omega | (exfalso; simp_all; omega))))
    · refine gc_skip ?_
      refine bn (tn ?_)
      refine gc_seq ?_
      refine gc_region ?_
      refine sq (q_mv rfl) rfl rfl ?_
      refine sq (q_nc rfl) rfl rfl ?_
      refine sq (q_fa rfl Tryz.runUnderlying146 rfl Tryz.sizeOf87) rfl rfl ?_
      refine sq (q_ld rfl Tryz.isAgg87 rfl) rfl rfl ?_
      refine sq (q_mv rfl) rfl rfl ?_
      refine sq (q_mv rfl) rfl rfl ?_
      refine sq (q_iaS rfl rfl Tryz.runUnderlying87 Tryz.sizeOf5 (by have : m.bs.length = n := hn; simp_all [CellM.is, CellM.gone_bs])) rfl rfl ?_
      refine s_st (e_st (l := m.bs.map u8v) (r := (m.bs.set i.toNat x).map u8v) rfl rfl Tryz.sizeOf5 rfl rfl rfl (map_st u8v m.bs i.toNat x (by first | (simp_all [CellM.is, CellM.gone_bs]; done) | (simp_all [CellM.is, CellM.gone_bs]; omega)))) rfl rfl ?_
      refine go_nil ?_
      refine tn ?_
      refine gc_seq ?_
      refine gc_region ?_
      refine sq (q_mv rfl) rfl rfl ?_
      refine sq (q_nc rfl) rfl rfl ?_
      refine sq (q_fa rfl Tryz.runUnderlying146 rfl Tryz.sizeOf3) rfl rfl ?_
      refine sq (q_ld rfl Tryz.isAgg3 rfl) rfl rfl ?_
      refine sq (q_addw rfl rfl) rfl rfl ?_
      refine sq (q_nc rfl) rfl rfl ?_
      refine sq (q_fa rfl Tryz.runUnderlying146 rfl Tryz.sizeOf3) rfl rfl ?_
      refine s_st (e_st rfl rfl Tryz.sizeOf3 rfl rfl rfl rfl) rfl rfl ?_
      refine go_nil ?_
      refine tn ?_
      refine gc_seq ?_
      refine gc_region ?_
      refine sq (q_as rfl) rfl rfl ?_
      refine go_nil ?_
      refine tn ?_
      refine gc_ret ?_
      refine ret_1 (.inl rfl) rfl rfl ?_
      refine rsX [b, q] ⟨?_, ?_⟩ <;> (first | rfl | (simp_all [CellM.put, CellM.gone_is, CellM.gone_bs]; done) | (simp_all [CellM.put, CellM.gone_is, CellM.gone_bs]; rfl) | (simp_all [CellM.put, CellM.gone_is, CellM.gone_bs]; omega) | (simp only [CellM.put, CellM.gone_is, CellM.gone_bs]; (repeat' split) <;> first | (simp_all; done) | (simp_all; omega) | omega | (exfalso; simp_all; omega)) | (simp_all; (simp only [CellM.put, CellM.gone_is, CellM.gone_bs]; (repeat' split) <;> first | (simp_all; done) | (simp_all; omega) | omega | (exfalso; simp_all; omega))))
end Go.LL
