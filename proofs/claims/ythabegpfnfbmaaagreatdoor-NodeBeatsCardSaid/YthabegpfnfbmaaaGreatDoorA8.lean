/- Part of a claim: contracts of the program's functions, walked op by op. -/
import Derived.Test.YthabegpfnfbmaaaGreatDoorA7
import Derived.Test.YthabegpfnfbmaaaGreatDoorMO5
set_option linter.unusedSimpArgs false
set_option linter.unusedVariables false
namespace Go.LL
open Go.Proofs

set_option maxRecDepth 4000 in
set_option maxHeartbeats 2000000 in
theorem cnew_spec  :
    Spec Tryz.prog 14 [i6 26] [] [] (fun v L => ∃ b q, v = .tuple #[pt b, .nilIface] ∧ L = [(b, CellM.o 146 q 26 ⟨List.replicate 26 0, 0, false, 0⟩), (q, CellM.bo 5 ⟨List.replicate 26 0, 0, false, 0⟩)]) := by
  refine spec_of Tryz.func14 rfl Tryz.ntmps14 (by simp) fun w0 hb => ?_
  refine gc_seq ?_
  refine gc_region ?_
  refine sq (q_as rfl) rfl rfl ?_
  refine sq (q_as rfl) rfl rfl ?_
  refine go_nil ?_
  refine tn ?_
  refine gc_seq ?_
  refine gc_seq ?_
  refine gc_region ?_
  refine sq (q_mv rfl) rfl rfl ?_
  refine sq (q_lss rfl rfl) rfl rfl ?_
  refine sq (q_mv rfl) rfl rfl ?_
  refine sq (q_mv rfl) rfl rfl ?_
  refine sq (q_gtr rfl rfl) rfl rfl ?_
  refine sq (q_pick rfl rfl) rfl rfl ?_
  refine go_nil ?_
  refine tn ?_
  refine gc_false rfl ?_
  refine gc_skip ?_
  refine tn ?_
  refine gc_seq ?_
  refine gc_region ?_
  refine sq (q_mv rfl) rfl rfl ?_
  refine s_bsl (e_mks (size := 1) (n := 26) (i := tiOf Tryz.prog 5) (zv := .int .u8 0) (zl := [.int .u8 0, .int .u8 0, .int .u8 0, .int .u8 0, .int .u8 0, .int .u8 0, .int .u8 0, .int .u8 0, .int .u8 0, .int .u8 0, .int .u8 0, .int .u8 0, .int .u8 0, .int .u8 0, .int .u8 0, .int .u8 0, .int .u8 0, .int .u8 0, .int .u8 0, .int .u8 0, .int .u8 0, .int .u8 0, .int .u8 0, .int .u8 0, .int .u8 0, .int .u8 0]) rfl rfl Tryz.underlying87 (by kernel_rfl) (by kernel_rfl) (by kernel_rfl) (Nat.le_of_ble_eq_true (by kernel_rfl)) (Nat.le_of_ble_eq_true (by kernel_rfl)) (by kernel_rfl)) rfl rfl fun b1 => ?_
  refine sq (q_bld rfl Tryz.runUnderlying146 Tryz.zeroValue146 rfl pl146 rfl) rfl rfl ?_
  refine s_new (e_box rfl rfl) rfl rfl fun b2 => ?_
  refine sq (q_as rfl) rfl rfl ?_
  refine sq (q_as rfl) rfl rfl ?_
  refine go_nil ?_
  refine tn ?_
  refine gc_ret ?_
  refine ret_2 (.inl rfl) rfl rfl rfl ?_
  exact rsX [b2, b1] ⟨_, _, rfl, rfl⟩

set_option maxRecDepth 4000 in
set_option maxHeartbeats 2000000 in
theorem rnew_spec (n : Int) (h : 2 ≤ n ∧ n ≤ 64) :
    Spec Tryz.prog 15 [i6 n] [] [] (fun v L => ∃ b g l, v = .tuple #[pt b, .nilIface] ∧ L = [(b, .cells #[i6 n, .map (some g), .map (some l)] 149 (0, 0)), (g, .map #[] 0), (l, .map #[] 0)]) := by
  refine spec_of Tryz.func15 rfl Tryz.ntmps15 (by simp) fun w0 hb => ?_
  refine gc_seq ?_
  refine gc_region ?_
  refine sq (q_as rfl) rfl rfl ?_
  refine sq (q_as rfl) rfl rfl ?_
  refine go_nil ?_
  refine tn ?_
  refine gc_seq ?_
  refine gc_seq ?_
  refine gc_region ?_
  refine sq (q_mv rfl) rfl rfl ?_
  refine sq (q_lss rfl rfl) rfl rfl ?_
  refine sq (q_mv rfl) rfl rfl ?_
  refine bsp (fun h1 => ?_) (fun h1 => ?_)
  · refine sskip rfl rfl ?_
    refine sskip rfl rfl ?_
    refine sq (q_pick rfl rfl) rfl rfl ?_
    refine go_nil ?_
    refine tn ?_
    refine gc_true rfl ?_
    refine gc_seq ?_
    exfalso; simp_all; omega
  · refine sq (q_mv rfl) rfl rfl ?_
    refine sq (q_gtr rfl rfl) rfl rfl ?_
    refine sq (q_pick rfl rfl) rfl rfl ?_
    refine go_nil ?_
    refine tn ?_
    refine gc_if rfl (fun h2 => ?_) (fun h2 => ?_)
    · refine gc_seq ?_
      exfalso; simp_all; omega
    · refine gc_skip ?_
      refine tn ?_
      refine gc_seq ?_
      refine gc_region ?_
      refine sq (q_mv rfl) rfl rfl ?_
      refine s_map (e_mkmap) rfl rfl fun b3 => ?_
      refine s_map (e_mkmap) rfl rfl fun b4 => ?_
      refine sq (q_bld rfl Tryz.runUnderlying149 Tryz.zeroValue149 rfl pl149 rfl) rfl rfl ?_
      refine s_new (e_box rfl rfl) rfl rfl fun b5 => ?_
      refine sq (q_as rfl) rfl rfl ?_
      refine sq (q_as rfl) rfl rfl ?_
      refine go_nil ?_
      refine tn ?_
      refine gc_ret ?_
      refine ret_2 (.inl rfl) rfl rfl rfl ?_
      exact rsX [b5, b3, b4] ⟨_, _, _, rfl, rfl⟩
theorem open_elim {ε : Nat → Nat × Value} {T b n : Nat} {m : CellM} {v : Value} {L : List Chunk} (h : (openM m n).2 = none) (hR : OpenR ε T b n m v L) : ∃ s, v = .tuple #[pt s, .nilIface] ∧ L = [(s, StoreM.o T b (openM m n).1)] := by
  rcases hR with ⟨e, he, _⟩ | ⟨_, hs⟩
  · rw [h] at he; simp at he
  · exact hs
theorem yapp1 {c : Cx} {Q : Post} {E : Env} {L Ls : List Chunk} {l : List Oper} {f : Nat} {listed : Array Bool} {x : Chunk} (h : GY c l Q Ls f listed E (x :: L)) : GY c l Q Ls f listed E ([x] ++ L) := h
abbrev evC (k car : Int) : List Value := [i6 k, i6 car, i6 0, i6 0, i6 0, i6 0, i6 0, i6 0, i6 0]

set_option maxRecDepth 4000 in
set_option maxHeartbeats 2000000 in
theorem nodeNew_ok (ε : Nat → Nat × Value) (h : House) (id pos : Int) (b q n : Nat) (m : CellM) (hn : m.bs.length = n) (hok : m.OK) (hc : (carStart h pos).2 = true) (hi : 0 ≤ id ∧ id < h.cars) (hO : (openM m n).2 = none) (hS : (newSave m n).2.2 = none) :
    Spec Tryz.prog 19 [h.v, i6 id, pt b, i6 pos] [(b, CellM.o 146 q n m), (q, CellM.bo 5 m)] (ro ε) (fun v L => ∃ np, ∃ p : NodeP, ∃ eb, v = .tuple #[pt np, .slice (some ⟨eb, 0, none⟩) 1 1, .nilIface] ∧ L = [(np, NodeM.o 129 p ⟨h, id, w64 ((openM m n).1.life + 1), (carStart h pos).1, .slice none 0 0, noIns, false, false, 0, 0⟩), (p.s, StoreM.o 207 b (newSave m n).2.1), (b, CellM.o 146 q n (newSave m n).1), (q, CellM.bo 5 (newSave m n).1), (p.g, GateM.o 205 ⟨⟨0, 0⟩, 0, max (openM m n).1.count 0⟩), (p.c, .cells #[.map none] 158 (0, 0)), (p.l, Tab.o 163 Tab.new), (eb, .cells (evC 9 id).toArray 76 (0, 0))]) := by
  refine spec_of Tryz.func19 rfl Tryz.ntmps19 (by simp) fun w0 hb => ?_
  refine gc_seq ?_
  refine gc_region ?_
  refine s_new (e_box rfl rfl) rfl rfl fun b1 => ?_
  refine sq (q_as rfl) rfl rfl ?_
  refine sq (q_as rfl) rfl rfl ?_
  refine sq (q_as rfl) rfl rfl ?_
  refine go_nil ?_
  refine tn ?_
  refine gc_seq ?_
  refine gc_region ?_
  refine sq (q_lda rfl Tryz.isAgg29 Tryz.sizeOf29 rfl) rfl rfl ?_
  refine sq (q_mv rfl) rfl rfl ?_
  refine s_callE (e_call (start_spec h _) rfl en66) rfl rfl ?_
  refine sq (q_mv rfl) rfl rfl ?_
  refine sq (q_ext rfl rfl) rfl rfl ?_
  refine sq (q_ext rfl rfl) rfl rfl ?_
  refine s_new (e_alloc Tryz.zeroValue64 rfl) rfl rfl fun b2 => ?_
  refine s_st (e_st rfl rfl Tryz.sizeOf64 rfl rfl rfl rfl) rfl rfl ?_
  refine sq (q_as rfl) rfl rfl ?_
  refine go_nil ?_
  refine tn ?_
  refine gc_seq ?_
  refine gc_seq ?_
  refine gc_region ?_
  refine sq (q_mv rfl) rfl rfl ?_
  refine sq (q_not rfl) rfl rfl ?_
  refine sq (q_mv rfl) rfl rfl ?_
  refine bsp (fun h3 => ?_) (fun h3 => ?_)
  · refine sskip rfl rfl ?_
    refine sskip rfl rfl ?_
    refine sq (q_pick rfl rfl) rfl rfl ?_
    refine sq (q_mv rfl) rfl rfl ?_
    refine sskip rfl rfl ?_
    refine sskip rfl rfl ?_
    refine sskip rfl rfl ?_
    refine sskip rfl rfl ?_
    refine sq (q_pick rfl rfl) rfl rfl ?_
    refine go_nil ?_
    refine tn ?_
    refine gc_true rfl ?_
    refine gc_seq ?_
    first | (exfalso; simp_all; done) | (exfalso; simp_all; omega)
  · refine sq (q_mv rfl) rfl rfl ?_
    refine sq (q_lss rfl rfl) rfl rfl ?_
    refine sq (q_pick rfl rfl) rfl rfl ?_
    refine sq (q_mv rfl) rfl rfl ?_
    refine bsp (fun h4 => ?_) (fun h4 => ?_)
    · refine sskip rfl rfl ?_
      refine sskip rfl rfl ?_
      refine sskip rfl rfl ?_
      refine sskip rfl rfl ?_
      refine sq (q_pick rfl rfl) rfl rfl ?_
      refine go_nil ?_
      refine tn ?_
      refine gc_true rfl ?_
      refine gc_seq ?_
      first | (exfalso; simp_all; done) | (exfalso; simp_all; omega)
    · refine sq (q_mv rfl) rfl rfl ?_
      refine sq (q_fa rfl Tryz.runUnderlying29 rfl Tryz.sizeOf3) rfl rfl ?_
      refine sq (q_ld rfl Tryz.isAgg3 rfl) rfl rfl ?_
      refine sq (q_geq rfl rfl) rfl rfl ?_
      refine sq (q_pick rfl rfl) rfl rfl ?_
      refine go_nil ?_
      refine tn ?_
      refine gc_if rfl (fun h5 => ?_) (fun h5 => ?_)
      · refine gc_seq ?_
        first | (exfalso; simp_all; done) | (exfalso; simp_all; omega)
      · refine gc_skip ?_
        refine tn ?_
        refine gc_seq ?_
        refine gc_region ?_
        refine sq (q_mv rfl) rfl rfl ?_
        refine s_call (e_call (open_spec ε b q n m hn hok) rfl en67) rfl rfl ?_
        rintro _ _ hR6
        obtain ⟨s6, rfl, rfl⟩ := open_elim hO hR6
        refine app1 ?_
        refine sq (q_mv rfl) rfl rfl ?_
        refine sq (q_ext rfl rfl) rfl rfl ?_
        refine sq (q_ext rfl rfl) rfl rfl ?_
        refine sq (q_as rfl) rfl rfl ?_
        refine sq (q_as rfl) rfl rfl ?_
        refine go_nil ?_
        refine tn ?_
        refine gc_seq ?_
        refine gc_seq ?_
        refine gc_region ?_
        refine sq (q_mv rfl) rfl rfl ?_
        refine sq (q_inil_neq (q := none) rfl rfl Tryz.underlying47) rfl rfl ?_
        refine go_nil ?_
        refine tn ?_
        refine gc_if rfl (fun h7 => ?_) (fun h7 => ?_)
        · refine gc_seq ?_
          exfalso; simp_all
        · refine gc_skip ?_
          refine tn ?_
          refine gc_seq ?_
          refine gc_region ?_
          refine sq (q_mv rfl) rfl rfl ?_
          refine s_callE (e_call (srecord_spec _ b (openM m n).1) rfl en52) rfl rfl ?_
          refine s_new (e_alloc Tryz.zeroValue134 rfl) rfl rfl fun b8 => ?_
          refine s_st (e_st rfl rfl Tryz.sizeOf134 rfl rfl rfl rfl) rfl rfl ?_
          refine go_nil ?_
          refine tn ?_
          refine gc_seq ?_
          refine gc_region ?_
          refine sq (q_fa rfl Tryz.runUnderlying134 rfl Tryz.sizeOf2) rfl rfl ?_
          refine sq (q_ld rfl Tryz.isAgg2 rfl) rfl rfl ?_
          refine sq (q_addw rfl rfl) rfl rfl ?_
          refine sq (q_fa rfl Tryz.runUnderlying134 rfl Tryz.sizeOf2) rfl rfl ?_
          refine s_st (e_st rfl rfl Tryz.sizeOf2 rfl rfl rfl rfl) rfl rfl ?_
          refine go_nil ?_
          refine tn ?_
          refine gc_seq ?_
          refine gc_seq ?_
          refine gc_region ?_
          refine sq (q_mv rfl) rfl rfl ?_
          refine sq (q_lda rfl Tryz.isAgg134 Tryz.sizeOf134 rfl) rfl rfl ?_
          refine s_call (e_call (save_spec ε _ b q n m hn (openM m n).1 ⟨(openM m n).1.count, w64 ((openM m n).1.life + 1)⟩) rfl en53) rfl rfl ?_
          rintro _ _ ⟨rfl, rfl⟩
          refine app3 ?_
          refine sq (q_as rfl) rfl rfl ?_
          refine go_nil ?_
          refine tn ?_
          refine gc_seq ?_
          refine gc_region ?_
          refine sq (q_mv rfl) rfl rfl ?_
          refine sq (q_inil_neq (q := (saveM m (openM m n).1 ⟨(openM m n).1.count, w64 ((openM m n).1.life + 1)⟩).2.2.map ε) rfl rfl Tryz.underlying47) rfl rfl ?_
          refine go_nil ?_
          refine tn ?_
          refine gc_if rfl (fun h10 => ?_) (fun h10 => ?_)
          · refine gc_seq ?_
            exfalso; simp_all [newSave]
          · refine gc_skip ?_
            refine tn ?_
            refine gc_seq ?_
            refine gc_drawY mixed (List.Sublist.refl _) ?_
            refine gy_q (i := 0) (q_lda rfl Tryz.isAgg29 Tryz.sizeOf29 rfl) rfl rfl rfl (by kernel_rfl) (by kernel_rfl) ?_
            refine gy_q (i := 1) (q_mv rfl) rfl rfl rfl (by kernel_rfl) (by kernel_rfl) ?_
            refine gy_q (i := 2) (q_mv rfl) rfl rfl rfl (by kernel_rfl) (by kernel_rfl) ?_
            refine gy_q (i := 3) (q_fa rfl Tryz.runUnderlying134 rfl Tryz.sizeOf2) rfl rfl rfl (by kernel_rfl) (by kernel_rfl) ?_
            refine gy_q (i := 4) (q_ld rfl Tryz.isAgg2 rfl) rfl rfl rfl (by kernel_rfl) (by kernel_rfl) ?_
            refine gy_q (i := 5) (q_lda rfl Tryz.isAgg64 Tryz.sizeOf64 rfl) rfl rfl rfl (by kernel_rfl) (by kernel_rfl) ?_
            refine gy_q (i := 6) (q_fa rfl Tryz.runUnderlying134 rfl Tryz.sizeOf2) rfl rfl rfl (by kernel_rfl) (by kernel_rfl) ?_
            refine gy_q (i := 7) (q_ld rfl Tryz.isAgg2 rfl) rfl rfl rfl (by kernel_rfl) (by kernel_rfl) ?_
            refine gy_q (i := 9) (q_bld rfl Tryz.runUnderlying158 Tryz.zeroValue158 rfl pl158 rfl) rfl rfl rfl (by kernel_rfl) (by kernel_rfl) ?_
            refine gy_q (i := 11) (q_bld rfl Tryz.runUnderlying163 Tryz.zeroValue163 rfl pl163 rfl) rfl rfl rfl (by kernel_rfl) (by kernel_rfl) ?_
            refine gy_3 (i := 8) (j := 10) (k := 12) (by kernel_rfl) ?_ ?_ ?_
            · refine ga_call (e_call (gnew_spec _) rfl en68) rfl rfl rfl (by repeat (first | exact List.nil_sublist _ | exact List.Sublist.refl _ | exact List.sublist_append_right _ _ | apply List.Sublist.cons_cons | apply List.Sublist.cons | refine List.Sublist.trans ?_ (List.sublist_append_right _ _))) ?_
              rintro _ _ ⟨g11, rfl, rfl⟩
              refine yapp1 ?_
              refine gy_2 (i := 10) (j := 12) (by kernel_rfl) ?_ ?_
              · refine ga_new (e_box rfl rfl) rfl rfl rfl (by repeat (first | exact List.nil_sublist _ | exact List.Sublist.refl _ | exact List.sublist_append_right _ _ | apply List.Sublist.cons_cons | apply List.Sublist.cons | refine List.Sublist.trans ?_ (List.sublist_append_right _ _))) fun b12 => ?_
                refine gy_1 (i := 12) (by kernel_rfl) (ga_new (e_box rfl rfl) rfl rfl rfl (by repeat (first | exact List.nil_sublist _ | exact List.Sublist.refl _ | exact List.sublist_append_right _ _ | apply List.Sublist.cons_cons | apply List.Sublist.cons | refine List.Sublist.trans ?_ (List.sublist_append_right _ _))) fun b13 => ?_)
                refine gy_1 (i := 13) (by kernel_rfl) (ga_qe (q_bld rfl Tryz.runUnderlying129 Tryz.zeroValue129 rfl pl129 rfl) rfl rfl rfl (by repeat (first | exact List.nil_sublist _ | exact List.Sublist.refl _ | exact List.sublist_append_right _ _ | apply List.Sublist.cons_cons | apply List.Sublist.cons | refine List.Sublist.trans ?_ (List.sublist_append_right _ _))) ?_)
                refine gy_1 (i := 14) (by kernel_rfl) (ga_new (e_box rfl rfl) rfl rfl rfl (by repeat (first | exact List.nil_sublist _ | exact List.Sublist.refl _ | exact List.sublist_append_right _ _ | apply List.Sublist.cons_cons | apply List.Sublist.cons | refine List.Sublist.trans ?_ (List.sublist_append_right _ _))) fun b14 => ?_)
                refine gy_1 (i := 15) (by kernel_rfl) (ga_qe (q_as rfl) rfl rfl rfl (by repeat (first | exact List.nil_sublist _ | exact List.Sublist.refl _ | exact List.sublist_append_right _ _ | apply List.Sublist.cons_cons | apply List.Sublist.cons | refine List.Sublist.trans ?_ (List.sublist_append_right _ _))) ?_)
                refine gy_nil (by kernel_rfl) ?_
                refine tn ?_
                refine gc_seq ?_
                refine gc_region ?_
                refine sq (q_mv rfl) rfl rfl ?_
                refine sq (q_mv rfl) rfl rfl ?_
                refine sq (q_bld rfl Tryz.runUnderlying76 Tryz.zeroValue76 rfl pl76 rfl) rfl rfl ?_
                refine s_bsl (e_bsl (zl := [.int .i64 0, .int .i64 0, .int .i64 0, .int .i64 0, .int .i64 0, .int .i64 0, .int .i64 0, .int .i64 0, .int .i64 0]) rfl Tryz.runUnderlying31 Tryz.sizeOf76 (by decide) (by decide) Tryz.zeroValue76 (by kernel_rfl) rfl) rfl rfl fun b15 => ?_
                refine sq (q_as rfl) rfl rfl ?_
                refine sq (q_as rfl) rfl rfl ?_
                refine sq (q_as rfl) rfl rfl ?_
                refine go_nil ?_
                refine tn ?_
                refine gc_ret ?_
                refine ret_3 (.inl rfl) rfl rfl rfl rfl ?_
                exact rsX [b14, s6, b, q, g11, b12, b13, b15] ⟨_, ⟨s6, g11, b12, b13⟩, _, rfl, rfl⟩
              · refine ga_new (e_box rfl rfl) rfl rfl rfl (by repeat (first | exact List.nil_sublist _ | exact List.Sublist.refl _ | exact List.sublist_append_right _ _ | apply List.Sublist.cons_cons | apply List.Sublist.cons | refine List.Sublist.trans ?_ (List.sublist_append_right _ _))) fun b16 => ?_
                refine gy_1 (i := 10) (by kernel_rfl) (ga_new (e_box rfl rfl) rfl rfl rfl (by repeat (first | exact List.nil_sublist _ | exact List.Sublist.refl _ | exact List.sublist_append_right _ _ | apply List.Sublist.cons_cons | apply List.Sublist.cons | refine List.Sublist.trans ?_ (List.sublist_append_right _ _))) fun b17 => ?_)
                refine gy_1 (i := 13) (by kernel_rfl) (ga_qe (q_bld rfl Tryz.runUnderlying129 Tryz.zeroValue129 rfl pl129 rfl) rfl rfl rfl (by repeat (first | exact List.nil_sublist _ | exact List.Sublist.refl _ | exact List.sublist_append_right _ _ | apply List.Sublist.cons_cons | apply List.Sublist.cons | refine List.Sublist.trans ?_ (List.sublist_append_right _ _))) ?_)
                refine gy_1 (i := 14) (by kernel_rfl) (ga_new (e_box rfl rfl) rfl rfl rfl (by repeat (first | exact List.nil_sublist _ | exact List.Sublist.refl _ | exact List.sublist_append_right _ _ | apply List.Sublist.cons_cons | apply List.Sublist.cons | refine List.Sublist.trans ?_ (List.sublist_append_right _ _))) fun b18 => ?_)
                refine gy_1 (i := 15) (by kernel_rfl) (ga_qe (q_as rfl) rfl rfl rfl (by repeat (first | exact List.nil_sublist _ | exact List.Sublist.refl _ | exact List.sublist_append_right _ _ | apply List.Sublist.cons_cons | apply List.Sublist.cons | refine List.Sublist.trans ?_ (List.sublist_append_right _ _))) ?_)
                refine gy_nil (by kernel_rfl) ?_
                refine tn ?_
                refine gc_seq ?_
                refine gc_region ?_
                refine sq (q_mv rfl) rfl rfl ?_
                refine sq (q_mv rfl) rfl rfl ?_
                refine sq (q_bld rfl Tryz.runUnderlying76 Tryz.zeroValue76 rfl pl76 rfl) rfl rfl ?_
                refine s_bsl (e_bsl (zl := [.int .i64 0, .int .i64 0, .int .i64 0, .int .i64 0, .int .i64 0, .int .i64 0, .int .i64 0, .int .i64 0, .int .i64 0]) rfl Tryz.runUnderlying31 Tryz.sizeOf76 (by decide) (by decide) Tryz.zeroValue76 (by kernel_rfl) rfl) rfl rfl fun b19 => ?_
                refine sq (q_as rfl) rfl rfl ?_
                refine sq (q_as rfl) rfl rfl ?_
                refine sq (q_as rfl) rfl rfl ?_
                refine go_nil ?_
                refine tn ?_
                refine gc_ret ?_
                refine ret_3 (.inl rfl) rfl rfl rfl rfl ?_
                exact rsX [b18, s6, b, q, g11, b17, b16, b19] ⟨_, ⟨s6, g11, b17, b16⟩, _, rfl, rfl⟩
            · refine ga_new (e_box rfl rfl) rfl rfl rfl (by repeat (first | exact List.nil_sublist _ | exact List.Sublist.refl _ | exact List.sublist_append_right _ _ | apply List.Sublist.cons_cons | apply List.Sublist.cons | refine List.Sublist.trans ?_ (List.sublist_append_right _ _))) fun b20 => ?_
              refine gy_2 (i := 8) (j := 12) (by kernel_rfl) ?_ ?_
              · refine ga_call (e_call (gnew_spec _) rfl en68) rfl rfl rfl (by repeat (first | exact List.nil_sublist _ | exact List.Sublist.refl _ | exact List.sublist_append_right _ _ | apply List.Sublist.cons_cons | apply List.Sublist.cons | refine List.Sublist.trans ?_ (List.sublist_append_right _ _))) ?_
                rintro _ _ ⟨g21, rfl, rfl⟩
                refine yapp1 ?_
                refine gy_1 (i := 12) (by kernel_rfl) (ga_new (e_box rfl rfl) rfl rfl rfl (by repeat (first | exact List.nil_sublist _ | exact List.Sublist.refl _ | exact List.sublist_append_right _ _ | apply List.Sublist.cons_cons | apply List.Sublist.cons | refine List.Sublist.trans ?_ (List.sublist_append_right _ _))) fun b22 => ?_)
                refine gy_1 (i := 13) (by kernel_rfl) (ga_qe (q_bld rfl Tryz.runUnderlying129 Tryz.zeroValue129 rfl pl129 rfl) rfl rfl rfl (by repeat (first | exact List.nil_sublist _ | exact List.Sublist.refl _ | exact List.sublist_append_right _ _ | apply List.Sublist.cons_cons | apply List.Sublist.cons | refine List.Sublist.trans ?_ (List.sublist_append_right _ _))) ?_)
                refine gy_1 (i := 14) (by kernel_rfl) (ga_new (e_box rfl rfl) rfl rfl rfl (by repeat (first | exact List.nil_sublist _ | exact List.Sublist.refl _ | exact List.sublist_append_right _ _ | apply List.Sublist.cons_cons | apply List.Sublist.cons | refine List.Sublist.trans ?_ (List.sublist_append_right _ _))) fun b23 => ?_)
                refine gy_1 (i := 15) (by kernel_rfl) (ga_qe (q_as rfl) rfl rfl rfl (by repeat (first | exact List.nil_sublist _ | exact List.Sublist.refl _ | exact List.sublist_append_right _ _ | apply List.Sublist.cons_cons | apply List.Sublist.cons | refine List.Sublist.trans ?_ (List.sublist_append_right _ _))) ?_)
                refine gy_nil (by kernel_rfl) ?_
                refine tn ?_
                refine gc_seq ?_
                refine gc_region ?_
                refine sq (q_mv rfl) rfl rfl ?_
                refine sq (q_mv rfl) rfl rfl ?_
                refine sq (q_bld rfl Tryz.runUnderlying76 Tryz.zeroValue76 rfl pl76 rfl) rfl rfl ?_
                refine s_bsl (e_bsl (zl := [.int .i64 0, .int .i64 0, .int .i64 0, .int .i64 0, .int .i64 0, .int .i64 0, .int .i64 0, .int .i64 0, .int .i64 0]) rfl Tryz.runUnderlying31 Tryz.sizeOf76 (by decide) (by decide) Tryz.zeroValue76 (by kernel_rfl) rfl) rfl rfl fun b24 => ?_
                refine sq (q_as rfl) rfl rfl ?_
                refine sq (q_as rfl) rfl rfl ?_
                refine sq (q_as rfl) rfl rfl ?_
                refine go_nil ?_
                refine tn ?_
                refine gc_ret ?_
                refine ret_3 (.inl rfl) rfl rfl rfl rfl ?_
                exact rsX [b23, s6, b, q, g21, b20, b22, b24] ⟨_, ⟨s6, g21, b20, b22⟩, _, rfl, rfl⟩
              · refine ga_new (e_box rfl rfl) rfl rfl rfl (by repeat (first | exact List.nil_sublist _ | exact List.Sublist.refl _ | exact List.sublist_append_right _ _ | apply List.Sublist.cons_cons | apply List.Sublist.cons | refine List.Sublist.trans ?_ (List.sublist_append_right _ _))) fun b25 => ?_
                refine gy_1 (i := 8) (by kernel_rfl) (ga_call (e_call (gnew_spec _) rfl en68) rfl rfl rfl (by repeat (first | exact List.nil_sublist _ | exact List.Sublist.refl _ | exact List.sublist_append_right _ _ | apply List.Sublist.cons_cons | apply List.Sublist.cons | refine List.Sublist.trans ?_ (List.sublist_append_right _ _))) ?_)
                rintro _ _ ⟨g26, rfl, rfl⟩
                refine yapp1 ?_
                refine gy_1 (i := 13) (by kernel_rfl) (ga_qe (q_bld rfl Tryz.runUnderlying129 Tryz.zeroValue129 rfl pl129 rfl) rfl rfl rfl (by repeat (first | exact List.nil_sublist _ | exact List.Sublist.refl _ | exact List.sublist_append_right _ _ | apply List.Sublist.cons_cons | apply List.Sublist.cons | refine List.Sublist.trans ?_ (List.sublist_append_right _ _))) ?_)
                refine gy_1 (i := 14) (by kernel_rfl) (ga_new (e_box rfl rfl) rfl rfl rfl (by repeat (first | exact List.nil_sublist _ | exact List.Sublist.refl _ | exact List.sublist_append_right _ _ | apply List.Sublist.cons_cons | apply List.Sublist.cons | refine List.Sublist.trans ?_ (List.sublist_append_right _ _))) fun b27 => ?_)
                refine gy_1 (i := 15) (by kernel_rfl) (ga_qe (q_as rfl) rfl rfl rfl (by repeat (first | exact List.nil_sublist _ | exact List.Sublist.refl _ | exact List.sublist_append_right _ _ | apply List.Sublist.cons_cons | apply List.Sublist.cons | refine List.Sublist.trans ?_ (List.sublist_append_right _ _))) ?_)
                refine gy_nil (by kernel_rfl) ?_
                refine tn ?_
                refine gc_seq ?_
                refine gc_region ?_
                refine sq (q_mv rfl) rfl rfl ?_
                refine sq (q_mv rfl) rfl rfl ?_
                refine sq (q_bld rfl Tryz.runUnderlying76 Tryz.zeroValue76 rfl pl76 rfl) rfl rfl ?_
                refine s_bsl (e_bsl (zl := [.int .i64 0, .int .i64 0, .int .i64 0, .int .i64 0, .int .i64 0, .int .i64 0, .int .i64 0, .int .i64 0, .int .i64 0]) rfl Tryz.runUnderlying31 Tryz.sizeOf76 (by decide) (by decide) Tryz.zeroValue76 (by kernel_rfl) rfl) rfl rfl fun b28 => ?_
                refine sq (q_as rfl) rfl rfl ?_
                refine sq (q_as rfl) rfl rfl ?_
                refine sq (q_as rfl) rfl rfl ?_
                refine go_nil ?_
                refine tn ?_
                refine gc_ret ?_
                refine ret_3 (.inl rfl) rfl rfl rfl rfl ?_
                exact rsX [b27, s6, b, q, g26, b20, b25, b28] ⟨_, ⟨s6, g26, b20, b25⟩, _, rfl, rfl⟩
            · refine ga_new (e_box rfl rfl) rfl rfl rfl (by repeat (first | exact List.nil_sublist _ | exact List.Sublist.refl _ | exact List.sublist_append_right _ _ | apply List.Sublist.cons_cons | apply List.Sublist.cons | refine List.Sublist.trans ?_ (List.sublist_append_right _ _))) fun b29 => ?_
              refine gy_2 (i := 8) (j := 10) (by kernel_rfl) ?_ ?_
              · refine ga_call (e_call (gnew_spec _) rfl en68) rfl rfl rfl (by repeat (first | exact List.nil_sublist _ | exact List.Sublist.refl _ | exact List.sublist_append_right _ _ | apply List.Sublist.cons_cons | apply List.Sublist.cons | refine List.Sublist.trans ?_ (List.sublist_append_right _ _))) ?_
                rintro _ _ ⟨g30, rfl, rfl⟩
                refine yapp1 ?_
                refine gy_1 (i := 10) (by kernel_rfl) (ga_new (e_box rfl rfl) rfl rfl rfl (by repeat (first | exact List.nil_sublist _ | exact List.Sublist.refl _ | exact List.sublist_append_right _ _ | apply List.Sublist.cons_cons | apply List.Sublist.cons | refine List.Sublist.trans ?_ (List.sublist_append_right _ _))) fun b31 => ?_)
                refine gy_1 (i := 13) (by kernel_rfl) (ga_qe (q_bld rfl Tryz.runUnderlying129 Tryz.zeroValue129 rfl pl129 rfl) rfl rfl rfl (by repeat (first | exact List.nil_sublist _ | exact List.Sublist.refl _ | exact List.sublist_append_right _ _ | apply List.Sublist.cons_cons | apply List.Sublist.cons | refine List.Sublist.trans ?_ (List.sublist_append_right _ _))) ?_)
                refine gy_1 (i := 14) (by kernel_rfl) (ga_new (e_box rfl rfl) rfl rfl rfl (by repeat (first | exact List.nil_sublist _ | exact List.Sublist.refl _ | exact List.sublist_append_right _ _ | apply List.Sublist.cons_cons | apply List.Sublist.cons | refine List.Sublist.trans ?_ (List.sublist_append_right _ _))) fun b32 => ?_)
                refine gy_1 (i := 15) (by kernel_rfl) (ga_qe (q_as rfl) rfl rfl rfl (by repeat (first | exact List.nil_sublist _ | exact List.Sublist.refl _ | exact List.sublist_append_right _ _ | apply List.Sublist.cons_cons | apply List.Sublist.cons | refine List.Sublist.trans ?_ (List.sublist_append_right _ _))) ?_)
                refine gy_nil (by kernel_rfl) ?_
                refine tn ?_
                refine gc_seq ?_
                refine gc_region ?_
                refine sq (q_mv rfl) rfl rfl ?_
                refine sq (q_mv rfl) rfl rfl ?_
                refine sq (q_bld rfl Tryz.runUnderlying76 Tryz.zeroValue76 rfl pl76 rfl) rfl rfl ?_
                refine s_bsl (e_bsl (zl := [.int .i64 0, .int .i64 0, .int .i64 0, .int .i64 0, .int .i64 0, .int .i64 0, .int .i64 0, .int .i64 0, .int .i64 0]) rfl Tryz.runUnderlying31 Tryz.sizeOf76 (by decide) (by decide) Tryz.zeroValue76 (by kernel_rfl) rfl) rfl rfl fun b33 => ?_
                refine sq (q_as rfl) rfl rfl ?_
                refine sq (q_as rfl) rfl rfl ?_
                refine sq (q_as rfl) rfl rfl ?_
                refine go_nil ?_
                refine tn ?_
                refine gc_ret ?_
                refine ret_3 (.inl rfl) rfl rfl rfl rfl ?_
                exact rsX [b32, s6, b, q, g30, b31, b29, b33] ⟨_, ⟨s6, g30, b31, b29⟩, _, rfl, rfl⟩
              · refine ga_new (e_box rfl rfl) rfl rfl rfl (by repeat (first | exact List.nil_sublist _ | exact List.Sublist.refl _ | exact List.sublist_append_right _ _ | apply List.Sublist.cons_cons | apply List.Sublist.cons | refine List.Sublist.trans ?_ (List.sublist_append_right _ _))) fun b34 => ?_
                refine gy_1 (i := 8) (by kernel_rfl) (ga_call (e_call (gnew_spec _) rfl en68) rfl rfl rfl (by repeat (first | exact List.nil_sublist _ | exact List.Sublist.refl _ | exact List.sublist_append_right _ _ | apply List.Sublist.cons_cons | apply List.Sublist.cons | refine List.Sublist.trans ?_ (List.sublist_append_right _ _))) ?_)
                rintro _ _ ⟨g35, rfl, rfl⟩
                refine yapp1 ?_
                refine gy_1 (i := 13) (by kernel_rfl) (ga_qe (q_bld rfl Tryz.runUnderlying129 Tryz.zeroValue129 rfl pl129 rfl) rfl rfl rfl (by repeat (first | exact List.nil_sublist _ | exact List.Sublist.refl _ | exact List.sublist_append_right _ _ | apply List.Sublist.cons_cons | apply List.Sublist.cons | refine List.Sublist.trans ?_ (List.sublist_append_right _ _))) ?_)
                refine gy_1 (i := 14) (by kernel_rfl) (ga_new (e_box rfl rfl) rfl rfl rfl (by repeat (first | exact List.nil_sublist _ | exact List.Sublist.refl _ | exact List.sublist_append_right _ _ | apply List.Sublist.cons_cons | apply List.Sublist.cons | refine List.Sublist.trans ?_ (List.sublist_append_right _ _))) fun b36 => ?_)
                refine gy_1 (i := 15) (by kernel_rfl) (ga_qe (q_as rfl) rfl rfl rfl (by repeat (first | exact List.nil_sublist _ | exact List.Sublist.refl _ | exact List.sublist_append_right _ _ | apply List.Sublist.cons_cons | apply List.Sublist.cons | refine List.Sublist.trans ?_ (List.sublist_append_right _ _))) ?_)
                refine gy_nil (by kernel_rfl) ?_
                refine tn ?_
                refine gc_seq ?_
                refine gc_region ?_
                refine sq (q_mv rfl) rfl rfl ?_
                refine sq (q_mv rfl) rfl rfl ?_
                refine sq (q_bld rfl Tryz.runUnderlying76 Tryz.zeroValue76 rfl pl76 rfl) rfl rfl ?_
                refine s_bsl (e_bsl (zl := [.int .i64 0, .int .i64 0, .int .i64 0, .int .i64 0, .int .i64 0, .int .i64 0, .int .i64 0, .int .i64 0, .int .i64 0]) rfl Tryz.runUnderlying31 Tryz.sizeOf76 (by decide) (by decide) Tryz.zeroValue76 (by kernel_rfl) rfl) rfl rfl fun b37 => ?_
                refine sq (q_as rfl) rfl rfl ?_
                refine sq (q_as rfl) rfl rfl ?_
                refine sq (q_as rfl) rfl rfl ?_
                refine go_nil ?_
                refine tn ?_
                refine gc_ret ?_
                refine ret_3 (.inl rfl) rfl rfl rfl rfl ?_
                exact rsX [b36, s6, b, q, g35, b34, b29, b37] ⟨_, ⟨s6, g35, b34, b29⟩, _, rfl, rfl⟩
end Go.LL
