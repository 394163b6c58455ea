/- Part of a claim: contracts of the program's functions, walked op by op. -/
import Derived.Test.YthabegpfnfbmaaaGreatDoorA19
set_option linter.unusedSimpArgs false
set_option linter.unusedVariables false
namespace Go.LL
open Go.Proofs

set_option maxRecDepth 4000 in
set_option maxHeartbeats 2000000 in
theorem shouldNo_spec (sa : Sli) (la : List Int) (ha : SlI sa la) (hl : la.length ≤ 100) (car cars since fnd : Int) (out any : Bool) (ra : Option Addr) (rn rc : Nat) (hc : 0 ≤ cars ∧ cars ≤ 16) (hf : fnd ≤ 4 * cars + 8) (h0 : 0 < (setL (la ++ [car])).length) (h1 : (setL (la ++ [car])).length ≤ 1000) :
    Spec Tryz.prog 147 [.agg #[i6 car, i6 cars, .bool out, .bool any, sa.v, .slice ra rn rc, i6 since, i6 fnd]] [] (sa.L 3) (fun v L => v = .bool false ∧ L = []) := by
  refine spec_of Tryz.func147 rfl Tryz.ntmps147 (by simp) fun w0 hb => ?_
  refine gc_seq ?_
  refine gc_region ?_
  refine s_new (e_box rfl rfl) rfl rfl fun b1 => ?_
  refine sq (q_as rfl) rfl rfl ?_
  refine go_nil ?_
  refine tn ?_
  refine gc_seq ?_
  refine gc_region ?_
  refine sq (q_lda rfl Tryz.isAgg242 Tryz.sizeOf242 rfl) rfl rfl ?_
  refine s_call (e_call (members_spec sa la ha hl car cars since fnd out any ra rn rc) rfl en150) rfl rfl ?_
  rintro _ _ ⟨s2, hs2, rfl, rfl⟩
  have ok2 := hs2.ok
  refine sq (q_as rfl) rfl rfl ?_
  refine go_nil ?_
  refine tn ?_
  refine gc_seq ?_
  refine gc_seq ?_
  refine gc_region ?_
  refine sq (q_mv rfl) rfl rfl ?_
  refine s_callE (e_call (least_spec _ _ (by assumption) h1 h0) rfl en233) rfl rfl ?_
  refine sq (q_mv rfl) rfl rfl ?_
  refine sq (q_ext rfl rfl) rfl rfl ?_
  refine sq (q_ext rfl rfl) rfl rfl ?_
  refine sq (q_as rfl) rfl rfl ?_
  refine sq (q_as rfl) rfl rfl ?_
  refine go_nil ?_
  refine tn ?_
  refine gc_seq ?_
  refine gc_draw (ord := [(0, false), (1, false), (2, false), (3, true), (4, false), (5, false), (6, false), (7, false), (8, false), (9, true), (10, true), (11, false), (12, false), (13, false), (14, false), (15, false)]) [] mixed (by kernel_rfl) rfl (by kernel_rfl) (List.Sublist.trans (.cons_cons _ (.slnil)) (List.sublist_append_right _ _)) ?_
  refine x_qe (q_fa rfl Tryz.runUnderlying242 rfl Tryz.sizeOf4) rfl rfl rfl (by repeat (first | exact List.nil_sublist _ | exact List.Sublist.refl _ | exact List.sublist_append_right _ _ | apply List.Sublist.cons_cons | apply List.Sublist.cons | refine List.Sublist.trans ?_ (List.sublist_append_right _ _))) ?_
  refine x_qe (q_ld rfl Tryz.isAgg4 rfl) rfl rfl rfl (by repeat (first | exact List.nil_sublist _ | exact List.Sublist.refl _ | exact List.sublist_append_right _ _ | apply List.Sublist.cons_cons | apply List.Sublist.cons | refine List.Sublist.trans ?_ (List.sublist_append_right _ _))) ?_
  refine x_qe (q_mv rfl) rfl rfl rfl (by repeat (first | exact List.nil_sublist _ | exact List.Sublist.refl _ | exact List.sublist_append_right _ _ | apply List.Sublist.cons_cons | apply List.Sublist.cons | refine List.Sublist.trans ?_ (List.sublist_append_right _ _))) ?_
  refine xsp (fun h3 => ?_) (fun h3 => ?_)
  · refine gx_skip rfl rfl rfl ?_
    refine gx_eskip rfl rfl rfl ?_
    refine gx_eskip rfl rfl rfl ?_
    refine gx_eskip rfl rfl rfl ?_
    refine x_qe (q_pick rfl rfl) rfl rfl rfl (by repeat (first | exact List.nil_sublist _ | exact List.Sublist.refl _ | exact List.sublist_append_right _ _ | apply List.Sublist.cons_cons | apply List.Sublist.cons | refine List.Sublist.trans ?_ (List.sublist_append_right _ _))) ?_
    refine x_qe (q_mv rfl) rfl rfl rfl (by repeat (first | exact List.nil_sublist _ | exact List.Sublist.refl _ | exact List.sublist_append_right _ _ | apply List.Sublist.cons_cons | apply List.Sublist.cons | refine List.Sublist.trans ?_ (List.sublist_append_right _ _))) ?_
    refine gx_skip rfl rfl rfl ?_
    refine gx_skip rfl rfl rfl ?_
    refine gx_eskip rfl rfl rfl ?_
    refine gx_eskip rfl rfl rfl ?_
    refine gx_eskip rfl rfl rfl ?_
    refine gx_eskip rfl rfl rfl ?_
    refine x_qe (q_pick rfl rfl) rfl rfl rfl (by repeat (first | exact List.nil_sublist _ | exact List.Sublist.refl _ | exact List.sublist_append_right _ _ | apply List.Sublist.cons_cons | apply List.Sublist.cons | refine List.Sublist.trans ?_ (List.sublist_append_right _ _))) ?_
    refine gx_nil ?_
    refine tn ?_
    refine gc_true rfl ?_
    refine gc_seq ?_
    refine gc_region ?_
    refine sq (q_as rfl) rfl rfl ?_
    refine go_nil ?_
    refine tn ?_
    refine gc_ret ?_
    refine tr ?_
    refine ret_1 (.inl rfl) rfl rfl ?_
    exact rsE rfl
  · refine gx_q (q_mv rfl) rfl rfl rfl ?_
    refine x_qe (q_fa rfl Tryz.runUnderlying242 rfl Tryz.sizeOf3) rfl rfl rfl (by repeat (first | exact List.nil_sublist _ | exact List.Sublist.refl _ | exact List.sublist_append_right _ _ | apply List.Sublist.cons_cons | apply List.Sublist.cons | refine List.Sublist.trans ?_ (List.sublist_append_right _ _))) ?_
    refine x_qe (q_ld rfl Tryz.isAgg3 rfl) rfl rfl rfl (by repeat (first | exact List.nil_sublist _ | exact List.Sublist.refl _ | exact List.sublist_append_right _ _ | apply List.Sublist.cons_cons | apply List.Sublist.cons | refine List.Sublist.trans ?_ (List.sublist_append_right _ _))) ?_
    refine x_qe (q_neq rfl rfl) rfl rfl rfl (by repeat (first | exact List.nil_sublist _ | exact List.Sublist.refl _ | exact List.sublist_append_right _ _ | apply List.Sublist.cons_cons | apply List.Sublist.cons | refine List.Sublist.trans ?_ (List.sublist_append_right _ _))) ?_
    refine x_qe (q_pick rfl rfl) rfl rfl rfl (by repeat (first | exact List.nil_sublist _ | exact List.Sublist.refl _ | exact List.sublist_append_right _ _ | apply List.Sublist.cons_cons | apply List.Sublist.cons | refine List.Sublist.trans ?_ (List.sublist_append_right _ _))) ?_
    refine x_qe (q_mv rfl) rfl rfl rfl (by repeat (first | exact List.nil_sublist _ | exact List.Sublist.refl _ | exact List.sublist_append_right _ _ | apply List.Sublist.cons_cons | apply List.Sublist.cons | refine List.Sublist.trans ?_ (List.sublist_append_right _ _))) ?_
    refine xsp (fun h4 => ?_) (fun h4 => ?_)
    · refine gx_skip rfl rfl rfl ?_
      refine gx_skip rfl rfl rfl ?_
      refine gx_eskip rfl rfl rfl ?_
      refine gx_eskip rfl rfl rfl ?_
      refine gx_eskip rfl rfl rfl ?_
      refine gx_eskip rfl rfl rfl ?_
      refine x_qe (q_pick rfl rfl) rfl rfl rfl (by repeat (first | exact List.nil_sublist _ | exact List.Sublist.refl _ | exact List.sublist_append_right _ _ | apply List.Sublist.cons_cons | apply List.Sublist.cons | refine List.Sublist.trans ?_ (List.sublist_append_right _ _))) ?_
      refine gx_nil ?_
      refine tn ?_
      refine gc_true rfl ?_
      refine gc_seq ?_
      refine gc_region ?_
      refine sq (q_as rfl) rfl rfl ?_
      refine go_nil ?_
      refine tn ?_
      refine gc_ret ?_
      refine tr ?_
      refine ret_1 (.inl rfl) rfl rfl ?_
      exact rsE rfl
    · refine gx_q (q_fa rfl Tryz.runUnderlying242 rfl Tryz.sizeOf3) rfl rfl rfl ?_
      refine gx_q (q_ld rfl Tryz.isAgg3 rfl) rfl rfl rfl ?_
      refine x_qe (q_fa rfl Tryz.runUnderlying242 rfl Tryz.sizeOf3) rfl rfl rfl (by repeat (first | exact List.nil_sublist _ | exact List.Sublist.refl _ | exact List.sublist_append_right _ _ | apply List.Sublist.cons_cons | apply List.Sublist.cons | refine List.Sublist.trans ?_ (List.sublist_append_right _ _))) ?_
      refine x_qe (q_ld rfl Tryz.isAgg3 rfl) rfl rfl rfl (by repeat (first | exact List.nil_sublist _ | exact List.Sublist.refl _ | exact List.sublist_append_right _ _ | apply List.Sublist.cons_cons | apply List.Sublist.cons | refine List.Sublist.trans ?_ (List.sublist_append_right _ _))) ?_
      refine x_callE (e_call (patience_spec cars (by omega)) rfl en234) rfl rfl rfl (by repeat (first | exact List.nil_sublist _ | exact List.Sublist.refl _ | exact List.sublist_append_right _ _ | apply List.Sublist.cons_cons | apply List.Sublist.cons | refine List.Sublist.trans ?_ (List.sublist_append_right _ _))) ?_
      refine x_qe (q_leq rfl rfl) rfl rfl rfl (by repeat (first | exact List.nil_sublist _ | exact List.Sublist.refl _ | exact List.sublist_append_right _ _ | apply List.Sublist.cons_cons | apply List.Sublist.cons | refine List.Sublist.trans ?_ (List.sublist_append_right _ _))) ?_
      refine x_qe (q_pick rfl rfl) rfl rfl rfl (by repeat (first | exact List.nil_sublist _ | exact List.Sublist.refl _ | exact List.sublist_append_right _ _ | apply List.Sublist.cons_cons | apply List.Sublist.cons | refine List.Sublist.trans ?_ (List.sublist_append_right _ _))) ?_
      refine gx_nil ?_
      refine tn ?_
      refine gc_if rfl (fun h5 => ?_) (fun h5 => ?_)
      · refine gc_seq ?_
        refine gc_region ?_
        refine sq (q_as rfl) rfl rfl ?_
        refine go_nil ?_
        refine tn ?_
        refine gc_ret ?_
        refine tr ?_
        refine ret_1 (.inl rfl) rfl rfl ?_
        exact rsE rfl
      · refine gc_skip ?_
        refine tn ?_
        refine gc_seq ?_
        first | (exfalso; simp_all; done) | (exfalso; simp_all; omega)
end Go.LL
