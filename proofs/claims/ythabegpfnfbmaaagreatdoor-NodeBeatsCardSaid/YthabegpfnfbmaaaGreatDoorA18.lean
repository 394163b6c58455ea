/- Part of a claim: contracts of the program's functions, walked op by op. -/
import Derived.Test.YthabegpfnfbmaaaGreatDoorA17
set_option linter.unusedSimpArgs false
set_option linter.unusedVariables false
namespace Go.LL
open Go.Proofs

set_option maxRecDepth 4000 in
set_option maxHeartbeats 2000000 in
theorem members_spec (sa : Sli) (la : List Int) (ha : SlI sa la) (hl : la.length ≤ 100) (car cars since fnd : Int) (out any : Bool) (ra : Option Addr) (rn rc : Nat) :
    Spec Tryz.prog 150 [.agg #[i6 car, i6 cars, .bool out, .bool any, sa.v, .slice ra rn rc, i6 since, i6 fnd]] [] (sa.L 3) (fun v L => ∃ s2 : Sli, SlI s2 (setL (la ++ [car])) ∧ v = s2.v ∧ L = s2.L 3) := by
  refine spec_of Tryz.func150 rfl Tryz.ntmps150 (by simp) fun w0 hb => ?_
  refine gc_seq ?_
  refine gc_region ?_
  refine s_new (e_box rfl rfl) rfl rfl fun b1 => ?_
  refine sq (q_as rfl) rfl rfl ?_
  refine go_nil ?_
  refine tn ?_
  refine gc_seq ?_
  refine gc_drawY mixed (List.Sublist.refl _) ?_
  refine gy_q (i := 0) (q_fa rfl Tryz.runUnderlying242 rfl Tryz.sizeOf36) rfl rfl rfl (by kernel_rfl) (by kernel_rfl) ?_
  refine gy_q (i := 1) (q_ld rfl Tryz.isAgg36 rfl) rfl rfl rfl (by kernel_rfl) (by kernel_rfl) ?_
  refine gy_q (i := 3) (q_fa rfl Tryz.runUnderlying242 rfl Tryz.sizeOf3) rfl rfl rfl (by kernel_rfl) (by kernel_rfl) ?_
  refine gy_q (i := 4) (q_ld rfl Tryz.isAgg3 rfl) rfl rfl rfl (by kernel_rfl) (by kernel_rfl) ?_
  refine gy_2 (i := 2) (j := 5) (by kernel_rfl) ?_ ?_
  · refine ga_call (e_call (cloneI_spec sa la ha (by omega)) rfl en56) rfl rfl rfl (by repeat (first | exact List.nil_sublist _ | exact List.Sublist.refl _ | exact List.sublist_append_right _ _ | apply List.Sublist.cons_cons | apply List.Sublist.cons | refine List.Sublist.trans ?_ (List.sublist_append_right _ _))) ?_
    rintro _ _ ⟨s2, hs2, rfl, rfl⟩
    have ok2 := hs2.ok
    have en2 := hs2.n
    have ex2 := hs2.xs
    refine gy_1 (i := 5) (by kernel_rfl) (ga_bsl (e_bsl (zl := [.int .i64 0]) rfl Tryz.runUnderlying36 Tryz.sizeOf3 (by decide) (by decide) Tryz.zeroValue3 (by kernel_rfl) rfl) rfl rfl rfl (by repeat (first | exact List.nil_sublist _ | exact List.Sublist.refl _ | exact List.sublist_append_right _ _ | apply List.Sublist.cons_cons | apply List.Sublist.cons | refine List.Sublist.trans ?_ (List.sublist_append_right _ _))) fun b3 => ?_)
    refine gy_1 (i := 6) (by kernel_rfl) (ga_app (e_app (sl := s2) rfl ok2 rfl rfl (by simp [Value.oneCell']) Tryz.underlying36 ei3 (by first | omega | (simp only [maxLen]; omega)) (by first | omega | (simp only [maxLen]; omega))) rfl rfl rfl fun s4 hok4 hn4 hx4 => ⟨(by repeat (first | exact List.nil_sublist _ | exact List.Sublist.refl _ | exact List.sublist_append_right _ _ | apply List.Sublist.cons_cons | apply List.Sublist.cons | refine List.Sublist.trans ?_ (List.sublist_append_right _ _))), ?_⟩)
    refine gy_1 (i := 7) (by kernel_rfl) (ga_call (e_call (oset_spec _ (la ++ [car]) (SlI.mk (by assumption) (by simp_all) (by simp_all)) (by simp; omega)) rfl en236) rfl rfl rfl (by repeat (first | exact List.nil_sublist _ | exact List.Sublist.refl _ | exact List.sublist_append_right _ _ | apply List.Sublist.cons_cons | apply List.Sublist.cons | refine List.Sublist.trans ?_ (List.sublist_append_right _ _))) ?_)
    rintro _ _ ⟨s5, ok5, rfl, rfl⟩
    refine gy_1 (i := 8) (by kernel_rfl) (ga_qe (q_as rfl) rfl rfl rfl (by repeat (first | exact List.nil_sublist _ | exact List.Sublist.refl _ | exact List.sublist_append_right _ _ | apply List.Sublist.cons_cons | apply List.Sublist.cons | refine List.Sublist.trans ?_ (List.sublist_append_right _ _))) ?_)
    refine gy_nil (by kernel_rfl) ?_
    refine tn ?_
    refine gc_ret ?_
    refine ret_1 (.inl rfl) rfl rfl ?_
    exact rsY (A := Sli.L 3 s5) [] ⟨s5, ok5, rfl, rfl⟩
  · refine ga_bsl (e_bsl (zl := [.int .i64 0]) rfl Tryz.runUnderlying36 Tryz.sizeOf3 (by decide) (by decide) Tryz.zeroValue3 (by kernel_rfl) rfl) rfl rfl rfl (by repeat (first | exact List.nil_sublist _ | exact List.Sublist.refl _ | exact List.sublist_append_right _ _ | apply List.Sublist.cons_cons | apply List.Sublist.cons | refine List.Sublist.trans ?_ (List.sublist_append_right _ _))) fun b6 => ?_
    refine gy_1 (i := 2) (by kernel_rfl) (ga_call (e_call (cloneI_spec sa la ha (by omega)) rfl en56) rfl rfl rfl (by repeat (first | exact List.nil_sublist _ | exact List.Sublist.refl _ | exact List.sublist_append_right _ _ | apply List.Sublist.cons_cons | apply List.Sublist.cons | refine List.Sublist.trans ?_ (List.sublist_append_right _ _))) ?_)
    rintro _ _ ⟨s7, hs7, rfl, rfl⟩
    have ok7 := hs7.ok
    have en7 := hs7.n
    have ex7 := hs7.xs
    refine gy_1 (i := 6) (by kernel_rfl) (ga_app (e_app (sl := s7) rfl ok7 rfl rfl (by simp [Value.oneCell']) Tryz.underlying36 ei3 (by first | omega | (simp only [maxLen]; omega)) (by first | omega | (simp only [maxLen]; omega))) rfl rfl rfl fun s8 hok8 hn8 hx8 => ⟨(by repeat (first | exact List.nil_sublist _ | exact List.Sublist.refl _ | exact List.sublist_append_right _ _ | apply List.Sublist.cons_cons | apply List.Sublist.cons | refine List.Sublist.trans ?_ (List.sublist_append_right _ _))), ?_⟩)
    refine gy_1 (i := 7) (by kernel_rfl) (ga_call (e_call (oset_spec _ (la ++ [car]) (SlI.mk (by assumption) (by simp_all) (by simp_all)) (by simp; omega)) rfl en236) rfl rfl rfl (by repeat (first | exact List.nil_sublist _ | exact List.Sublist.refl _ | exact List.sublist_append_right _ _ | apply List.Sublist.cons_cons | apply List.Sublist.cons | refine List.Sublist.trans ?_ (List.sublist_append_right _ _))) ?_)
    rintro _ _ ⟨s9, ok9, rfl, rfl⟩
    refine gy_1 (i := 8) (by kernel_rfl) (ga_qe (q_as rfl) rfl rfl rfl (by repeat (first | exact List.nil_sublist _ | exact List.Sublist.refl _ | exact List.sublist_append_right _ _ | apply List.Sublist.cons_cons | apply List.Sublist.cons | refine List.Sublist.trans ?_ (List.sublist_append_right _ _))) ?_)
    refine gy_nil (by kernel_rfl) ?_
    refine tn ?_
    refine gc_ret ?_
    refine ret_1 (.inl rfl) rfl rfl ?_
    exact rsY (A := Sli.L 3 s9) [] ⟨s9, ok9, rfl, rfl⟩
end Go.LL
