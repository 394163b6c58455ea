/- Part of a claim: contracts of the program's functions, walked op by op. -/
import Derived.Test.YthabegpfnfbmaaaGreatDoorA12
import Derived.Test.YthabegpfnfbmaaaGreatDoorLL13
set_option linter.unusedSimpArgs false
set_option linter.unusedVariables false
namespace Go.LL
open Go.Proofs

set_option maxRecDepth 4000 in
set_option maxHeartbeats 2000000 in
theorem stops_spec (np : Nat) (p : NodeP) (nm : NodeM)  :
    Spec Tryz.prog 122 [pt np] [] [(np, NodeM.o 129 p nm), (p.c, .cells #[.map none] 158 (0, 0))] (fun v L => v = (Stops.mk (ofF (insTo nm.ins 64) 0#64) 0#64 0#64).v ∧ L = []) := by
  refine spec_of Tryz.func122 rfl Tryz.ntmps122 (by simp) fun w0 hb => ?_
  refine gc_seq ?_
  refine gc_region ?_
  refine s_new (e_alloc Tryz.zeroValue213 rfl) rfl rfl fun b1 => ?_
  refine go_nil ?_
  refine tn ?_
  refine gc_seq ?_
  refine gc_draw (ord := [(0, true), (2, true), (3, true), (4, true), (5, true), (1, false), (6, false), (7, false)]) [8] mixed (by kernel_rfl) rfl (by kernel_rfl) (.cons_cons _ (.slnil)) ?_
  refine gx_q (q_mv rfl) rfl rfl rfl ?_
  refine gx_q (q_mv rfl) rfl rfl rfl ?_
  refine gx_q (q_nc rfl) rfl rfl rfl ?_
  refine gx_q (q_fa rfl Tryz.runUnderlying129 rfl Tryz.sizeOf125) rfl rfl rfl ?_
  refine gx_q (q_ld rfl Tryz.isAgg125 rfl) rfl rfl rfl ?_
  refine x_call (e_call (floors_spec np p nm) rfl en191) rfl rfl rfl (by repeat (first | exact List.nil_sublist _ | exact List.Sublist.refl _ | exact List.sublist_append_right _ _ | apply List.Sublist.cons_cons | apply List.Sublist.cons | refine List.Sublist.trans ?_ (List.sublist_append_right _ _))) ?_
  rintro _ _ ⟨s2, hs2, rfl, rfl⟩
  try refine app1 ?_
  refine x_callE (e_call (allnil_spec p.c) rfl en71) rfl rfl rfl (by repeat (first | exact List.nil_sublist _ | exact List.Sublist.refl _ | exact List.sublist_append_right _ _ | apply List.Sublist.cons_cons | apply List.Sublist.cons | refine List.Sublist.trans ?_ (List.sublist_append_right _ _))) ?_
  refine x_callE (e_call (of_spec _ _ (by assumption)) rfl en212) rfl rfl rfl (by repeat (first | exact List.nil_sublist _ | exact List.Sublist.refl _ | exact List.sublist_append_right _ _ | apply List.Sublist.cons_cons | apply List.Sublist.cons | refine List.Sublist.trans ?_ (List.sublist_append_right _ _))) ?_
  refine gx_tail ?_
  refine t_st (e_st rfl rfl Tryz.sizeOf213 rfl rfl rfl rfl) rfl rfl rfl ?_
  refine gt_nil ?_
  refine tn ?_
  refine gc_ret ?_
  refine ret_c (.inl rfl) rfl rfl Tryz.isAgg213 Tryz.sizeOf213 rfl ?_
  exact rsE (by first | rfl | (simp_all; done) | (simp_all; rfl) | (simp_all; omega) | (simp_all; intros; omega) | (simp_all; (repeat' split) <;> first | rfl | (simp_all; done) | omega | (exfalso; omega)))
end Go.LL
