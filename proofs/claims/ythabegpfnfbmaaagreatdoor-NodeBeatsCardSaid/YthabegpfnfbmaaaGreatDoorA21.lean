/- Part of a claim: contracts of the program's functions, walked op by op. -/
import Derived.Test.YthabegpfnfbmaaaGreatDoorA20
set_option linter.unusedSimpArgs false
set_option linter.unusedVariables false
namespace Go.LL
open Go.Proofs

set_option maxRecDepth 4000 in
set_option maxHeartbeats 2000000 in
theorem foundsNo_spec (np : Nat) (p : NodeP) (nm : NodeM) (x : Tab) (g : GateM) (st : StoreM) (b : Nat) (rv : Value) (ra : Option Addr) (rn rc : Nat) (hm : nm.mem = .slice ra rn rc) (hd : nm.down = false) (hc : 0 ≤ nm.h.cars ∧ nm.h.cars ≤ 16) (hf : nm.found ≤ 4 * nm.h.cars + 8) (hl : x.alive.length ≤ 100) (h0 : 0 < (setL (x.alive ++ [nm.id])).length) (h1 : (setL (x.alive ++ [nm.id])).length ≤ 1000) :
    Spec Tryz.prog 64 [pt np, rv] [] [(np, NodeM.o 129 p nm), (p.l, Tab.o 163 x), (p.g, GateM.o 205 g), (p.s, StoreM.o 207 b st)] (fun v L => v = .tuple #[.slice none 0 0, .slice none 0 0] ∧ L = []) := by
  obtain ⟨h, id, life, c, mem, ins, out, down, since, found⟩ := nm
  subst hm
  refine spec_of Tryz.func64 rfl Tryz.ntmps64 (by simp) fun w0 hb => ?_
  refine gc_seq ?_
  refine gc_region ?_
  refine sq (q_as rfl) rfl rfl ?_
  refine sq (q_as rfl) rfl rfl ?_
  refine go_nil ?_
  refine tn ?_
  refine gc_seq ?_
  refine gc_drawY mixed (List.Sublist.refl _) ?_
  refine gy_q (i := 0) (q_mv rfl) rfl rfl rfl (by kernel_rfl) (by kernel_rfl) ?_
  refine gy_q (i := 1) (q_nc rfl) rfl rfl rfl (by kernel_rfl) (by kernel_rfl) ?_
  refine gy_q (i := 2) (q_fa rfl Tryz.runUnderlying129 rfl Tryz.sizeOf3) rfl rfl rfl (by kernel_rfl) (by kernel_rfl) ?_
  refine gy_q (i := 3) (q_ld rfl Tryz.isAgg3 rfl) rfl rfl rfl (by kernel_rfl) (by kernel_rfl) ?_
  refine gy_q (i := 4) (q_mv rfl) rfl rfl rfl (by kernel_rfl) (by kernel_rfl) ?_
  refine gy_q (i := 5) (q_nc rfl) rfl rfl rfl (by kernel_rfl) (by kernel_rfl) ?_
  refine gy_q (i := 6) (q_fa rfl Tryz.runUnderlying129 rfl Tryz.sizeOf29) rfl rfl rfl (by kernel_rfl) (by kernel_rfl) ?_
  refine gy_q (i := 7) (q_fa rfl Tryz.runUnderlying29 rfl Tryz.sizeOf3) rfl rfl rfl (by kernel_rfl) (by kernel_rfl) ?_
  refine gy_q (i := 8) (q_ld rfl Tryz.isAgg3 rfl) rfl rfl rfl (by kernel_rfl) (by kernel_rfl) ?_
  refine gy_q (i := 9) (q_mv rfl) rfl rfl rfl (by kernel_rfl) (by kernel_rfl) ?_
  refine gy_q (i := 10) (q_nc rfl) rfl rfl rfl (by kernel_rfl) (by kernel_rfl) ?_
  refine gy_q (i := 11) (q_fa rfl Tryz.runUnderlying129 rfl Tryz.sizeOf4) rfl rfl rfl (by kernel_rfl) (by kernel_rfl) ?_
  refine gy_q (i := 12) (q_ld rfl Tryz.isAgg4 rfl) rfl rfl rfl (by kernel_rfl) (by kernel_rfl) ?_
  refine gy_q (i := 13) (q_mv rfl) rfl rfl rfl (by kernel_rfl) (by kernel_rfl) ?_
  refine gy_q (i := 15) (q_mv rfl) rfl rfl rfl (by kernel_rfl) (by kernel_rfl) ?_
  refine gy_q (i := 16) (q_nc rfl) rfl rfl rfl (by kernel_rfl) (by kernel_rfl) ?_
  refine gy_q (i := 17) (q_fa rfl Tryz.runUnderlying129 rfl Tryz.sizeOf127) rfl rfl rfl (by kernel_rfl) (by kernel_rfl) ?_
  refine gy_q (i := 18) (q_ld rfl Tryz.isAgg127 rfl) rfl rfl rfl (by kernel_rfl) (by kernel_rfl) ?_
  refine gy_q (i := 20) (q_mv rfl) rfl rfl rfl (by kernel_rfl) (by kernel_rfl) ?_
  refine gy_q (i := 21) (q_nc rfl) rfl rfl rfl (by kernel_rfl) (by kernel_rfl) ?_
  refine gy_q (i := 22) (q_fa rfl Tryz.runUnderlying129 rfl Tryz.sizeOf36) rfl rfl rfl (by kernel_rfl) (by kernel_rfl) ?_
  refine gy_q (i := 23) (q_ld rfl Tryz.isAgg36 rfl) rfl rfl rfl (by kernel_rfl) (by kernel_rfl) ?_
  refine gy_q (i := 24) (q_mv rfl) rfl rfl rfl (by kernel_rfl) (by kernel_rfl) ?_
  refine gy_q (i := 25) (q_nc rfl) rfl rfl rfl (by kernel_rfl) (by kernel_rfl) ?_
  refine gy_q (i := 26) (q_fa rfl Tryz.runUnderlying129 rfl Tryz.sizeOf3) rfl rfl rfl (by kernel_rfl) (by kernel_rfl) ?_
  refine gy_q (i := 27) (q_ld rfl Tryz.isAgg3 rfl) rfl rfl rfl (by kernel_rfl) (by kernel_rfl) ?_
  refine gy_q (i := 28) (q_mv rfl) rfl rfl rfl (by kernel_rfl) (by kernel_rfl) ?_
  refine gy_q (i := 29) (q_nc rfl) rfl rfl rfl (by kernel_rfl) (by kernel_rfl) ?_
  refine gy_q (i := 30) (q_fa rfl Tryz.runUnderlying129 rfl Tryz.sizeOf3) rfl rfl rfl (by kernel_rfl) (by kernel_rfl) ?_
  refine gy_q (i := 31) (q_ld rfl Tryz.isAgg3 rfl) rfl rfl rfl (by kernel_rfl) (by kernel_rfl) ?_
  refine gy_2 (i := 14) (j := 33) (by kernel_rfl) ?_ ?_
  · refine ga_callE (e_call (nin_spec np p ⟨h, id, life, c, .slice ra rn rc, ins, out, down, since, found⟩ g) rfl en145) rfl rfl rfl (by repeat (first | exact List.nil_sublist _ | exact List.Sublist.refl _ | exact List.sublist_append_right _ _ | apply List.Sublist.cons_cons | apply List.Sublist.cons | refine List.Sublist.trans ?_ (List.sublist_append_right _ _))) ?_
    refine gy_2 (i := 19) (j := 33) (by kernel_rfl) ?_ ?_
    · refine ga_call (e_call (alive_spec p.l x) rfl en59) rfl rfl rfl (by repeat (first | exact List.nil_sublist _ | exact List.Sublist.refl _ | exact List.sublist_append_right _ _ | apply List.Sublist.cons_cons | apply List.Sublist.cons | refine List.Sublist.trans ?_ (List.sublist_append_right _ _))) ?_
      rintro _ _ ⟨s1, hs1, rfl, rfl⟩
      refine gy_q (i := 32) (q_bld rfl Tryz.runUnderlying242 Tryz.zeroValue242 rfl pl242 rfl) rfl rfl rfl (by kernel_rfl) (by kernel_rfl) ?_
      refine gy_1 (i := 33) (by kernel_rfl) (ga_new (e_alloc Tryz.zeroValue242 rfl) rfl rfl rfl (by repeat (first | exact List.nil_sublist _ | exact List.Sublist.refl _ | exact List.sublist_append_right _ _ | apply List.Sublist.cons_cons | apply List.Sublist.cons | refine List.Sublist.trans ?_ (List.sublist_append_right _ _))) fun b2 => ?_)
      refine gy_1 (i := 34) (by kernel_rfl) (ga_st (e_st rfl rfl Tryz.sizeOf242 rfl rfl rfl rfl) rfl rfl rfl (by repeat (first | exact List.nil_sublist _ | exact List.Sublist.refl _ | exact List.sublist_append_right _ _ | apply List.Sublist.cons_cons | apply List.Sublist.cons | refine List.Sublist.trans ?_ (List.sublist_append_right _ _))) ?_)
      refine gy_nil (by kernel_rfl) ?_
      refine tn ?_
      refine gc_seq ?_
      refine gc_drawY mixed (List.Sublist.refl _) ?_
      refine gy_q (i := 0) (q_mv rfl) rfl rfl rfl (by kernel_rfl) (by kernel_rfl) ?_
      refine gy_q (i := 2) (q_mv rfl) rfl rfl rfl (by kernel_rfl) (by kernel_rfl) ?_
      refine gy_q (i := 3) (q_nc rfl) rfl rfl rfl (by kernel_rfl) (by kernel_rfl) ?_
      refine gy_q (i := 4) (q_fa rfl Tryz.runUnderlying129 rfl Tryz.sizeOf3) rfl rfl rfl (by kernel_rfl) (by kernel_rfl) ?_
      refine gy_q (i := 5) (q_ld rfl Tryz.isAgg3 rfl) rfl rfl rfl (by kernel_rfl) (by kernel_rfl) ?_
      refine gy_2 (i := 1) (j := 10) (by kernel_rfl) ?_ ?_
      · refine ga_callE (e_call (nseen_spec np p ⟨h, id, life, c, .slice ra rn rc, ins, out, down, since, found⟩ x g st b) rfl en144) rfl rfl rfl (by repeat (first | exact List.nil_sublist _ | exact List.Sublist.refl _ | exact List.sublist_append_right _ _ | apply List.Sublist.cons_cons | apply List.Sublist.cons | refine List.Sublist.trans ?_ (List.sublist_append_right _ _))) ?_
        refine gy_2 (i := 6) (j := 10) (by kernel_rfl) ?_ ?_
        · refine ga_callE (e_call (enext_spec _ _) rfl en146) rfl rfl rfl (by repeat (first | exact List.nil_sublist _ | exact List.Sublist.refl _ | exact List.sublist_append_right _ _ | apply List.Sublist.cons_cons | apply List.Sublist.cons | refine List.Sublist.trans ?_ (List.sublist_append_right _ _))) ?_
          refine gy_q (i := 7) (q_mv rfl) rfl rfl rfl (by kernel_rfl) (by kernel_rfl) ?_
          refine gy_q (i := 8) (q_ext rfl rfl) rfl rfl rfl (by kernel_rfl) (by kernel_rfl) ?_
          refine gy_q (i := 9) (q_ext rfl rfl) rfl rfl rfl (by kernel_rfl) (by kernel_rfl) ?_
          refine gy_1 (i := 10) (by kernel_rfl) (ga_new (e_alloc Tryz.zeroValue35 rfl) rfl rfl rfl (by repeat (first | exact List.nil_sublist _ | exact List.Sublist.refl _ | exact List.sublist_append_right _ _ | apply List.Sublist.cons_cons | apply List.Sublist.cons | refine List.Sublist.trans ?_ (List.sublist_append_right _ _))) fun b3 => ?_)
          refine gy_1 (i := 11) (by kernel_rfl) (ga_st (e_st rfl rfl Tryz.sizeOf35 rfl rfl rfl rfl) rfl rfl rfl (by repeat (first | exact List.nil_sublist _ | exact List.Sublist.refl _ | exact List.sublist_append_right _ _ | apply List.Sublist.cons_cons | apply List.Sublist.cons | refine List.Sublist.trans ?_ (List.sublist_append_right _ _))) ?_)
          refine gy_1 (i := 12) (by kernel_rfl) (ga_qe (q_as rfl) rfl rfl rfl (by repeat (first | exact List.nil_sublist _ | exact List.Sublist.refl _ | exact List.sublist_append_right _ _ | apply List.Sublist.cons_cons | apply List.Sublist.cons | refine List.Sublist.trans ?_ (List.sublist_append_right _ _))) ?_)
          refine gy_nil (by kernel_rfl) ?_
          refine tn ?_
          refine gc_seq ?_
          refine gc_seq ?_
          refine gc_region ?_
          refine sq (q_lda rfl Tryz.isAgg242 Tryz.sizeOf242 rfl) rfl rfl ?_
          refine s_callE (e_call (shouldNo_spec _ _ (by assumption) hl _ _ _ _ _ _ ra rn rc hc hf h0 h1) rfl en147) rfl rfl ?_
          refine sq (q_not rfl) rfl rfl ?_
          refine sq (q_mv rfl) rfl rfl ?_
          refine bsp (fun h4 => ?_) (fun h4 => ?_)
          · refine sskip rfl rfl ?_
            refine sskip rfl rfl ?_
            refine sq (q_pick rfl rfl) rfl rfl ?_
            refine go_nil ?_
            refine tn ?_
            refine gc_true rfl ?_
            refine gc_seq ?_
            refine gc_region ?_
            refine sq (q_as rfl) rfl rfl ?_
            refine sq (q_as rfl) rfl rfl ?_
            refine go_nil ?_
            refine tn ?_
            refine gc_ret ?_
            refine tr ?_
            refine ret_2 (.inl rfl) rfl rfl rfl ?_
            exact rsE rfl
          · refine sq (q_mv rfl) rfl rfl ?_
            refine sq (q_not rfl) rfl rfl ?_
            refine sq (q_pick rfl rfl) rfl rfl ?_
            refine go_nil ?_
            refine tn ?_
            refine gc_if rfl (fun h5 => ?_) (fun h5 => ?_)
            · refine gc_seq ?_
              refine gc_region ?_
              refine sq (q_as rfl) rfl rfl ?_
              refine sq (q_as rfl) rfl rfl ?_
              refine go_nil ?_
              refine tn ?_
              refine gc_ret ?_
              refine tr ?_
              refine ret_2 (.inl rfl) rfl rfl rfl ?_
              exact rsE rfl
            · refine gc_skip ?_
              refine tn ?_
              refine gc_seq ?_
              refine gc_seq ?_
              exfalso; simp_all
        · refine ga_new (e_alloc Tryz.zeroValue35 rfl) rfl rfl rfl (by repeat (first | exact List.nil_sublist _ | exact List.Sublist.refl _ | exact List.sublist_append_right _ _ | apply List.Sublist.cons_cons | apply List.Sublist.cons | refine List.Sublist.trans ?_ (List.sublist_append_right _ _))) fun b6 => ?_
          refine gy_1 (i := 6) (by kernel_rfl) (ga_callE (e_call (enext_spec _ _) rfl en146) rfl rfl rfl (by repeat (first | exact List.nil_sublist _ | exact List.Sublist.refl _ | exact List.sublist_append_right _ _ | apply List.Sublist.cons_cons | apply List.Sublist.cons | refine List.Sublist.trans ?_ (List.sublist_append_right _ _))) ?_)
          refine gy_1 (i := 7) (by kernel_rfl) (ga_qe (q_mv rfl) rfl rfl rfl (by repeat (first | exact List.nil_sublist _ | exact List.Sublist.refl _ | exact List.sublist_append_right _ _ | apply List.Sublist.cons_cons | apply List.Sublist.cons | refine List.Sublist.trans ?_ (List.sublist_append_right _ _))) ?_)
          refine gy_q (i := 8) (q_ext rfl rfl) rfl rfl rfl (by kernel_rfl) (by kernel_rfl) ?_
          refine gy_q (i := 9) (q_ext rfl rfl) rfl rfl rfl (by kernel_rfl) (by kernel_rfl) ?_
          refine gy_1 (i := 11) (by kernel_rfl) (ga_st (e_st rfl rfl Tryz.sizeOf35 rfl rfl rfl rfl) rfl rfl rfl (by repeat (first | exact List.nil_sublist _ | exact List.Sublist.refl _ | exact List.sublist_append_right _ _ | apply List.Sublist.cons_cons | apply List.Sublist.cons | refine List.Sublist.trans ?_ (List.sublist_append_right _ _))) ?_)
          refine gy_1 (i := 12) (by kernel_rfl) (ga_qe (q_as rfl) rfl rfl rfl (by repeat (first | exact List.nil_sublist _ | exact List.Sublist.refl _ | exact List.sublist_append_right _ _ | apply List.Sublist.cons_cons | apply List.Sublist.cons | refine List.Sublist.trans ?_ (List.sublist_append_right _ _))) ?_)
          refine gy_nil (by kernel_rfl) ?_
          refine tn ?_
          refine gc_seq ?_
          refine gc_seq ?_
          refine gc_region ?_
          refine sq (q_lda rfl Tryz.isAgg242 Tryz.sizeOf242 rfl) rfl rfl ?_
          refine s_callE (e_call (shouldNo_spec _ _ (by assumption) hl _ _ _ _ _ _ ra rn rc hc hf h0 h1) rfl en147) rfl rfl ?_
          refine sq (q_not rfl) rfl rfl ?_
          refine sq (q_mv rfl) rfl rfl ?_
          refine bsp (fun h7 => ?_) (fun h7 => ?_)
          · refine sskip rfl rfl ?_
            refine sskip rfl rfl ?_
            refine sq (q_pick rfl rfl) rfl rfl ?_
            refine go_nil ?_
            refine tn ?_
            refine gc_true rfl ?_
            refine gc_seq ?_
            refine gc_region ?_
            refine sq (q_as rfl) rfl rfl ?_
            refine sq (q_as rfl) rfl rfl ?_
            refine go_nil ?_
            refine tn ?_
            refine gc_ret ?_
            refine tr ?_
            refine ret_2 (.inl rfl) rfl rfl rfl ?_
            exact rsE rfl
          · refine sq (q_mv rfl) rfl rfl ?_
            refine sq (q_not rfl) rfl rfl ?_
            refine sq (q_pick rfl rfl) rfl rfl ?_
            refine go_nil ?_
            refine tn ?_
            refine gc_if rfl (fun h8 => ?_) (fun h8 => ?_)
            · refine gc_seq ?_
              refine gc_region ?_
              refine sq (q_as rfl) rfl rfl ?_
              refine sq (q_as rfl) rfl rfl ?_
              refine go_nil ?_
              refine tn ?_
              refine gc_ret ?_
              refine tr ?_
              refine ret_2 (.inl rfl) rfl rfl rfl ?_
              exact rsE rfl
            · refine gc_skip ?_
              refine tn ?_
              refine gc_seq ?_
              refine gc_seq ?_
              exfalso; simp_all
      · refine ga_new (e_alloc Tryz.zeroValue35 rfl) rfl rfl rfl (by repeat (first | exact List.nil_sublist _ | exact List.Sublist.refl _ | exact List.sublist_append_right _ _ | apply List.Sublist.cons_cons | apply List.Sublist.cons | refine List.Sublist.trans ?_ (List.sublist_append_right _ _))) fun b9 => ?_
        refine gy_1 (i := 1) (by kernel_rfl) (ga_callE (e_call (nseen_spec np p ⟨h, id, life, c, .slice ra rn rc, ins, out, down, since, found⟩ x g st b) rfl en144) rfl rfl rfl (by repeat (first | exact List.nil_sublist _ | exact List.Sublist.refl _ | exact List.sublist_append_right _ _ | apply List.Sublist.cons_cons | apply List.Sublist.cons | refine List.Sublist.trans ?_ (List.sublist_append_right _ _))) ?_)
        refine gy_1 (i := 6) (by kernel_rfl) (ga_callE (e_call (enext_spec _ _) rfl en146) rfl rfl rfl (by repeat (first | exact List.nil_sublist _ | exact List.Sublist.refl _ | exact List.sublist_append_right _ _ | apply List.Sublist.cons_cons | apply List.Sublist.cons | refine List.Sublist.trans ?_ (List.sublist_append_right _ _))) ?_)
        refine gy_1 (i := 7) (by kernel_rfl) (ga_qe (q_mv rfl) rfl rfl rfl (by repeat (first | exact List.nil_sublist _ | exact List.Sublist.refl _ | exact List.sublist_append_right _ _ | apply List.Sublist.cons_cons | apply List.Sublist.cons | refine List.Sublist.trans ?_ (List.sublist_append_right _ _))) ?_)
        refine gy_q (i := 8) (q_ext rfl rfl) rfl rfl rfl (by kernel_rfl) (by kernel_rfl) ?_
        refine gy_q (i := 9) (q_ext rfl rfl) rfl rfl rfl (by kernel_rfl) (by kernel_rfl) ?_
        refine gy_1 (i := 11) (by kernel_rfl) (ga_st (e_st rfl rfl Tryz.sizeOf35 rfl rfl rfl rfl) rfl rfl rfl (by repeat (first | exact List.nil_sublist _ | exact List.Sublist.refl _ | exact List.sublist_append_right _ _ | apply List.Sublist.cons_cons | apply List.Sublist.cons | refine List.Sublist.trans ?_ (List.sublist_append_right _ _))) ?_)
        refine gy_1 (i := 12) (by kernel_rfl) (ga_qe (q_as rfl) rfl rfl rfl (by repeat (first | exact List.nil_sublist _ | exact List.Sublist.refl _ | exact List.sublist_append_right _ _ | apply List.Sublist.cons_cons | apply List.Sublist.cons | refine List.Sublist.trans ?_ (List.sublist_append_right _ _))) ?_)
        refine gy_nil (by kernel_rfl) ?_
        refine tn ?_
        refine gc_seq ?_
        refine gc_seq ?_
        refine gc_region ?_
        refine sq (q_lda rfl Tryz.isAgg242 Tryz.sizeOf242 rfl) rfl rfl ?_
        refine s_callE (e_call (shouldNo_spec _ _ (by assumption) hl _ _ _ _ _ _ ra rn rc hc hf h0 h1) rfl en147) rfl rfl ?_
        refine sq (q_not rfl) rfl rfl ?_
        refine sq (q_mv rfl) rfl rfl ?_
        refine bsp (fun h10 => ?_) (fun h10 => ?_)
        · refine sskip rfl rfl ?_
          refine sskip rfl rfl ?_
          refine sq (q_pick rfl rfl) rfl rfl ?_
          refine go_nil ?_
          refine tn ?_
          refine gc_true rfl ?_
          refine gc_seq ?_
          refine gc_region ?_
          refine sq (q_as rfl) rfl rfl ?_
          refine sq (q_as rfl) rfl rfl ?_
          refine go_nil ?_
          refine tn ?_
          refine gc_ret ?_
          refine tr ?_
          refine ret_2 (.inl rfl) rfl rfl rfl ?_
          exact rsE rfl
        · refine sq (q_mv rfl) rfl rfl ?_
          refine sq (q_not rfl) rfl rfl ?_
          refine sq (q_pick rfl rfl) rfl rfl ?_
          refine go_nil ?_
          refine tn ?_
          refine gc_if rfl (fun h11 => ?_) (fun h11 => ?_)
          · refine gc_seq ?_
            refine gc_region ?_
            refine sq (q_as rfl) rfl rfl ?_
            refine sq (q_as rfl) rfl rfl ?_
            refine go_nil ?_
            refine tn ?_
            refine gc_ret ?_
            refine tr ?_
            refine ret_2 (.inl rfl) rfl rfl rfl ?_
            exact rsE rfl
          · refine gc_skip ?_
            refine tn ?_
            refine gc_seq ?_
            refine gc_seq ?_
            exfalso; simp_all
    · refine ga_new (e_alloc Tryz.zeroValue242 rfl) rfl rfl rfl (by repeat (first | exact List.nil_sublist _ | exact List.Sublist.refl _ | exact List.sublist_append_right _ _ | apply List.Sublist.cons_cons | apply List.Sublist.cons | refine List.Sublist.trans ?_ (List.sublist_append_right _ _))) fun b12 => ?_
      refine gy_1 (i := 19) (by kernel_rfl) (ga_call (e_call (alive_spec p.l x) rfl en59) rfl rfl rfl (by repeat (first | exact List.nil_sublist _ | exact List.Sublist.refl _ | exact List.sublist_append_right _ _ | apply List.Sublist.cons_cons | apply List.Sublist.cons | refine List.Sublist.trans ?_ (List.sublist_append_right _ _))) ?_)
      rintro _ _ ⟨s13, hs13, rfl, rfl⟩
      refine gy_1 (i := 32) (by kernel_rfl) (ga_qe (q_bld rfl Tryz.runUnderlying242 Tryz.zeroValue242 rfl pl242 rfl) rfl rfl rfl (by repeat (first | exact List.nil_sublist _ | exact List.Sublist.refl _ | exact List.sublist_append_right _ _ | apply List.Sublist.cons_cons | apply List.Sublist.cons | refine List.Sublist.trans ?_ (List.sublist_append_right _ _))) ?_)
      refine gy_1 (i := 34) (by kernel_rfl) (ga_st (e_st rfl rfl Tryz.sizeOf242 rfl rfl rfl rfl) rfl rfl rfl (by repeat (first | exact List.nil_sublist _ | exact List.Sublist.refl _ | exact List.sublist_append_right _ _ | apply List.Sublist.cons_cons | apply List.Sublist.cons | refine List.Sublist.trans ?_ (List.sublist_append_right _ _))) ?_)
      refine gy_nil (by kernel_rfl) ?_
      refine tn ?_
      refine gc_seq ?_
      refine gc_drawY mixed (List.Sublist.refl _) ?_
      refine gy_q (i := 0) (q_mv rfl) rfl rfl rfl (by kernel_rfl) (by kernel_rfl) ?_
      refine gy_q (i := 2) (q_mv rfl) rfl rfl rfl (by kernel_rfl) (by kernel_rfl) ?_
      refine gy_q (i := 3) (q_nc rfl) rfl rfl rfl (by kernel_rfl) (by kernel_rfl) ?_
      refine gy_q (i := 4) (q_fa rfl Tryz.runUnderlying129 rfl Tryz.sizeOf3) rfl rfl rfl (by kernel_rfl) (by kernel_rfl) ?_
      refine gy_q (i := 5) (q_ld rfl Tryz.isAgg3 rfl) rfl rfl rfl (by kernel_rfl) (by kernel_rfl) ?_
      refine gy_2 (i := 1) (j := 10) (by kernel_rfl) ?_ ?_
      · refine ga_callE (e_call (nseen_spec np p ⟨h, id, life, c, .slice ra rn rc, ins, out, down, since, found⟩ x g st b) rfl en144) rfl rfl rfl (by repeat (first | exact List.nil_sublist _ | exact List.Sublist.refl _ | exact List.sublist_append_right _ _ | apply List.Sublist.cons_cons | apply List.Sublist.cons | refine List.Sublist.trans ?_ (List.sublist_append_right _ _))) ?_
        refine gy_2 (i := 6) (j := 10) (by kernel_rfl) ?_ ?_
        · refine ga_callE (e_call (enext_spec _ _) rfl en146) rfl rfl rfl (by repeat (first | exact List.nil_sublist _ | exact List.Sublist.refl _ | exact List.sublist_append_right _ _ | apply List.Sublist.cons_cons | apply List.Sublist.cons | refine List.Sublist.trans ?_ (List.sublist_append_right _ _))) ?_
          refine gy_q (i := 7) (q_mv rfl) rfl rfl rfl (by kernel_rfl) (by kernel_rfl) ?_
          refine gy_q (i := 8) (q_ext rfl rfl) rfl rfl rfl (by kernel_rfl) (by kernel_rfl) ?_
          refine gy_q (i := 9) (q_ext rfl rfl) rfl rfl rfl (by kernel_rfl) (by kernel_rfl) ?_
          refine gy_1 (i := 10) (by kernel_rfl) (ga_new (e_alloc Tryz.zeroValue35 rfl) rfl rfl rfl (by repeat (first | exact List.nil_sublist _ | exact List.Sublist.refl _ | exact List.sublist_append_right _ _ | apply List.Sublist.cons_cons | apply List.Sublist.cons | refine List.Sublist.trans ?_ (List.sublist_append_right _ _))) fun b14 => ?_)
          refine gy_1 (i := 11) (by kernel_rfl) (ga_st (e_st rfl rfl Tryz.sizeOf35 rfl rfl rfl rfl) rfl rfl rfl (by repeat (first | exact List.nil_sublist _ | exact List.Sublist.refl _ | exact List.sublist_append_right _ _ | apply List.Sublist.cons_cons | apply List.Sublist.cons | refine List.Sublist.trans ?_ (List.sublist_append_right _ _))) ?_)
          refine gy_1 (i := 12) (by kernel_rfl) (ga_qe (q_as rfl) rfl rfl rfl (by repeat (first | exact List.nil_sublist _ | exact List.Sublist.refl _ | exact List.sublist_append_right _ _ | apply List.Sublist.cons_cons | apply List.Sublist.cons | refine List.Sublist.trans ?_ (List.sublist_append_right _ _))) ?_)
          refine gy_nil (by kernel_rfl) ?_
          refine tn ?_
          refine gc_seq ?_
          refine gc_seq ?_
          refine gc_region ?_
          refine sq (q_lda rfl Tryz.isAgg242 Tryz.sizeOf242 rfl) rfl rfl ?_
          refine s_callE (e_call (shouldNo_spec _ _ (by assumption) hl _ _ _ _ _ _ ra rn rc hc hf h0 h1) rfl en147) rfl rfl ?_
          refine sq (q_not rfl) rfl rfl ?_
          refine sq (q_mv rfl) rfl rfl ?_
          refine bsp (fun h15 => ?_) (fun h15 => ?_)
          · refine sskip rfl rfl ?_
            refine sskip rfl rfl ?_
            refine sq (q_pick rfl rfl) rfl rfl ?_
            refine go_nil ?_
            refine tn ?_
            refine gc_true rfl ?_
            refine gc_seq ?_
            refine gc_region ?_
            refine sq (q_as rfl) rfl rfl ?_
            refine sq (q_as rfl) rfl rfl ?_
            refine go_nil ?_
            refine tn ?_
            refine gc_ret ?_
            refine tr ?_
            refine ret_2 (.inl rfl) rfl rfl rfl ?_
            exact rsE rfl
          · refine sq (q_mv rfl) rfl rfl ?_
            refine sq (q_not rfl) rfl rfl ?_
            refine sq (q_pick rfl rfl) rfl rfl ?_
            refine go_nil ?_
            refine tn ?_
            refine gc_if rfl (fun h16 => ?_) (fun h16 => ?_)
            · refine gc_seq ?_
              refine gc_region ?_
              refine sq (q_as rfl) rfl rfl ?_
              refine sq (q_as rfl) rfl rfl ?_
              refine go_nil ?_
              refine tn ?_
              refine gc_ret ?_
              refine tr ?_
              refine ret_2 (.inl rfl) rfl rfl rfl ?_
              exact rsE rfl
            · refine gc_skip ?_
              refine tn ?_
              refine gc_seq ?_
              refine gc_seq ?_
              exfalso; simp_all
        · refine ga_new (e_alloc Tryz.zeroValue35 rfl) rfl rfl rfl (by repeat (first | exact List.nil_sublist _ | exact List.Sublist.refl _ | exact List.sublist_append_right _ _ | apply List.Sublist.cons_cons | apply List.Sublist.cons | refine List.Sublist.trans ?_ (List.sublist_append_right _ _))) fun b17 => ?_
          refine gy_1 (i := 6) (by kernel_rfl) (ga_callE (e_call (enext_spec _ _) rfl en146) rfl rfl rfl (by repeat (first | exact List.nil_sublist _ | exact List.Sublist.refl _ | exact List.sublist_append_right _ _ | apply List.Sublist.cons_cons | apply List.Sublist.cons | refine List.Sublist.trans ?_ (List.sublist_append_right _ _))) ?_)
          refine gy_1 (i := 7) (by kernel_rfl) (ga_qe (q_mv rfl) rfl rfl rfl (by repeat (first | exact List.nil_sublist _ | exact List.Sublist.refl _ | exact List.sublist_append_right _ _ | apply List.Sublist.cons_cons | apply List.Sublist.cons | refine List.Sublist.trans ?_ (List.sublist_append_right _ _))) ?_)
          refine gy_q (i := 8) (q_ext rfl rfl) rfl rfl rfl (by kernel_rfl) (by kernel_rfl) ?_
          refine gy_q (i := 9) (q_ext rfl rfl) rfl rfl rfl (by kernel_rfl) (by kernel_rfl) ?_
          refine gy_1 (i := 11) (by kernel_rfl) (ga_st (e_st rfl rfl Tryz.sizeOf35 rfl rfl rfl rfl) rfl rfl rfl (by repeat (first | exact List.nil_sublist _ | exact List.Sublist.refl _ | exact List.sublist_append_right _ _ | apply List.Sublist.cons_cons | apply List.Sublist.cons | refine List.Sublist.trans ?_ (List.sublist_append_right _ _))) ?_)
          refine gy_1 (i := 12) (by kernel_rfl) (ga_qe (q_as rfl) rfl rfl rfl (by repeat (first | exact List.nil_sublist _ | exact List.Sublist.refl _ | exact List.sublist_append_right _ _ | apply List.Sublist.cons_cons | apply List.Sublist.cons | refine List.Sublist.trans ?_ (List.sublist_append_right _ _))) ?_)
          refine gy_nil (by kernel_rfl) ?_
          refine tn ?_
          refine gc_seq ?_
          refine gc_seq ?_
          refine gc_region ?_
          refine sq (q_lda rfl Tryz.isAgg242 Tryz.sizeOf242 rfl) rfl rfl ?_
          refine s_callE (e_call (shouldNo_spec _ _ (by assumption) hl _ _ _ _ _ _ ra rn rc hc hf h0 h1) rfl en147) rfl rfl ?_
          refine sq (q_not rfl) rfl rfl ?_
          refine sq (q_mv rfl) rfl rfl ?_
          refine bsp (fun h18 => ?_) (fun h18 => ?_)
          · refine sskip rfl rfl ?_
            refine sskip rfl rfl ?_
            refine sq (q_pick rfl rfl) rfl rfl ?_
            refine go_nil ?_
            refine tn ?_
            refine gc_true rfl ?_
            refine gc_seq ?_
            refine gc_region ?_
            refine sq (q_as rfl) rfl rfl ?_
            refine sq (q_as rfl) rfl rfl ?_
            refine go_nil ?_
            refine tn ?_
            refine gc_ret ?_
            refine tr ?_
            refine ret_2 (.inl rfl) rfl rfl rfl ?_
            exact rsE rfl
          · refine sq (q_mv rfl) rfl rfl ?_
            refine sq (q_not rfl) rfl rfl ?_
            refine sq (q_pick rfl rfl) rfl rfl ?_
            refine go_nil ?_
            refine tn ?_
            refine gc_if rfl (fun h19 => ?_) (fun h19 => ?_)
            · refine gc_seq ?_
              refine gc_region ?_
              refine sq (q_as rfl) rfl rfl ?_
              refine sq (q_as rfl) rfl rfl ?_
              refine go_nil ?_
              refine tn ?_
              refine gc_ret ?_
              refine tr ?_
              refine ret_2 (.inl rfl) rfl rfl rfl ?_
              exact rsE rfl
            · refine gc_skip ?_
              refine tn ?_
              refine gc_seq ?_
              refine gc_seq ?_
              exfalso; simp_all
      · refine ga_new (e_alloc Tryz.zeroValue35 rfl) rfl rfl rfl (by repeat (first | exact List.nil_sublist _ | exact List.Sublist.refl _ | exact List.sublist_append_right _ _ | apply List.Sublist.cons_cons | apply List.Sublist.cons | refine List.Sublist.trans ?_ (List.sublist_append_right _ _))) fun b20 => ?_
        refine gy_1 (i := 1) (by kernel_rfl) (ga_callE (e_call (nseen_spec np p ⟨h, id, life, c, .slice ra rn rc, ins, out, down, since, found⟩ x g st b) rfl en144) rfl rfl rfl (by repeat (first | exact List.nil_sublist _ | exact List.Sublist.refl _ | exact List.sublist_append_right _ _ | apply List.Sublist.cons_cons | apply List.Sublist.cons | refine List.Sublist.trans ?_ (List.sublist_append_right _ _))) ?_)
        refine gy_1 (i := 6) (by kernel_rfl) (ga_callE (e_call (enext_spec _ _) rfl en146) rfl rfl rfl (by repeat (first | exact List.nil_sublist _ | exact List.Sublist.refl _ | exact List.sublist_append_right _ _ | apply List.Sublist.cons_cons | apply List.Sublist.cons | refine List.Sublist.trans ?_ (List.sublist_append_right _ _))) ?_)
        refine gy_1 (i := 7) (by kernel_rfl) (ga_qe (q_mv rfl) rfl rfl rfl (by repeat (first | exact List.nil_sublist _ | exact List.Sublist.refl _ | exact List.sublist_append_right _ _ | apply List.Sublist.cons_cons | apply List.Sublist.cons | refine List.Sublist.trans ?_ (List.sublist_append_right _ _))) ?_)
        refine gy_q (i := 8) (q_ext rfl rfl) rfl rfl rfl (by kernel_rfl) (by kernel_rfl) ?_
        refine gy_q (i := 9) (q_ext rfl rfl) rfl rfl rfl (by kernel_rfl) (by kernel_rfl) ?_
        refine gy_1 (i := 11) (by kernel_rfl) (ga_st (e_st rfl rfl Tryz.sizeOf35 rfl rfl rfl rfl) rfl rfl rfl (by repeat (first | exact List.nil_sublist _ | exact List.Sublist.refl _ | exact List.sublist_append_right _ _ | apply List.Sublist.cons_cons | apply List.Sublist.cons | refine List.Sublist.trans ?_ (List.sublist_append_right _ _))) ?_)
        refine gy_1 (i := 12) (by kernel_rfl) (ga_qe (q_as rfl) rfl rfl rfl (by repeat (first | exact List.nil_sublist _ | exact List.Sublist.refl _ | exact List.sublist_append_right _ _ | apply List.Sublist.cons_cons | apply List.Sublist.cons | refine List.Sublist.trans ?_ (List.sublist_append_right _ _))) ?_)
        refine gy_nil (by kernel_rfl) ?_
        refine tn ?_
        refine gc_seq ?_
        refine gc_seq ?_
        refine gc_region ?_
        refine sq (q_lda rfl Tryz.isAgg242 Tryz.sizeOf242 rfl) rfl rfl ?_
        refine s_callE (e_call (shouldNo_spec _ _ (by assumption) hl _ _ _ _ _ _ ra rn rc hc hf h0 h1) rfl en147) rfl rfl ?_
        refine sq (q_not rfl) rfl rfl ?_
        refine sq (q_mv rfl) rfl rfl ?_
        refine bsp (fun h21 => ?_) (fun h21 => ?_)
        · refine sskip rfl rfl ?_
          refine sskip rfl rfl ?_
          refine sq (q_pick rfl rfl) rfl rfl ?_
          refine go_nil ?_
          refine tn ?_
          refine gc_true rfl ?_
          refine gc_seq ?_
          refine gc_region ?_
          refine sq (q_as rfl) rfl rfl ?_
          refine sq (q_as rfl) rfl rfl ?_
          refine go_nil ?_
          refine tn ?_
          refine gc_ret ?_
          refine tr ?_
          refine ret_2 (.inl rfl) rfl rfl rfl ?_
          exact rsE rfl
        · refine sq (q_mv rfl) rfl rfl ?_
          refine sq (q_not rfl) rfl rfl ?_
          refine sq (q_pick rfl rfl) rfl rfl ?_
          refine go_nil ?_
          refine tn ?_
          refine gc_if rfl (fun h22 => ?_) (fun h22 => ?_)
          · refine gc_seq ?_
            refine gc_region ?_
            refine sq (q_as rfl) rfl rfl ?_
            refine sq (q_as rfl) rfl rfl ?_
            refine go_nil ?_
            refine tn ?_
            refine gc_ret ?_
            refine tr ?_
            refine ret_2 (.inl rfl) rfl rfl rfl ?_
            exact rsE rfl
          · refine gc_skip ?_
            refine tn ?_
            refine gc_seq ?_
            refine gc_seq ?_
            exfalso; simp_all
  · refine ga_new (e_alloc Tryz.zeroValue242 rfl) rfl rfl rfl (by repeat (first | exact List.nil_sublist _ | exact List.Sublist.refl _ | exact List.sublist_append_right _ _ | apply List.Sublist.cons_cons | apply List.Sublist.cons | refine List.Sublist.trans ?_ (List.sublist_append_right _ _))) fun b23 => ?_
    refine gy_1 (i := 14) (by kernel_rfl) (ga_callE (e_call (nin_spec np p ⟨h, id, life, c, .slice ra rn rc, ins, out, down, since, found⟩ g) rfl en145) rfl rfl rfl (by repeat (first | exact List.nil_sublist _ | exact List.Sublist.refl _ | exact List.sublist_append_right _ _ | apply List.Sublist.cons_cons | apply List.Sublist.cons | refine List.Sublist.trans ?_ (List.sublist_append_right _ _))) ?_)
    refine gy_1 (i := 19) (by kernel_rfl) (ga_call (e_call (alive_spec p.l x) rfl en59) rfl rfl rfl (by repeat (first | exact List.nil_sublist _ | exact List.Sublist.refl _ | exact List.sublist_append_right _ _ | apply List.Sublist.cons_cons | apply List.Sublist.cons | refine List.Sublist.trans ?_ (List.sublist_append_right _ _))) ?_)
    rintro _ _ ⟨s24, hs24, rfl, rfl⟩
    refine gy_1 (i := 32) (by kernel_rfl) (ga_qe (q_bld rfl Tryz.runUnderlying242 Tryz.zeroValue242 rfl pl242 rfl) rfl rfl rfl (by repeat (first | exact List.nil_sublist _ | exact List.Sublist.refl _ | exact List.sublist_append_right _ _ | apply List.Sublist.cons_cons | apply List.Sublist.cons | refine List.Sublist.trans ?_ (List.sublist_append_right _ _))) ?_)
    refine gy_1 (i := 34) (by kernel_rfl) (ga_st (e_st rfl rfl Tryz.sizeOf242 rfl rfl rfl rfl) rfl rfl rfl (by repeat (first | exact List.nil_sublist _ | exact List.Sublist.refl _ | exact List.sublist_append_right _ _ | apply List.Sublist.cons_cons | apply List.Sublist.cons | refine List.Sublist.trans ?_ (List.sublist_append_right _ _))) ?_)
    refine gy_nil (by kernel_rfl) ?_
    refine tn ?_
    refine gc_seq ?_
    refine gc_drawY mixed (List.Sublist.refl _) ?_
    refine gy_q (i := 0) (q_mv rfl) rfl rfl rfl (by kernel_rfl) (by kernel_rfl) ?_
    refine gy_q (i := 2) (q_mv rfl) rfl rfl rfl (by kernel_rfl) (by kernel_rfl) ?_
    refine gy_q (i := 3) (q_nc rfl) rfl rfl rfl (by kernel_rfl) (by kernel_rfl) ?_
    refine gy_q (i := 4) (q_fa rfl Tryz.runUnderlying129 rfl Tryz.sizeOf3) rfl rfl rfl (by kernel_rfl) (by kernel_rfl) ?_
    refine gy_q (i := 5) (q_ld rfl Tryz.isAgg3 rfl) rfl rfl rfl (by kernel_rfl) (by kernel_rfl) ?_
    refine gy_2 (i := 1) (j := 10) (by kernel_rfl) ?_ ?_
    · refine ga_callE (e_call (nseen_spec np p ⟨h, id, life, c, .slice ra rn rc, ins, out, down, since, found⟩ x g st b) rfl en144) rfl rfl rfl (by repeat (first | exact List.nil_sublist _ | exact List.Sublist.refl _ | exact List.sublist_append_right _ _ | apply List.Sublist.cons_cons | apply List.Sublist.cons | refine List.Sublist.trans ?_ (List.sublist_append_right _ _))) ?_
      refine gy_2 (i := 6) (j := 10) (by kernel_rfl) ?_ ?_
      · refine ga_callE (e_call (enext_spec _ _) rfl en146) rfl rfl rfl (by repeat (first | exact List.nil_sublist _ | exact List.Sublist.refl _ | exact List.sublist_append_right _ _ | apply List.Sublist.cons_cons | apply List.Sublist.cons | refine List.Sublist.trans ?_ (List.sublist_append_right _ _))) ?_
        refine gy_q (i := 7) (q_mv rfl) rfl rfl rfl (by kernel_rfl) (by kernel_rfl) ?_
        refine gy_q (i := 8) (q_ext rfl rfl) rfl rfl rfl (by kernel_rfl) (by kernel_rfl) ?_
        refine gy_q (i := 9) (q_ext rfl rfl) rfl rfl rfl (by kernel_rfl) (by kernel_rfl) ?_
        refine gy_1 (i := 10) (by kernel_rfl) (ga_new (e_alloc Tryz.zeroValue35 rfl) rfl rfl rfl (by repeat (first | exact List.nil_sublist _ | exact List.Sublist.refl _ | exact List.sublist_append_right _ _ | apply List.Sublist.cons_cons | apply List.Sublist.cons | refine List.Sublist.trans ?_ (List.sublist_append_right _ _))) fun b25 => ?_)
        refine gy_1 (i := 11) (by kernel_rfl) (ga_st (e_st rfl rfl Tryz.sizeOf35 rfl rfl rfl rfl) rfl rfl rfl (by repeat (first | exact List.nil_sublist _ | exact List.Sublist.refl _ | exact List.sublist_append_right _ _ | apply List.Sublist.cons_cons | apply List.Sublist.cons | refine List.Sublist.trans ?_ (List.sublist_append_right _ _))) ?_)
        refine gy_1 (i := 12) (by kernel_rfl) (ga_qe (q_as rfl) rfl rfl rfl (by repeat (first | exact List.nil_sublist _ | exact List.Sublist.refl _ | exact List.sublist_append_right _ _ | apply List.Sublist.cons_cons | apply List.Sublist.cons | refine List.Sublist.trans ?_ (List.sublist_append_right _ _))) ?_)
        refine gy_nil (by kernel_rfl) ?_
        refine tn ?_
        refine gc_seq ?_
        refine gc_seq ?_
        refine gc_region ?_
        refine sq (q_lda rfl Tryz.isAgg242 Tryz.sizeOf242 rfl) rfl rfl ?_
        refine s_callE (e_call (shouldNo_spec _ _ (by assumption) hl _ _ _ _ _ _ ra rn rc hc hf h0 h1) rfl en147) rfl rfl ?_
        refine sq (q_not rfl) rfl rfl ?_
        refine sq (q_mv rfl) rfl rfl ?_
        refine bsp (fun h26 => ?_) (fun h26 => ?_)
        · refine sskip rfl rfl ?_
          refine sskip rfl rfl ?_
          refine sq (q_pick rfl rfl) rfl rfl ?_
          refine go_nil ?_
          refine tn ?_
          refine gc_true rfl ?_
          refine gc_seq ?_
          refine gc_region ?_
          refine sq (q_as rfl) rfl rfl ?_
          refine sq (q_as rfl) rfl rfl ?_
          refine go_nil ?_
          refine tn ?_
          refine gc_ret ?_
          refine tr ?_
          refine ret_2 (.inl rfl) rfl rfl rfl ?_
          exact rsE rfl
        · refine sq (q_mv rfl) rfl rfl ?_
          refine sq (q_not rfl) rfl rfl ?_
          refine sq (q_pick rfl rfl) rfl rfl ?_
          refine go_nil ?_
          refine tn ?_
          refine gc_if rfl (fun h27 => ?_) (fun h27 => ?_)
          · refine gc_seq ?_
            refine gc_region ?_
            refine sq (q_as rfl) rfl rfl ?_
            refine sq (q_as rfl) rfl rfl ?_
            refine go_nil ?_
            refine tn ?_
            refine gc_ret ?_
            refine tr ?_
            refine ret_2 (.inl rfl) rfl rfl rfl ?_
            exact rsE rfl
          · refine gc_skip ?_
            refine tn ?_
            refine gc_seq ?_
            refine gc_seq ?_
            exfalso; simp_all
      · refine ga_new (e_alloc Tryz.zeroValue35 rfl) rfl rfl rfl (by repeat (first | exact List.nil_sublist _ | exact List.Sublist.refl _ | exact List.sublist_append_right _ _ | apply List.Sublist.cons_cons | apply List.Sublist.cons | refine List.Sublist.trans ?_ (List.sublist_append_right _ _))) fun b28 => ?_
        refine gy_1 (i := 6) (by kernel_rfl) (ga_callE (e_call (enext_spec _ _) rfl en146) rfl rfl rfl (by repeat (first | exact List.nil_sublist _ | exact List.Sublist.refl _ | exact List.sublist_append_right _ _ | apply List.Sublist.cons_cons | apply List.Sublist.cons | refine List.Sublist.trans ?_ (List.sublist_append_right _ _))) ?_)
        refine gy_1 (i := 7) (by kernel_rfl) (ga_qe (q_mv rfl) rfl rfl rfl (by repeat (first | exact List.nil_sublist _ | exact List.Sublist.refl _ | exact List.sublist_append_right _ _ | apply List.Sublist.cons_cons | apply List.Sublist.cons | refine List.Sublist.trans ?_ (List.sublist_append_right _ _))) ?_)
        refine gy_q (i := 8) (q_ext rfl rfl) rfl rfl rfl (by kernel_rfl) (by kernel_rfl) ?_
        refine gy_q (i := 9) (q_ext rfl rfl) rfl rfl rfl (by kernel_rfl) (by kernel_rfl) ?_
        refine gy_1 (i := 11) (by kernel_rfl) (ga_st (e_st rfl rfl Tryz.sizeOf35 rfl rfl rfl rfl) rfl rfl rfl (by repeat (first | exact List.nil_sublist _ | exact List.Sublist.refl _ | exact List.sublist_append_right _ _ | apply List.Sublist.cons_cons | apply List.Sublist.cons | refine List.Sublist.trans ?_ (List.sublist_append_right _ _))) ?_)
        refine gy_1 (i := 12) (by kernel_rfl) (ga_qe (q_as rfl) rfl rfl rfl (by repeat (first | exact List.nil_sublist _ | exact List.Sublist.refl _ | exact List.sublist_append_right _ _ | apply List.Sublist.cons_cons | apply List.Sublist.cons | refine List.Sublist.trans ?_ (List.sublist_append_right _ _))) ?_)
        refine gy_nil (by kernel_rfl) ?_
        refine tn ?_
        refine gc_seq ?_
        refine gc_seq ?_
        refine gc_region ?_
        refine sq (q_lda rfl Tryz.isAgg242 Tryz.sizeOf242 rfl) rfl rfl ?_
        refine s_callE (e_call (shouldNo_spec _ _ (by assumption) hl _ _ _ _ _ _ ra rn rc hc hf h0 h1) rfl en147) rfl rfl ?_
        refine sq (q_not rfl) rfl rfl ?_
        refine sq (q_mv rfl) rfl rfl ?_
        refine bsp (fun h29 => ?_) (fun h29 => ?_)
        · refine sskip rfl rfl ?_
          refine sskip rfl rfl ?_
          refine sq (q_pick rfl rfl) rfl rfl ?_
          refine go_nil ?_
          refine tn ?_
          refine gc_true rfl ?_
          refine gc_seq ?_
          refine gc_region ?_
          refine sq (q_as rfl) rfl rfl ?_
          refine sq (q_as rfl) rfl rfl ?_
          refine go_nil ?_
          refine tn ?_
          refine gc_ret ?_
          refine tr ?_
          refine ret_2 (.inl rfl) rfl rfl rfl ?_
          exact rsE rfl
        · refine sq (q_mv rfl) rfl rfl ?_
          refine sq (q_not rfl) rfl rfl ?_
          refine sq (q_pick rfl rfl) rfl rfl ?_
          refine go_nil ?_
          refine tn ?_
          refine gc_if rfl (fun h30 => ?_) (fun h30 => ?_)
          · refine gc_seq ?_
            refine gc_region ?_
            refine sq (q_as rfl) rfl rfl ?_
            refine sq (q_as rfl) rfl rfl ?_
            refine go_nil ?_
            refine tn ?_
            refine gc_ret ?_
            refine tr ?_
            refine ret_2 (.inl rfl) rfl rfl rfl ?_
            exact rsE rfl
          · refine gc_skip ?_
            refine tn ?_
            refine gc_seq ?_
            refine gc_seq ?_
            exfalso; simp_all
    · refine ga_new (e_alloc Tryz.zeroValue35 rfl) rfl rfl rfl (by repeat (first | exact List.nil_sublist _ | exact List.Sublist.refl _ | exact List.sublist_append_right _ _ | apply List.Sublist.cons_cons | apply List.Sublist.cons | refine List.Sublist.trans ?_ (List.sublist_append_right _ _))) fun b31 => ?_
      refine gy_1 (i := 1) (by kernel_rfl) (ga_callE (e_call (nseen_spec np p ⟨h, id, life, c, .slice ra rn rc, ins, out, down, since, found⟩ x g st b) rfl en144) rfl rfl rfl (by repeat (first | exact List.nil_sublist _ | exact List.Sublist.refl _ | exact List.sublist_append_right _ _ | apply List.Sublist.cons_cons | apply List.Sublist.cons | refine List.Sublist.trans ?_ (List.sublist_append_right _ _))) ?_)
      refine gy_1 (i := 6) (by kernel_rfl) (ga_callE (e_call (enext_spec _ _) rfl en146) rfl rfl rfl (by repeat (first | exact List.nil_sublist _ | exact List.Sublist.refl _ | exact List.sublist_append_right _ _ | apply List.Sublist.cons_cons | apply List.Sublist.cons | refine List.Sublist.trans ?_ (List.sublist_append_right _ _))) ?_)
      refine gy_1 (i := 7) (by kernel_rfl) (ga_qe (q_mv rfl) rfl rfl rfl (by repeat (first | exact List.nil_sublist _ | exact List.Sublist.refl _ | exact List.sublist_append_right _ _ | apply List.Sublist.cons_cons | apply List.Sublist.cons | refine List.Sublist.trans ?_ (List.sublist_append_right _ _))) ?_)
      refine gy_q (i := 8) (q_ext rfl rfl) rfl rfl rfl (by kernel_rfl) (by kernel_rfl) ?_
      refine gy_q (i := 9) (q_ext rfl rfl) rfl rfl rfl (by kernel_rfl) (by kernel_rfl) ?_
      refine gy_1 (i := 11) (by kernel_rfl) (ga_st (e_st rfl rfl Tryz.sizeOf35 rfl rfl rfl rfl) rfl rfl rfl (by repeat (first | exact List.nil_sublist _ | exact List.Sublist.refl _ | exact List.sublist_append_right _ _ | apply List.Sublist.cons_cons | apply List.Sublist.cons | refine List.Sublist.trans ?_ (List.sublist_append_right _ _))) ?_)
      refine gy_1 (i := 12) (by kernel_rfl) (ga_qe (q_as rfl) rfl rfl rfl (by repeat (first | exact List.nil_sublist _ | exact List.Sublist.refl _ | exact List.sublist_append_right _ _ | apply List.Sublist.cons_cons | apply List.Sublist.cons | refine List.Sublist.trans ?_ (List.sublist_append_right _ _))) ?_)
      refine gy_nil (by kernel_rfl) ?_
      refine tn ?_
      refine gc_seq ?_
      refine gc_seq ?_
      refine gc_region ?_
      refine sq (q_lda rfl Tryz.isAgg242 Tryz.sizeOf242 rfl) rfl rfl ?_
      refine s_callE (e_call (shouldNo_spec _ _ (by assumption) hl _ _ _ _ _ _ ra rn rc hc hf h0 h1) rfl en147) rfl rfl ?_
      refine sq (q_not rfl) rfl rfl ?_
      refine sq (q_mv rfl) rfl rfl ?_
      refine bsp (fun h32 => ?_) (fun h32 => ?_)
      · refine sskip rfl rfl ?_
        refine sskip rfl rfl ?_
        refine sq (q_pick rfl rfl) rfl rfl ?_
        refine go_nil ?_
        refine tn ?_
        refine gc_true rfl ?_
        refine gc_seq ?_
        refine gc_region ?_
        refine sq (q_as rfl) rfl rfl ?_
        refine sq (q_as rfl) rfl rfl ?_
        refine go_nil ?_
        refine tn ?_
        refine gc_ret ?_
        refine tr ?_
        refine ret_2 (.inl rfl) rfl rfl rfl ?_
        exact rsE rfl
      · refine sq (q_mv rfl) rfl rfl ?_
        refine sq (q_not rfl) rfl rfl ?_
        refine sq (q_pick rfl rfl) rfl rfl ?_
        refine go_nil ?_
        refine tn ?_
        refine gc_if rfl (fun h33 => ?_) (fun h33 => ?_)
        · refine gc_seq ?_
          refine gc_region ?_
          refine sq (q_as rfl) rfl rfl ?_
          refine sq (q_as rfl) rfl rfl ?_
          refine go_nil ?_
          refine tn ?_
          refine gc_ret ?_
          refine tr ?_
          refine ret_2 (.inl rfl) rfl rfl rfl ?_
          exact rsE rfl
        · refine gc_skip ?_
          refine tn ?_
          refine gc_seq ?_
          refine gc_seq ?_
          exfalso; simp_all
end Go.LL
