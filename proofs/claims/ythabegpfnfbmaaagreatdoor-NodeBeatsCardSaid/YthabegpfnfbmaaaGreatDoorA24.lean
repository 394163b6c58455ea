/- Part of a claim: contracts of the program's functions, walked op by op. -/
import Derived.Test.YthabegpfnfbmaaaGreatDoorA23
set_option linter.unusedSimpArgs false
set_option linter.unusedVariables false
namespace Go.LL
open Go.Proofs
theorem tkn_app : ∀ (xs ys : List Value), tkn (xs ++ ys) xs.length = some xs
  | [], ys => by cases ys <;> rfl
  | x :: xs, ys => by simp only [List.cons_append, List.length_cons, tkn, tkn_app xs ys]
theorem slc_zero (l : List Value) (n : Nat) : slc l 0 n = tkn l n := by cases l <;> rfl
theorem slc_app : ∀ (xs ys : List Value) (k n : Nat), slc (xs ++ ys) (xs.length + k) n = slc ys k n
  | [], ys, k, n => by simp
  | x :: xs, ys, k, n => by
    rw [List.length_cons, show xs.length + 1 + k = (xs.length + k) + 1 by omega, List.cons_append, slc, slc_app xs ys k n]
theorem slc_flat {α : Type} (c : α → List Value) (n : Nat) (hc : ∀ a, (c a).length = n) : ∀ (l : List α) (k : Nat) (a : α), l[k]? = some a → slc (l.flatMap c) (k * n) n = some (c a)
  | [], k, a, h => by simp at h
  | x :: l, 0, a, h => by
    simp only [List.getElem?_cons_zero, Option.some.injEq] at h
    subst h
    rw [Nat.zero_mul, slc_zero, List.flatMap_cons, ← hc x, tkn_app]
  | x :: l, k + 1, a, h => by
    rw [List.flatMap_cons, show (k + 1) * n = (c x).length + k * n by rw [hc x, Nat.add_mul]; omega, slc_app]
    exact slc_flat c n hc l k a (by simpa using h)
theorem beats_n {id life seen : Int} {out : Bool} (h : 0 ≤ id) : ∀ k : Nat, ((beatsTo id life seen out k).length : Int) = k - (if id < k then 1 else 0)
  | 0 => by rw [if_neg (by omega)]; rfl
  | k + 1 => by
    have ih := beats_n (life := life) (seen := seen) (out := out) h k
    by_cases e : (k : Int) = id
    · rw [beats_no e, ih, if_neg (by omega), if_pos (by omega)]; omega
    · rw [beats_yes e, List.length_append]
      simp only [List.length_singleton, Int.natCast_add]
      rw [ih]
      by_cases l : id < (k : Int)
      · rw [if_pos l, if_pos (by omega)]; omega
      · rw [if_neg l, if_neg (by omega)]; omega
theorem beats_at {id life seen : Int} {out : Bool} (h : 0 ≤ id) : ∀ (k i : Nat), i < k → (i : Int) ≠ id → (beatsTo id life seen out k)[((i : Int) - (if id < (i : Int) then 1 else 0)).toNat]? = some ⟨id, i, life, seen, out⟩
  | 0, i, hi, _ => by omega
  | k + 1, i, hi, hne => by
    have hn := beats_n (life := life) (seen := seen) (out := out) h k
    by_cases e : (k : Int) = id
    · rw [beats_no e]; exact beats_at h k i (by omega) hne
    · rw [beats_yes e]
      by_cases l : i < k
      · have ih := beats_at (life := life) (seen := seen) (out := out) h k i l hne
        rw [List.getElem?_append_left (List.getElem?_eq_some_iff.1 ih).1]; exact ih
      · have : i = k := by omega
        subst this
        have hx : ((i : Int) - (if id < (i : Int) then 1 else 0)).toNat = (beatsTo id life seen out i).length := by omega
        rw [hx, List.getElem?_append_right (Nat.le_refl _), Nat.sub_self]; rfl
theorem beats_slc {id life seen n i : Int} {out : Bool} (h : 0 ≤ id) (hi : 0 ≤ i) (hn : i < n) (hne : i ≠ id) :
    slc ((beatsTo id life seen out n.toNat).flatMap Beat.c) ((i - (if id < i then 1 else 0)).toNat * 11) 11 = some (Beat.c ⟨id, i, life, seen, out⟩) := by
  have e : ((i.toNat : Nat) : Int) = i := by omega
  have hb := beats_at (life := life) (seen := seen) (out := out) h n.toNat i.toNat (by omega) (by omega)
  rw [e] at hb
  exact slc_flat Beat.c 11 (fun _ => rfl) _ _ _ hb
theorem number_eq {n k r : Int} (hr : r = numM n k) (h : 0 < k) (hk : k ≤ 1000000) : Spec Tryz.prog 9 [i6 n, i6 k] [] [] (fun v L => v = i6 r ∧ L = []) := by subst hr; exact numW_spec n k h hk
theorem noIns_to : insTo noIns 64 = [] := by kernel_rfl
theorem tick0 {c : Int} (h : 2 ≤ c ∧ c ≤ 6) : ((carStart ⟨c, 4, 2, 1⟩ 0).1.tick ⟨c, 4, 2, 1⟩ (Stops.mk (ofF (insTo noIns 64) 0#64) 0#64 0#64) false).2.opened = false ∧
    (Door.mk ((carStart ⟨c, 4, 2, 1⟩ 0).1.tick ⟨c, 4, 2, 1⟩ (Stops.mk (ofF (insTo noIns 64) 0#64) 0#64 0#64) false).1.s.door ((carStart ⟨c, 4, 2, 1⟩ 0).1.tick ⟨c, 4, 2, 1⟩ (Stops.mk (ofF (insTo noIns 64) 0#64) 0#64 0#64) false).1.held).stuck 1 = false := by
  rcases (by omega : c = 2 ∨ c = 3 ∨ c = 4 ∨ c = 5 ∨ c = 6) with rfl | rfl | rfl | rfl | rfl <;> exact ⟨by kernel_rfl, by kernel_rfl⟩
theorem alive_le (x : Tab) : x.alive.length ≤ 16 := aliveTo_len x.t 16
theorem setA_le (x : Tab) (i : Int) : (setL (x.alive ++ [i])).length ≤ 1000 := Nat.le_trans (setL_le _) (by have := alive_le x; rw [List.length_append]; simp only [List.length_singleton]; omega)
theorem setA_pos (x : Tab) (i : Int) : 0 < (setL (x.alive ++ [i])).length := setL_pos (by simp)
abbrev x1 (h : House) (I F seen : Int) (out : Bool) : Tab := hearB (nm0 h I 0) Tab.new ⟨F, I, 3, seen, out⟩
theorem x1_same {h : House} {I seen : Int} {out : Bool} : x1 h I I seen out = Tab.new := by unfold x1 hearB; rw [if_pos (by simp)]
theorem x1_other {h : House} {I F seen : Int} {out : Bool} (hF : 0 ≤ F ∧ F < 16) (hI : 0 ≤ I ∧ I < 16) (hs : 0 ≤ seen ∧ seen ≤ 281474976710655) (hne : F ≠ I) : x1 h I F seen out = ⟨setT Tab.new.t F.toNat ⟨true, true, out, 3, 0⟩, seen⟩ := by
  unfold x1 hearB
  have he : (Beat.mk F I 3 seen out).err = none := by unfold Beat.err; rw [if_pos ⟨hF, hI, by simp, hs⟩]
  rw [if_neg (by rw [he]; simp [hne])]
  unfold Tab.hear
  rw [if_neg (by simp [lcar, hF.1, hF.2, One.none]; omega)]
  simp only [Tab.mk.injEq, true_and]
  show max (0 : Int) seen = seen
  omega
theorem x1_alive {h : House} {I F seen : Int} {out : Bool} (hF : 0 ≤ F ∧ F < 6) (hI : 0 ≤ I ∧ I < 16) (hs : 0 ≤ seen ∧ seen ≤ 281474976710655) : (x1 h I F seen out).alive.length = if F ≠ I ∧ out = false then 1 else 0 := by
  by_cases e : F = I
  · subst e; rw [x1_same, if_neg (by simp)]; kernel_rfl
  · rw [x1_other (by omega) hI hs e]
    cases out
    · rw [if_pos ⟨e, rfl⟩]
      rcases (by omega : F = 0 ∨ F = 1 ∨ F = 2 ∨ F = 3 ∨ F = 4 ∨ F = 5) with rfl | rfl | rfl | rfl | rfl | rfl <;> rfl
    · rw [if_neg (by simp)]
      rcases (by omega : F = 0 ∨ F = 1 ∨ F = 2 ∨ F = 3 ∨ F = 4 ∨ F = 5) with rfl | rfl | rfl | rfl | rfl | rfl <;> rfl
theorem al_bad {n : Nat} {F I : Int} {out : Bool} (hal : n = if F ≠ I ∧ out = false then 1 else 0) (hne : F ≠ I) : ¬ (!(decide ((n : Int) = 1) == !out)) = true := by cases out <;> simp [hal, hne]
theorem x1_seen {h : House} {I F seen : Int} {out : Bool} (hF : 0 ≤ F ∧ F < 16) (hI : 0 ≤ I ∧ I < 16) (hs : 0 ≤ seen ∧ seen ≤ 281474976710655) : seenN ⟨0, 1, 0⟩ (x1 h I F seen out).tick ⟨⟨0, 0⟩, 0, 0⟩ = if F = I then 0 else seen := by
  by_cases e : F = I
  · subst e; rw [x1_same, if_pos rfl]; kernel_rfl
  · rw [x1_other hF hI hs e, if_neg e]
    show max (max (0 : Int) seen) 0 = seen
    omega

set_option maxRecDepth 4000 in
set_option maxHeartbeats 2000000 in
theorem first_spec (ε : Nat → Nat × Value)  :
    Spec Tryz.prog 8 [] [] (ro ε) (fun v L => v = .bool true ∧ L = []) := by
  refine spec_of Tryz.func8 rfl Tryz.ntmps8 (by simp) fun w0 hb => ?_
  refine gc_seq ?_
  refine gc_region ?_
  refine sq (q_as rfl) rfl rfl ?_
  refine go_nil ?_
  refine tn ?_
  refine gc_seq ?_
  refine gc_region ?_
  refine s_call (e_call (cnew_spec) rfl en14) rfl rfl ?_
  rintro _ _ ⟨cb, cq, rfl, rfl⟩
  refine app2 ?_
  refine sq (q_mv rfl) rfl rfl ?_
  refine sq (q_ext rfl rfl) rfl rfl ?_
  refine sq (q_ext rfl rfl) rfl rfl ?_
  refine sq (q_as rfl) rfl rfl ?_
  refine sq (q_as rfl) rfl rfl ?_
  refine go_nil ?_
  refine tn ?_
  refine gc_seq ?_
  refine gc_region ?_
  refine s_call (e_call (rnew_spec 3 (by omega)) rfl en15) rfl rfl ?_
  rintro _ _ ⟨rb, rg, rl, rfl, rfl⟩
  refine app3 ?_
  refine sq (q_mv rfl) rfl rfl ?_
  refine sq (q_ext rfl rfl) rfl rfl ?_
  refine sq (q_ext rfl rfl) rfl rfl ?_
  refine sq (q_as rfl) rfl rfl ?_
  refine sq (q_as rfl) rfl rfl ?_
  refine go_nil ?_
  refine tn ?_
  refine gc_seq ?_
  refine gc_seq ?_
  refine gc_region ?_
  refine sq (q_mv rfl) rfl rfl ?_
  refine sq (q_pnil_eql rfl rfl Tryz.underlying45) rfl rfl ?_
  refine sq (q_mv rfl) rfl rfl ?_
  refine bsp (fun h3 => ?_) (fun h3 => ?_)
  · refine sskip rfl rfl ?_
    refine sskip rfl rfl ?_
    refine sq (q_pick rfl rfl) rfl rfl ?_
    refine sq (q_mv rfl) rfl rfl ?_
    refine sskip rfl rfl ?_
    refine sskip rfl rfl ?_
    refine sq (q_pick rfl rfl) rfl rfl ?_
    refine sq (q_mv rfl) rfl rfl ?_
    refine sskip rfl rfl ?_
    refine sskip rfl rfl ?_
    refine sq (q_pick rfl rfl) rfl rfl ?_
    refine go_nil ?_
    refine tn ?_
    refine gc_true rfl ?_
    refine gc_seq ?_
    exfalso; simp_all
  · refine sq (q_mv rfl) rfl rfl ?_
    refine sq (q_pnil_eql rfl rfl Tryz.underlying25) rfl rfl ?_
    refine sq (q_pick rfl rfl) rfl rfl ?_
    refine sq (q_mv rfl) rfl rfl ?_
    refine bsp (fun h4 => ?_) (fun h4 => ?_)
    · refine sskip rfl rfl ?_
      refine sskip rfl rfl ?_
      refine sq (q_pick rfl rfl) rfl rfl ?_
      refine sq (q_mv rfl) rfl rfl ?_
      refine sskip rfl rfl ?_
      refine sskip rfl rfl ?_
      refine sq (q_pick rfl rfl) rfl rfl ?_
      refine go_nil ?_
      refine tn ?_
      refine gc_true rfl ?_
      refine gc_seq ?_
      exfalso; simp_all
    · refine sq (q_mv rfl) rfl rfl ?_
      refine sq (q_inil_neq (q := none) rfl rfl Tryz.underlying47) rfl rfl ?_
      refine sq (q_pick rfl rfl) rfl rfl ?_
      refine sq (q_mv rfl) rfl rfl ?_
      refine bsp (fun h5 => ?_) (fun h5 => ?_)
      · refine sskip rfl rfl ?_
        refine sskip rfl rfl ?_
        refine sq (q_pick rfl rfl) rfl rfl ?_
        refine go_nil ?_
        refine tn ?_
        refine gc_true rfl ?_
        refine gc_seq ?_
        exfalso; simp_all
      · refine sq (q_mv rfl) rfl rfl ?_
        refine sq (q_inil_neq (q := none) rfl rfl Tryz.underlying47) rfl rfl ?_
        refine sq (q_pick rfl rfl) rfl rfl ?_
        refine go_nil ?_
        refine tn ?_
        refine gc_if rfl (fun h6 => ?_) (fun h6 => ?_)
        · refine gc_seq ?_
          exfalso; simp_all
        · refine gc_skip ?_
          refine tn ?_
          refine gc_seq ?_
          refine gc_region ?_
          refine sq (q_bld rfl Tryz.runUnderlying29 Tryz.zeroValue29 rfl pl29 rfl) rfl rfl ?_
          refine sq (q_mv rfl) rfl rfl ?_
          refine s_call (e_call (nodeNew_ok ε ⟨3, 3, 1, 1⟩ 1 0 cb cq 26 c0 rfl c0_OK (by kernel_rfl) (by decide) c0_open c0_save) rfl en19) rfl rfl ?_
          rintro _ _ ⟨nn, pp, eb, rfl, rfl⟩
          refine app8 ?_
          rw [c0_life, c0_gate, c0_st]
          refine sq (q_mv rfl) rfl rfl ?_
          refine sq (q_ext rfl rfl) rfl rfl ?_
          refine sq (q_ext rfl rfl) rfl rfl ?_
          refine sq (q_ext rfl rfl) rfl rfl ?_
          refine sq (q_as rfl) rfl rfl ?_
          refine sq (q_as rfl) rfl rfl ?_
          refine sq (q_as rfl) rfl rfl ?_
          refine go_nil ?_
          refine tn ?_
          refine gc_seq ?_
          refine gc_seq ?_
          refine gc_region ?_
          refine sq (q_mv rfl) rfl rfl ?_
          refine sq (q_pnil_eql rfl rfl Tryz.underlying24) rfl rfl ?_
          refine sq (q_mv rfl) rfl rfl ?_
          refine bsp (fun h8 => ?_) (fun h8 => ?_)
          · refine sskip rfl rfl ?_
            refine sskip rfl rfl ?_
            refine sq (q_pick rfl rfl) rfl rfl ?_
            refine sq (q_mv rfl) rfl rfl ?_
            refine sskip rfl rfl ?_
            refine sskip rfl rfl ?_
            refine sskip rfl rfl ?_
            refine sq (q_pick rfl rfl) rfl rfl ?_
            refine go_nil ?_
            refine tn ?_
            refine gc_true rfl ?_
            refine gc_seq ?_
            exfalso; simp_all
          · refine sq (q_mv rfl) rfl rfl ?_
            refine sq (q_inil_neq (q := none) rfl rfl Tryz.underlying47) rfl rfl ?_
            refine sq (q_pick rfl rfl) rfl rfl ?_
            refine sq (q_mv rfl) rfl rfl ?_
            refine bsp (fun h9 => ?_) (fun h9 => ?_)
            · refine sskip rfl rfl ?_
              refine sskip rfl rfl ?_
              refine sskip rfl rfl ?_
              refine sq (q_pick rfl rfl) rfl rfl ?_
              refine go_nil ?_
              refine tn ?_
              refine gc_true rfl ?_
              refine gc_seq ?_
              exfalso; simp_all
            · refine sq (q_mv rfl) rfl rfl ?_
              refine sq (q_lenS Tryz.runUnderlying31 rfl) rfl rfl ?_
              refine sq (q_neq rfl rfl) rfl rfl ?_
              refine sq (q_pick rfl rfl) rfl rfl ?_
              refine go_nil ?_
              refine tn ?_
              refine gc_if rfl (fun h10 => ?_) (fun h10 => ?_)
              · refine gc_seq ?_
                exfalso; simp_all
              · refine gc_skip ?_
                refine tn ?_
                refine gc_seq ?_
                refine gc_region ?_
                refine sq (q_mv rfl) rfl rfl ?_
                refine sq (q_mv rfl) rfl rfl ?_
                refine s_call (e_call (tickQ_spec nn pp (nm0 ⟨3, 3, 1, 1⟩ 1 0) Tab.new ⟨⟨0, 0⟩, 0, 0⟩ ⟨0, 1, 0⟩ cb (pt rb) false none 0 0 rfl rfl rfl (by kernel_rfl) (by kernel_rfl) (by show (0 : Int) ≤ 3 ∧ (3 : Int) ≤ 16; omega) (Int.le_of_sub_nonneg (by decide +kernel)) (Nat.le_trans (alive_le _) (by decide)) (setA_pos _ _) (setA_le _ _)) rfl en13) rfl rfl ?_
                rintro _ _ ⟨fs, es, hfs, hes, rfl, rfl⟩
                refine app2s ?_
                have hn2 : fs.n = 2 := hfs.n.trans (by kernel_rfl)
                have hx0 : nth fs.xs ((0 : Int).toNat * 11 + 2) = some (i6 0) := by rw [hfs.xs]; kernel_rfl
                have hx1 : nth fs.xs ((1 : Int).toNat * 11 + 2) = some (i6 2) := by rw [hfs.xs]; kernel_rfl
                refine sq (q_mv rfl) rfl rfl ?_
                refine sq (q_ext rfl rfl) rfl rfl ?_
                refine sq (q_ext rfl rfl) rfl rfl ?_
                refine sq (q_as rfl) rfl rfl ?_
                refine sq (q_as rfl) rfl rfl ?_
                refine go_nil ?_
                refine tn ?_
                refine gc_seq ?_
                refine gc_region ?_
                refine sq (q_mv rfl) rfl rfl ?_
                refine sq (q_lenS Tryz.runUnderlying30 rfl) rfl rfl ?_
                refine sq (OpQ.cast (q_eql rfl rfl) (by rw [hn2]; rfl : _ = Value.bool true)) rfl rfl ?_
                refine sq (q_mv rfl) rfl rfl ?_
                refine sq (q_mv rfl) rfl rfl ?_
                refine sq (q_iaSl (sl := fs) hfs.ok rfl rfl Tryz.runUnderlying30 Tryz.sizeOf41 (by rw [hn2]; decide)) rfl rfl ?_
                refine sq (q_fa rfl Tryz.runUnderlying41 rfl Tryz.sizeOf3) rfl rfl ?_
                refine sq (q_ldSl (sl := fs) (e := 41) hfs.ok rfl Tryz.isAgg3 hx0) rfl rfl ?_
                refine sq (OpQ.cast (q_eql rfl rfl) (by rfl : _ = Value.bool true)) rfl rfl ?_
                refine sq (q_pick rfl rfl) rfl rfl ?_
                refine sq (q_mv rfl) rfl rfl ?_
                refine sq (q_mv rfl) rfl rfl ?_
                refine sq (q_iaSl (sl := fs) hfs.ok rfl rfl Tryz.runUnderlying30 Tryz.sizeOf41 (by rw [hn2]; decide)) rfl rfl ?_
                refine sq (q_fa rfl Tryz.runUnderlying41 rfl Tryz.sizeOf3) rfl rfl ?_
                refine sq (q_ldSl (sl := fs) (e := 41) hfs.ok rfl Tryz.isAgg3 hx1) rfl rfl ?_
                refine sq (OpQ.cast (q_eql rfl rfl) (by rfl : _ = Value.bool true)) rfl rfl ?_
                refine sq (q_pick rfl rfl) rfl rfl ?_
                refine sq (q_mv rfl) rfl rfl ?_
                refine sq (q_mv rfl) rfl rfl ?_
                refine s_callE (e_call (life_spec nn pp { (nm0 ⟨3, 3, 1, 1⟩ 1 0) with c := ((nm0 ⟨3, 3, 1, 1⟩ 1 0).c.tick (nm0 ⟨3, 3, 1, 1⟩ 1 0).h (Stops.mk (ofF (insTo (nm0 ⟨3, 3, 1, 1⟩ 1 0).ins 64) 0#64) 0#64 0#64) false).1, since := w64 ((nm0 ⟨3, 3, 1, 1⟩ 1 0).since + 1), found := w64 ((nm0 ⟨3, 3, 1, 1⟩ 1 0).found + 1) }) rfl en21) rfl rfl ?_
                refine sq (OpQ.cast (q_eql rfl rfl) (by rfl : _ = Value.bool true)) rfl rfl ?_
                refine sq (q_pick rfl rfl) rfl rfl ?_
                refine sq (q_as rfl) rfl rfl ?_
                refine go_nil ?_
                refine tn ?_
                refine gc_ret ?_
                refine ret_1 (.inl rfl) rfl rfl ?_
                exact rsE rfl

set_option maxRecDepth 4000 in
set_option maxHeartbeats 2000000 in
theorem nodeBeats_spec (ε : Nat → Nat × Value) (cars id frm seen : Int) (out : Bool) :
    Spec Tryz.prog 3 [i6 cars, i6 id, i6 frm, i6 seen, .bool out] [] (ro ε) (fun v L => v = .bool true ∧ L = []) := by
  obtain ⟨C, hC⟩ : ∃ C, C = numM cars 5 + 2 := ⟨_, rfl⟩
  obtain ⟨I, hI0⟩ : ∃ I, I = numM id C := ⟨_, rfl⟩
  obtain ⟨F, hF0⟩ : ∃ F, F = numM frm C := ⟨_, rfl⟩
  obtain ⟨W, hW⟩ : ∃ W, W = if F = I then 0 else seen := ⟨_, rfl⟩
  have bC : 2 ≤ C ∧ C ≤ 6 := by have := numM_b cars (k := 5) (by omega); omega
  have bI : 0 ≤ I ∧ I < C := by have := numM_b id (k := C) (by omega); omega
  have bF : 0 ≤ F ∧ F < C := by have := numM_b frm (k := C) (by omega); omega
  have hT := tick0 bC
  have hok : House.ok ⟨C, 4, 2, 1⟩ = true := by simp [House.ok]; omega
  refine spec_of Tryz.func3 rfl Tryz.ntmps3 (by simp) fun w0 hb => ?_
  refine gc_seq ?_
  refine gc_region ?_
  refine sq (q_as rfl) rfl rfl ?_
  refine go_nil ?_
  refine tn ?_
  refine gc_seq ?_
  refine gc_region ?_
  refine s_callE (e_call (first_spec ε) rfl en8) rfl rfl ?_
  refine sq (q_as rfl) rfl rfl ?_
  refine go_nil ?_
  refine tn ?_
  refine gc_seq ?_
  refine gc_seq ?_
  refine gc_region ?_
  refine sq (q_mv rfl) rfl rfl ?_
  refine sq (q_not rfl) rfl rfl ?_
  refine go_nil ?_
  refine tn ?_
  refine gc_if rfl (fun h1 => ?_) (fun h1 => ?_)
  · refine gc_seq ?_
    exfalso; simp_all
  · refine gc_skip ?_
    refine tn ?_
    refine gc_seq ?_
    refine gc_region ?_
    refine sq (q_mv rfl) rfl rfl ?_
    refine s_callE (e_call (numW_spec cars 5 (by omega) (by omega)) rfl en9) rfl rfl ?_
    refine sq (OpQ.cast (q_addi rfl rfl (by have := numM_b cars (k := 5) (by omega); omega)) (by rw [hC] : _ = i6 C)) rfl rfl ?_
    refine sq (q_as rfl) rfl rfl ?_
    refine go_nil ?_
    refine tn ?_
    refine gc_seq ?_
    refine gc_region ?_
    refine sq (q_mv rfl) rfl rfl ?_
    refine sq (q_mv rfl) rfl rfl ?_
    refine s_callE (e_call (number_eq hI0 (by omega) (by omega)) rfl en9) rfl rfl ?_
    refine sq (q_as rfl) rfl rfl ?_
    refine go_nil ?_
    refine tn ?_
    refine gc_seq ?_
    refine gc_region ?_
    refine sq (q_mv rfl) rfl rfl ?_
    refine sq (q_mv rfl) rfl rfl ?_
    refine s_callE (e_call (number_eq hF0 (by omega) (by omega)) rfl en9) rfl rfl ?_
    refine sq (q_as rfl) rfl rfl ?_
    refine go_nil ?_
    refine tn ?_
    refine gc_seq ?_
    refine gc_seq ?_
    refine gc_region ?_
    refine sq (q_mv rfl) rfl rfl ?_
    refine sq (q_lss rfl rfl) rfl rfl ?_
    refine sq (q_mv rfl) rfl rfl ?_
    refine bsp (fun h2 => ?_) (fun h2 => ?_)
    · refine sskip rfl rfl ?_
      refine sskip rfl rfl ?_
      refine sq (q_pick rfl rfl) rfl rfl ?_
      refine go_nil ?_
      refine tn ?_
      refine gc_true rfl ?_
      refine gc_seq ?_
      refine gc_region ?_
      refine sq (q_mv rfl) rfl rfl ?_
      refine sq (q_as rfl) rfl rfl ?_
      refine go_nil ?_
      refine tn ?_
      refine gc_ret ?_
      refine tr ?_
      refine ret_1 (.inl rfl) rfl rfl ?_
      exact rsE rfl
    · refine sq (q_mv rfl) rfl rfl ?_
      refine sq (q_geq rfl rfl) rfl rfl ?_
      refine sq (q_pick rfl rfl) rfl rfl ?_
      refine go_nil ?_
      refine tn ?_
      refine gc_if rfl (fun h3 => ?_) (fun h3 => ?_)
      · refine gc_seq ?_
        refine gc_region ?_
        refine sq (q_mv rfl) rfl rfl ?_
        refine sq (q_as rfl) rfl rfl ?_
        refine go_nil ?_
        refine tn ?_
        refine gc_ret ?_
        refine tr ?_
        refine ret_1 (.inl rfl) rfl rfl ?_
        exact rsE rfl
      · refine gc_skip ?_
        refine tn ?_
        refine gc_seq ?_
        refine gc_region ?_
        refine sq (q_mv rfl) rfl rfl ?_
        refine sq (q_bld rfl Tryz.runUnderlying29 Tryz.zeroValue29 rfl pl29 rfl) rfl rfl ?_
        refine sq (q_mv rfl) rfl rfl ?_
        refine s_call (e_call (made_spec ε ⟨C, 4, 2, 1⟩ I 0 hok ⟨by omega, (top_b _).1⟩ bI) rfl en10) rfl rfl ?_
        rintro _ _ ⟨nn, pp, cb, cq, rb, rg, rl, rfl, rfl⟩
        refine app10 ?_
        refine sq (q_mv rfl) rfl rfl ?_
        refine sq (q_ext rfl rfl) rfl rfl ?_
        refine sq (q_ext rfl rfl) rfl rfl ?_
        refine sq (q_as rfl) rfl rfl ?_
        refine sq (q_as rfl) rfl rfl ?_
        refine go_nil ?_
        refine tn ?_
        refine gc_seq ?_
        refine gc_seq ?_
        refine gc_region ?_
        refine sq (q_mv rfl) rfl rfl ?_
        refine sq (q_pnil_eql rfl rfl Tryz.underlying24) rfl rfl ?_
        refine go_nil ?_
        refine tn ?_
        refine gc_if rfl (fun h5 => ?_) (fun h5 => ?_)
        · refine gc_seq ?_
          exfalso; simp_all
        · refine gc_skip ?_
          refine tn ?_
          refine gc_seq ?_
          refine gc_region ?_
          refine sq (q_mv rfl) rfl rfl ?_
          refine sq (q_mv rfl) rfl rfl ?_
          refine sq (q_mv rfl) rfl rfl ?_
          refine sq (q_mv rfl) rfl rfl ?_
          refine sq (q_mv rfl) rfl rfl ?_
          refine sq (q_bld rfl Tryz.runUnderlying41 Tryz.zeroValue41 rfl pl41 rfl) rfl rfl ?_
          refine sq (q_mv rfl) rfl rfl ?_
          refine s_call (e_call (hearB_spec ε nn pp (nm0 ⟨C, 4, 2, 1⟩ I 0) Tab.new ⟨F, I, 3, seen, out⟩ (pt rb)) rfl en11) rfl rfl ?_
          rintro _ _ ⟨rfl, rfl⟩
          refine app1 ?_
          refine sq (q_mv rfl) rfl rfl ?_
          refine sq (q_ext rfl rfl) rfl rfl ?_
          refine sq (q_ext rfl rfl) rfl rfl ?_
          refine sq (q_as rfl) rfl rfl ?_
          refine sq (q_as rfl) rfl rfl ?_
          refine go_nil ?_
          refine tn ?_
          refine gc_seq ?_
          refine gc_seq ?_
          refine gc_region ?_
          refine sq (q_mv rfl) rfl rfl ?_
          refine sq (q_lenS Tryz.runUnderlying30 rfl) rfl rfl ?_
          refine sq (q_neq rfl rfl) rfl rfl ?_
          refine sq (q_mv rfl) rfl rfl ?_
          refine bsp (fun h7 => ?_) (fun h7 => ?_)
          · refine sskip rfl rfl ?_
            refine sskip rfl rfl ?_
            refine sskip rfl rfl ?_
            refine sq (q_pick rfl rfl) rfl rfl ?_
            refine sq (q_mv rfl) rfl rfl ?_
            refine sskip rfl rfl ?_
            refine sskip rfl rfl ?_
            refine sskip rfl rfl ?_
            refine sskip rfl rfl ?_
            refine sskip rfl rfl ?_
            refine sskip rfl rfl ?_
            refine sskip rfl rfl ?_
            refine sskip rfl rfl ?_
            refine sskip rfl rfl ?_
            refine sskip rfl rfl ?_
            refine sskip rfl rfl ?_
            refine sskip rfl rfl ?_
            refine sq (q_pick rfl rfl) rfl rfl ?_
            refine go_nil ?_
            refine tn ?_
            refine gc_true rfl ?_
            refine gc_seq ?_
            first | (exfalso; simp_all; done) | (exfalso; have g : F ≠ I := of_decide_eq_true ‹decide (F ≠ I) = true›; exact absurd ‹_› (al_bad hal g))
          · refine sq (q_mv rfl) rfl rfl ?_
            refine sq (q_lenS Tryz.runUnderlying31 rfl) rfl rfl ?_
            refine sq (q_neq rfl rfl) rfl rfl ?_
            refine sq (q_pick rfl rfl) rfl rfl ?_
            refine sq (q_mv rfl) rfl rfl ?_
            refine bsp (fun h8 => ?_) (fun h8 => ?_)
            · refine sskip rfl rfl ?_
              refine sskip rfl rfl ?_
              refine sskip rfl rfl ?_
              refine sskip rfl rfl ?_
              refine sskip rfl rfl ?_
              refine sskip rfl rfl ?_
              refine sskip rfl rfl ?_
              refine sskip rfl rfl ?_
              refine sskip rfl rfl ?_
              refine sskip rfl rfl ?_
              refine sskip rfl rfl ?_
              refine sskip rfl rfl ?_
              refine sq (q_pick rfl rfl) rfl rfl ?_
              refine go_nil ?_
              refine tn ?_
              refine gc_true rfl ?_
              refine gc_seq ?_
              first | (exfalso; simp_all; done) | (exfalso; have g : F ≠ I := of_decide_eq_true ‹decide (F ≠ I) = true›; exact absurd ‹_› (al_bad hal g))
            · refine sq (q_mv rfl) rfl rfl ?_
              refine s_call (e_call (nalive_spec nn pp (nm0 ⟨C, 4, 2, 1⟩ I 0) (x1 ⟨C, 4, 2, 1⟩ I F seen out)) rfl en12) rfl rfl ?_
              rintro _ _ hR9
              simp only [Bool.false_eq_true, if_false] at hR9
              obtain ⟨s9, hs9, rfl, rfl⟩ := hR9
              have ok9 := hs9.ok
              have hal := (hs9.n).trans (x1_alive (h := ⟨C, 4, 2, 1⟩) (out := out) (show 0 ≤ F ∧ F < 6 by omega) (show 0 ≤ I ∧ I < 16 by omega) (show 0 ≤ seen ∧ seen ≤ 281474976710655 by simp_all; omega))
              refine sq (q_lenS Tryz.runUnderlying36 rfl) rfl rfl ?_
              refine sq (q_eql rfl rfl) rfl rfl ?_
              refine sq (q_mv rfl) rfl rfl ?_
              refine sq (q_mv rfl) rfl rfl ?_
              refine sq (q_neq rfl rfl) rfl rfl ?_
              refine sq (q_mv rfl) rfl rfl ?_
              refine bsp (fun h10 => ?_) (fun h10 => ?_)
              · refine sq (q_mv rfl) rfl rfl ?_
                refine sq (q_not rfl) rfl rfl ?_
                refine sq (q_pick rfl rfl) rfl rfl ?_
                refine sq (q_neqB rfl rfl Tryz.underlying4) rfl rfl ?_
                refine sq (q_pick rfl rfl) rfl rfl ?_
                refine go_nil ?_
                refine tn ?_
                refine gc_if rfl (fun h11 => ?_) (fun h11 => ?_)
                · refine gc_seq ?_
                  first | (exfalso; simp_all; done) | (exfalso; have g : F ≠ I := of_decide_eq_true ‹decide (F ≠ I) = true›; exact absurd ‹_› (al_bad hal g))
                · refine gc_skip ?_
                  refine tn ?_
                  refine gc_seq ?_
                  refine gc_region ?_
                  refine sq (q_mv rfl) rfl rfl ?_
                  refine sq (q_mv rfl) rfl rfl ?_
                  refine s_call (e_call (tickQ_spec nn pp (nm0 ⟨C, 4, 2, 1⟩ I 0) (x1 ⟨C, 4, 2, 1⟩ I F seen out) ⟨⟨0, 0⟩, 0, 0⟩ ⟨0, 1, 0⟩ cb (pt rb) false none 0 0 rfl rfl rfl hT.1 hT.2 (show (0 : Int) ≤ C ∧ C ≤ 16 by omega) (show w64 (0 + 1) ≤ 4 * C + 8 by rw [w64_id (by omega)]; omega) (Nat.le_trans (alive_le _) (by decide)) (setA_pos _ _) (setA_le _ _)) rfl en13) rfl rfl ?_
                  rintro _ _ ⟨fs, es, hfs, hes, rfl, rfl⟩
                  refine app2s ?_
                  rw [x1_seen (by omega) (by omega) (show 0 ≤ seen ∧ seen ≤ 281474976710655 by simp_all; omega), ← hW] at hfs
                  have hn2 : (fs.n : Int) = C - 1 := by have h1 := hfs.n; have h2 := beats_n (id := I) (life := 1) (seen := W) (out := false) bI.1 C.toNat; rw [if_pos (by omega)] at h2; rw [h1]; show ((beatsTo I 1 W false C.toNat).length : Int) = C - 1; omega
                  refine sq (q_mv rfl) rfl rfl ?_
                  refine sq (q_ext rfl rfl) rfl rfl ?_
                  refine sq (q_ext rfl rfl) rfl rfl ?_
                  refine sq (q_as rfl) rfl rfl ?_
                  refine sq (q_as rfl) rfl rfl ?_
                  refine go_nil ?_
                  refine tn ?_
                  refine gc_seq ?_
                  refine gc_seq ?_
                  refine gc_region ?_
                  refine sq (q_mv rfl) rfl rfl ?_
                  refine sq (q_lenS Tryz.runUnderlying30 rfl) rfl rfl ?_
                  refine sq (q_mv rfl) rfl rfl ?_
                  refine sq (q_subi rfl rfl (by omega)) rfl rfl ?_
                  refine sq (q_neq rfl rfl) rfl rfl ?_
                  refine go_nil ?_
                  refine tn ?_
                  refine gc_if rfl (fun h13 => ?_) (fun h13 => ?_)
                  · refine gc_seq ?_
                    exfalso; have g := of_decide_eq_true ‹decide ((fs.n : Int) ≠ C - 1) = true›; omega
                  · refine gc_skip ?_
                    refine tn ?_
                    refine gc_seq ?_
                    refine gc_region ?_
                    refine sq (q_as rfl) rfl rfl ?_
                    refine go_nil ?_
                    refine tn ?_
                    refine gc_seq ?_
                    refine gc_seq ?_
                    refine gc_region ?_
                    refine sq (q_mv rfl) rfl rfl ?_
                    refine sq (q_mv rfl) rfl rfl ?_
                    refine sq (q_neq rfl rfl) rfl rfl ?_
                    refine go_nil ?_
                    refine tn ?_
                    refine gc_if rfl (fun h14 => ?_) (fun h14 => ?_)
                    · refine gc_region ?_
                      refine sq (q_mv rfl) rfl rfl ?_
                      refine sq (q_as rfl) rfl rfl ?_
                      refine go_nil ?_
                      refine tn ?_
                      refine gc_seq ?_
                      refine gc_region ?_
                      refine sq (q_as rfl) rfl rfl ?_
                      refine go_nil ?_
                      refine tn ?_
                      refine gc_seq ?_
                      refine gc_seq ?_
                      refine gc_region ?_
                      refine sq (q_as rfl) rfl rfl ?_
                      refine go_nil ?_
                      refine tn ?_
                      refine gc_block ?_
                      refine gc_loop (A := Int × Int) (fun y => 0 ≤ y.1 ∧ y.1 ≤ C ∧ y.2 = y.1 - (if I < y.1 then 1 else 0)) (fun y => [(0, i6 C), (1, i6 I), (11, .bool true), (16, fs.v), (18, i6 W), (19, i6 y.2), (20, i6 y.1)]) (fun y => fs.L 41) (fun y => (C - y.1).toNat) (0, 0) ⟨by omega, by omega, by rw [if_neg (by omega)]; omega⟩ ⟨rfl, rfl, rfl, rfl, by first | (have e : W = seen := (by rw [hW, if_neg (by simp_all)]); rw [e]; rfl) | (have e : W = 0 := (by rw [hW, if_pos (by simp_all)]); rw [e]; rfl), rfl, rfl, trivial⟩ hpS (fun y hI => ?_)
                      refine gc_seq ?_
                      refine gc_seq ?_
                      refine gc_region ?_
                      refine sq (q_mv rfl) rfl rfl ?_
                      refine sq (q_mv rfl) rfl rfl ?_
                      refine sq (q_lss rfl rfl) rfl rfl ?_
                      refine go_nil ?_
                      refine tn ?_
                      refine gc_if rfl (fun h15 => ?_) (fun h15 => ?_)
                      · refine gc_skip ?_
                        refine tn ?_
                        refine gc_seq ?_
                        refine gc_block ?_
                        refine gc_seq ?_
                        refine gc_seq ?_
                        refine gc_region ?_
                        refine sq (q_mv rfl) rfl rfl ?_
                        refine sq (q_mv rfl) rfl rfl ?_
                        refine sq (q_eql rfl rfl) rfl rfl ?_
                        refine go_nil ?_
                        refine tn ?_
                        refine gc_if rfl (fun h16 => ?_) (fun h16 => ?_)
                        · refine gc_exit ?_
                          refine tx (bx (tn ?_))
                          refine gc_region ?_
                          refine sq (q_mv rfl) rfl rfl ?_
                          refine sq (q_addi rfl rfl (by have h1 := hI.1; have h2 := hI.2.1; omega)) rfl rfl ?_
                          refine sq (q_as rfl) rfl rfl ?_
                          refine go_nil ?_
                          first | exact aq_round (y.1 + 1, y.2) ⟨by have := hI.1; omega, by have g5 : y.1 < C := of_decide_eq_true ‹decide (y.1 < C) = true›; omega, by have g3 := hI.2.2; have g4 : y.1 = I := of_decide_eq_true ‹decide (y.1 = I) = true›; show y.2 = y.1 + 1 - (if I < y.1 + 1 then 1 else 0); split at g3 <;> split <;> omega⟩ (by have g5 : y.1 < C := of_decide_eq_true ‹decide (y.1 < C) = true›; show (C - (y.1 + 1)).toNat < (C - y.1).toNat; omega) ⟨rfl, rfl, rfl, rfl, rfl, rfl, rfl, trivial⟩ hpS | exact aq_round (y.1 + 1, y.2 + 1) ⟨by have := hI.1; omega, by have g5 : y.1 < C := of_decide_eq_true ‹decide (y.1 < C) = true›; omega, by have g3 := hI.2.2; have g4 : ¬ y.1 = I := of_decide_eq_false ‹decide (y.1 = I) = false›; show y.2 + 1 = y.1 + 1 - (if I < y.1 + 1 then 1 else 0); split at g3 <;> split <;> omega⟩ (by have g5 : y.1 < C := of_decide_eq_true ‹decide (y.1 < C) = true›; show (C - (y.1 + 1)).toNat < (C - y.1).toNat; omega) ⟨rfl, rfl, rfl, rfl, rfl, rfl, rfl, trivial⟩ hpS
                        · refine gc_skip ?_
                          refine tn ?_
                          refine gc_seq ?_
                          refine gc_region ?_
                          refine sq (q_mv rfl) rfl rfl ?_
                          refine sq (q_mv rfl) rfl rfl ?_
                          refine sq (q_iaSl (sl := fs) hfs.ok rfl rfl Tryz.runUnderlying30 Tryz.sizeOf41 (by rw [hn2]; have g1 := hI.1; have g3 := hI.2.2; have g5 : y.1 < C := of_decide_eq_true ‹decide (y.1 < C) = true›; have g4 : ¬ y.1 = I := of_decide_eq_false ‹decide (y.1 = I) = false›; split at g3 <;> omega)) rfl rfl ?_
                          refine sq (q_ldaSl (sl := fs) (e := 41) hfs.ok rfl Tryz.isAgg41 Tryz.sizeOf41 (by decide) (vs := Beat.c ⟨I, y.1, 1, W, false⟩) (by rw [hfs.xs, hI.2.2]; exact beats_slc bI.1 hI.1 (of_decide_eq_true ‹decide (y.1 < C) = true›) (of_decide_eq_false ‹decide (y.1 = I) = false›))) rfl rfl ?_
                          refine s_new (e_alloc Tryz.zeroValue41 rfl) rfl rfl fun b17 => ?_
                          refine s_st (e_st rfl rfl Tryz.sizeOf41 rfl rfl rfl rfl) rfl rfl ?_
                          refine go_nil ?_
                          refine tn ?_
                          refine gc_seq ?_
                          refine gc_region ?_
                          refine sq (q_mv rfl) rfl rfl ?_
                          refine sq (q_addi rfl rfl (by have g1 := hI.1; have g2 := hI.2.1; have g3 := hI.2.2; split at g3 <;> omega)) rfl rfl ?_
                          refine sq (q_as rfl) rfl rfl ?_
                          refine go_nil ?_
                          refine tn ?_
                          refine gc_seq ?_
                          refine gc_region ?_
                          refine sq (q_fa rfl Tryz.runUnderlying41 rfl Tryz.sizeOf3) rfl rfl ?_
                          refine sq (q_ld rfl Tryz.isAgg3 rfl) rfl rfl ?_
                          refine sq (OpQ.cast (q_neq rfl rfl) (by simp : _ = Value.bool false)) rfl rfl ?_
                          refine sq (q_mv rfl) rfl rfl ?_
                          refine sq (q_fa rfl Tryz.runUnderlying41 rfl Tryz.sizeOf3) rfl rfl ?_
                          refine sq (q_ld rfl Tryz.isAgg3 rfl) rfl rfl ?_
                          refine sq (q_mv rfl) rfl rfl ?_
                          refine sq (OpQ.cast (q_neq rfl rfl) (by simp : _ = Value.bool false)) rfl rfl ?_
                          refine sq (q_pick rfl rfl) rfl rfl ?_
                          refine sq (q_mv rfl) rfl rfl ?_
                          refine sq (q_fa rfl Tryz.runUnderlying41 rfl Tryz.sizeOf3) rfl rfl ?_
                          refine sq (q_ld rfl Tryz.isAgg3 rfl) rfl rfl ?_
                          refine sq (q_mv rfl) rfl rfl ?_
                          refine sq (OpQ.cast (q_neq rfl rfl) (by simp : _ = Value.bool false)) rfl rfl ?_
                          refine sq (q_pick rfl rfl) rfl rfl ?_
                          refine sq (q_mv rfl) rfl rfl ?_
                          refine sq (q_fa rfl Tryz.runUnderlying41 rfl Tryz.sizeOf2) rfl rfl ?_
                          refine sq (q_ld rfl Tryz.isAgg2 rfl) rfl rfl ?_
                          refine sq (OpQ.cast (q_neq rfl rfl) (by simp : _ = Value.bool false)) rfl rfl ?_
                          refine sq (q_pick rfl rfl) rfl rfl ?_
                          refine sq (q_mv rfl) rfl rfl ?_
                          refine sq (q_fa rfl Tryz.runUnderlying41 rfl Tryz.sizeOf2) rfl rfl ?_
                          refine sq (q_ld rfl Tryz.isAgg2 rfl) rfl rfl ?_
                          refine sq (q_mv rfl) rfl rfl ?_
                          refine sq (OpQ.cast (q_neq rfl rfl) (by simp : _ = Value.bool false)) rfl rfl ?_
                          refine sq (q_pick rfl rfl) rfl rfl ?_
                          refine sq (q_mv rfl) rfl rfl ?_
                          refine sq (q_fa rfl Tryz.runUnderlying41 rfl Tryz.sizeOf4) rfl rfl ?_
                          refine sq (OpQ.cast (q_ld rfl Tryz.isAgg4 rfl) (by rfl : _ = Value.bool false)) rfl rfl ?_
                          refine sq (q_pick rfl rfl) rfl rfl ?_
                          refine go_nil ?_
                          refine tn ?_
                          refine gc_false rfl ?_
                          refine gc_skip ?_
                          refine bn (tn ?_)
                          refine gc_region ?_
                          refine sq (q_mv rfl) rfl rfl ?_
                          refine sq (q_addi rfl rfl (by have h1 := hI.1; have h2 := hI.2.1; omega)) rfl rfl ?_
                          refine sq (q_as rfl) rfl rfl ?_
                          refine go_nil ?_
                          first | exact aq_round (y.1 + 1, y.2) ⟨by have := hI.1; omega, by have g5 : y.1 < C := of_decide_eq_true ‹decide (y.1 < C) = true›; omega, by have g3 := hI.2.2; have g4 : y.1 = I := of_decide_eq_true ‹decide (y.1 = I) = true›; show y.2 = y.1 + 1 - (if I < y.1 + 1 then 1 else 0); split at g3 <;> split <;> omega⟩ (by have g5 : y.1 < C := of_decide_eq_true ‹decide (y.1 < C) = true›; show (C - (y.1 + 1)).toNat < (C - y.1).toNat; omega) ⟨rfl, rfl, rfl, rfl, rfl, rfl, rfl, trivial⟩ hpS | exact aq_round (y.1 + 1, y.2 + 1) ⟨by have := hI.1; omega, by have g5 : y.1 < C := of_decide_eq_true ‹decide (y.1 < C) = true›; omega, by have g3 := hI.2.2; have g4 : ¬ y.1 = I := of_decide_eq_false ‹decide (y.1 = I) = false›; show y.2 + 1 = y.1 + 1 - (if I < y.1 + 1 then 1 else 0); split at g3 <;> split <;> omega⟩ (by have g5 : y.1 < C := of_decide_eq_true ‹decide (y.1 < C) = true›; show (C - (y.1 + 1)).toNat < (C - y.1).toNat; omega) ⟨rfl, rfl, rfl, rfl, rfl, rfl, rfl, trivial⟩ hpS
                      · refine gc_exit ?_
                        refine tx (tx (bx (tn ?_)))
                        refine gc_seq ?_
                        refine gc_region ?_
                        refine sq (q_mv rfl) rfl rfl ?_
                        refine sq (q_as rfl) rfl rfl ?_
                        refine go_nil ?_
                        refine tn ?_
                        refine gc_ret ?_
                        refine ret_1 (.inl rfl) rfl rfl ?_
                        exact rsE rfl
                    · refine gc_skip ?_
                      refine tn ?_
                      refine gc_seq ?_
                      refine gc_region ?_
                      refine sq (q_as rfl) rfl rfl ?_
                      refine go_nil ?_
                      refine tn ?_
                      refine gc_seq ?_
                      refine gc_seq ?_
                      refine gc_region ?_
                      refine sq (q_as rfl) rfl rfl ?_
                      refine go_nil ?_
                      refine tn ?_
                      refine gc_block ?_
                      refine gc_loop (A := Int × Int) (fun y => 0 ≤ y.1 ∧ y.1 ≤ C ∧ y.2 = y.1 - (if I < y.1 then 1 else 0)) (fun y => [(0, i6 C), (1, i6 I), (11, .bool true), (16, fs.v), (18, i6 W), (19, i6 y.2), (20, i6 y.1)]) (fun y => fs.L 41) (fun y => (C - y.1).toNat) (0, 0) ⟨by omega, by omega, by rw [if_neg (by omega)]; omega⟩ ⟨rfl, rfl, rfl, rfl, by first | (have e : W = seen := (by rw [hW, if_neg (by simp_all)]); rw [e]; rfl) | (have e : W = 0 := (by rw [hW, if_pos (by simp_all)]); rw [e]; rfl), rfl, rfl, trivial⟩ hpS (fun y hI => ?_)
                      refine gc_seq ?_
                      refine gc_seq ?_
                      refine gc_region ?_
                      refine sq (q_mv rfl) rfl rfl ?_
                      refine sq (q_mv rfl) rfl rfl ?_
                      refine sq (q_lss rfl rfl) rfl rfl ?_
                      refine go_nil ?_
                      refine tn ?_
                      refine gc_if rfl (fun h18 => ?_) (fun h18 => ?_)
                      · refine gc_skip ?_
                        refine tn ?_
                        refine gc_seq ?_
                        refine gc_block ?_
                        refine gc_seq ?_
                        refine gc_seq ?_
                        refine gc_region ?_
                        refine sq (q_mv rfl) rfl rfl ?_
                        refine sq (q_mv rfl) rfl rfl ?_
                        refine sq (q_eql rfl rfl) rfl rfl ?_
                        refine go_nil ?_
                        refine tn ?_
                        refine gc_if rfl (fun h19 => ?_) (fun h19 => ?_)
                        · refine gc_exit ?_
                          refine tx (bx (tn ?_))
                          refine gc_region ?_
                          refine sq (q_mv rfl) rfl rfl ?_
                          refine sq (q_addi rfl rfl (by have h1 := hI.1; have h2 := hI.2.1; omega)) rfl rfl ?_
                          refine sq (q_as rfl) rfl rfl ?_
                          refine go_nil ?_
                          first | exact aq_round (y.1 + 1, y.2) ⟨by have := hI.1; omega, by have g5 : y.1 < C := of_decide_eq_true ‹decide (y.1 < C) = true›; omega, by have g3 := hI.2.2; have g4 : y.1 = I := of_decide_eq_true ‹decide (y.1 = I) = true›; show y.2 = y.1 + 1 - (if I < y.1 + 1 then 1 else 0); split at g3 <;> split <;> omega⟩ (by have g5 : y.1 < C := of_decide_eq_true ‹decide (y.1 < C) = true›; show (C - (y.1 + 1)).toNat < (C - y.1).toNat; omega) ⟨rfl, rfl, rfl, rfl, rfl, rfl, rfl, trivial⟩ hpS | exact aq_round (y.1 + 1, y.2 + 1) ⟨by have := hI.1; omega, by have g5 : y.1 < C := of_decide_eq_true ‹decide (y.1 < C) = true›; omega, by have g3 := hI.2.2; have g4 : ¬ y.1 = I := of_decide_eq_false ‹decide (y.1 = I) = false›; show y.2 + 1 = y.1 + 1 - (if I < y.1 + 1 then 1 else 0); split at g3 <;> split <;> omega⟩ (by have g5 : y.1 < C := of_decide_eq_true ‹decide (y.1 < C) = true›; show (C - (y.1 + 1)).toNat < (C - y.1).toNat; omega) ⟨rfl, rfl, rfl, rfl, rfl, rfl, rfl, trivial⟩ hpS
                        · refine gc_skip ?_
                          refine tn ?_
                          refine gc_seq ?_
                          refine gc_region ?_
                          refine sq (q_mv rfl) rfl rfl ?_
                          refine sq (q_mv rfl) rfl rfl ?_
                          refine sq (q_iaSl (sl := fs) hfs.ok rfl rfl Tryz.runUnderlying30 Tryz.sizeOf41 (by rw [hn2]; have g1 := hI.1; have g3 := hI.2.2; have g5 : y.1 < C := of_decide_eq_true ‹decide (y.1 < C) = true›; have g4 : ¬ y.1 = I := of_decide_eq_false ‹decide (y.1 = I) = false›; split at g3 <;> omega)) rfl rfl ?_
                          refine sq (q_ldaSl (sl := fs) (e := 41) hfs.ok rfl Tryz.isAgg41 Tryz.sizeOf41 (by decide) (vs := Beat.c ⟨I, y.1, 1, W, false⟩) (by rw [hfs.xs, hI.2.2]; exact beats_slc bI.1 hI.1 (of_decide_eq_true ‹decide (y.1 < C) = true›) (of_decide_eq_false ‹decide (y.1 = I) = false›))) rfl rfl ?_
                          refine s_new (e_alloc Tryz.zeroValue41 rfl) rfl rfl fun b20 => ?_
                          refine s_st (e_st rfl rfl Tryz.sizeOf41 rfl rfl rfl rfl) rfl rfl ?_
                          refine go_nil ?_
                          refine tn ?_
                          refine gc_seq ?_
                          refine gc_region ?_
                          refine sq (q_mv rfl) rfl rfl ?_
                          refine sq (q_addi rfl rfl (by have g1 := hI.1; have g2 := hI.2.1; have g3 := hI.2.2; split at g3 <;> omega)) rfl rfl ?_
                          refine sq (q_as rfl) rfl rfl ?_
                          refine go_nil ?_
                          refine tn ?_
                          refine gc_seq ?_
                          refine gc_region ?_
                          refine sq (q_fa rfl Tryz.runUnderlying41 rfl Tryz.sizeOf3) rfl rfl ?_
                          refine sq (q_ld rfl Tryz.isAgg3 rfl) rfl rfl ?_
                          refine sq (OpQ.cast (q_neq rfl rfl) (by simp : _ = Value.bool false)) rfl rfl ?_
                          refine sq (q_mv rfl) rfl rfl ?_
                          refine sq (q_fa rfl Tryz.runUnderlying41 rfl Tryz.sizeOf3) rfl rfl ?_
                          refine sq (q_ld rfl Tryz.isAgg3 rfl) rfl rfl ?_
                          refine sq (q_mv rfl) rfl rfl ?_
                          refine sq (OpQ.cast (q_neq rfl rfl) (by simp : _ = Value.bool false)) rfl rfl ?_
                          refine sq (q_pick rfl rfl) rfl rfl ?_
                          refine sq (q_mv rfl) rfl rfl ?_
                          refine sq (q_fa rfl Tryz.runUnderlying41 rfl Tryz.sizeOf3) rfl rfl ?_
                          refine sq (q_ld rfl Tryz.isAgg3 rfl) rfl rfl ?_
                          refine sq (q_mv rfl) rfl rfl ?_
                          refine sq (OpQ.cast (q_neq rfl rfl) (by simp : _ = Value.bool false)) rfl rfl ?_
                          refine sq (q_pick rfl rfl) rfl rfl ?_
                          refine sq (q_mv rfl) rfl rfl ?_
                          refine sq (q_fa rfl Tryz.runUnderlying41 rfl Tryz.sizeOf2) rfl rfl ?_
                          refine sq (q_ld rfl Tryz.isAgg2 rfl) rfl rfl ?_
                          refine sq (OpQ.cast (q_neq rfl rfl) (by simp : _ = Value.bool false)) rfl rfl ?_
                          refine sq (q_pick rfl rfl) rfl rfl ?_
                          refine sq (q_mv rfl) rfl rfl ?_
                          refine sq (q_fa rfl Tryz.runUnderlying41 rfl Tryz.sizeOf2) rfl rfl ?_
                          refine sq (q_ld rfl Tryz.isAgg2 rfl) rfl rfl ?_
                          refine sq (q_mv rfl) rfl rfl ?_
                          refine sq (OpQ.cast (q_neq rfl rfl) (by simp : _ = Value.bool false)) rfl rfl ?_
                          refine sq (q_pick rfl rfl) rfl rfl ?_
                          refine sq (q_mv rfl) rfl rfl ?_
                          refine sq (q_fa rfl Tryz.runUnderlying41 rfl Tryz.sizeOf4) rfl rfl ?_
                          refine sq (OpQ.cast (q_ld rfl Tryz.isAgg4 rfl) (by rfl : _ = Value.bool false)) rfl rfl ?_
                          refine sq (q_pick rfl rfl) rfl rfl ?_
                          refine go_nil ?_
                          refine tn ?_
                          refine gc_false rfl ?_
                          refine gc_skip ?_
                          refine bn (tn ?_)
                          refine gc_region ?_
                          refine sq (q_mv rfl) rfl rfl ?_
                          refine sq (q_addi rfl rfl (by have h1 := hI.1; have h2 := hI.2.1; omega)) rfl rfl ?_
                          refine sq (q_as rfl) rfl rfl ?_
                          refine go_nil ?_
                          first | exact aq_round (y.1 + 1, y.2) ⟨by have := hI.1; omega, by have g5 : y.1 < C := of_decide_eq_true ‹decide (y.1 < C) = true›; omega, by have g3 := hI.2.2; have g4 : y.1 = I := of_decide_eq_true ‹decide (y.1 = I) = true›; show y.2 = y.1 + 1 - (if I < y.1 + 1 then 1 else 0); split at g3 <;> split <;> omega⟩ (by have g5 : y.1 < C := of_decide_eq_true ‹decide (y.1 < C) = true›; show (C - (y.1 + 1)).toNat < (C - y.1).toNat; omega) ⟨rfl, rfl, rfl, rfl, rfl, rfl, rfl, trivial⟩ hpS | exact aq_round (y.1 + 1, y.2 + 1) ⟨by have := hI.1; omega, by have g5 : y.1 < C := of_decide_eq_true ‹decide (y.1 < C) = true›; omega, by have g3 := hI.2.2; have g4 : ¬ y.1 = I := of_decide_eq_false ‹decide (y.1 = I) = false›; show y.2 + 1 = y.1 + 1 - (if I < y.1 + 1 then 1 else 0); split at g3 <;> split <;> omega⟩ (by have g5 : y.1 < C := of_decide_eq_true ‹decide (y.1 < C) = true›; show (C - (y.1 + 1)).toNat < (C - y.1).toNat; omega) ⟨rfl, rfl, rfl, rfl, rfl, rfl, rfl, trivial⟩ hpS
                      · refine gc_exit ?_
                        refine tx (tx (bx (tn ?_)))
                        refine gc_seq ?_
                        refine gc_region ?_
                        refine sq (q_mv rfl) rfl rfl ?_
                        refine sq (q_as rfl) rfl rfl ?_
                        refine go_nil ?_
                        refine tn ?_
                        refine gc_ret ?_
                        refine ret_1 (.inl rfl) rfl rfl ?_
                        exact rsE rfl
              · refine sskip rfl rfl ?_
                refine sskip rfl rfl ?_
                refine sq (q_pick rfl rfl) rfl rfl ?_
                refine sq (q_neqB rfl rfl Tryz.underlying4) rfl rfl ?_
                refine sq (q_pick rfl rfl) rfl rfl ?_
                refine go_nil ?_
                refine tn ?_
                refine gc_if rfl (fun h21 => ?_) (fun h21 => ?_)
                · refine gc_seq ?_
                  first | (exfalso; simp_all; done) | (exfalso; have g : F ≠ I := of_decide_eq_true ‹decide (F ≠ I) = true›; exact absurd ‹_› (al_bad hal g))
                · refine gc_skip ?_
                  refine tn ?_
                  refine gc_seq ?_
                  refine gc_region ?_
                  refine sq (q_mv rfl) rfl rfl ?_
                  refine sq (q_mv rfl) rfl rfl ?_
                  refine s_call (e_call (tickQ_spec nn pp (nm0 ⟨C, 4, 2, 1⟩ I 0) (x1 ⟨C, 4, 2, 1⟩ I F seen out) ⟨⟨0, 0⟩, 0, 0⟩ ⟨0, 1, 0⟩ cb (pt rb) false none 0 0 rfl rfl rfl hT.1 hT.2 (show (0 : Int) ≤ C ∧ C ≤ 16 by omega) (show w64 (0 + 1) ≤ 4 * C + 8 by rw [w64_id (by omega)]; omega) (Nat.le_trans (alive_le _) (by decide)) (setA_pos _ _) (setA_le _ _)) rfl en13) rfl rfl ?_
                  rintro _ _ ⟨fs, es, hfs, hes, rfl, rfl⟩
                  refine app2s ?_
                  rw [x1_seen (by omega) (by omega) (show 0 ≤ seen ∧ seen ≤ 281474976710655 by simp_all; omega), ← hW] at hfs
                  have hn2 : (fs.n : Int) = C - 1 := by have h1 := hfs.n; have h2 := beats_n (id := I) (life := 1) (seen := W) (out := false) bI.1 C.toNat; rw [if_pos (by omega)] at h2; rw [h1]; show ((beatsTo I 1 W false C.toNat).length : Int) = C - 1; omega
                  refine sq (q_mv rfl) rfl rfl ?_
                  refine sq (q_ext rfl rfl) rfl rfl ?_
                  refine sq (q_ext rfl rfl) rfl rfl ?_
                  refine sq (q_as rfl) rfl rfl ?_
                  refine sq (q_as rfl) rfl rfl ?_
                  refine go_nil ?_
                  refine tn ?_
                  refine gc_seq ?_
                  refine gc_seq ?_
                  refine gc_region ?_
                  refine sq (q_mv rfl) rfl rfl ?_
                  refine sq (q_lenS Tryz.runUnderlying30 rfl) rfl rfl ?_
                  refine sq (q_mv rfl) rfl rfl ?_
                  refine sq (q_subi rfl rfl (by omega)) rfl rfl ?_
                  refine sq (q_neq rfl rfl) rfl rfl ?_
                  refine go_nil ?_
                  refine tn ?_
                  refine gc_if rfl (fun h23 => ?_) (fun h23 => ?_)
                  · refine gc_seq ?_
                    exfalso; have g := of_decide_eq_true ‹decide ((fs.n : Int) ≠ C - 1) = true›; omega
                  · refine gc_skip ?_
                    refine tn ?_
                    refine gc_seq ?_
                    refine gc_region ?_
                    refine sq (q_as rfl) rfl rfl ?_
                    refine go_nil ?_
                    refine tn ?_
                    refine gc_seq ?_
                    refine gc_seq ?_
                    refine gc_region ?_
                    refine sq (q_mv rfl) rfl rfl ?_
                    refine sq (q_mv rfl) rfl rfl ?_
                    refine sq (q_neq rfl rfl) rfl rfl ?_
                    refine go_nil ?_
                    refine tn ?_
                    refine gc_if rfl (fun h24 => ?_) (fun h24 => ?_)
                    · refine gc_region ?_
                      refine sq (q_mv rfl) rfl rfl ?_
                      refine sq (q_as rfl) rfl rfl ?_
                      refine go_nil ?_
                      refine tn ?_
                      refine gc_seq ?_
                      refine gc_region ?_
                      refine sq (q_as rfl) rfl rfl ?_
                      refine go_nil ?_
                      refine tn ?_
                      refine gc_seq ?_
                      refine gc_seq ?_
                      refine gc_region ?_
                      refine sq (q_as rfl) rfl rfl ?_
                      refine go_nil ?_
                      refine tn ?_
                      refine gc_block ?_
                      refine gc_loop (A := Int × Int) (fun y => 0 ≤ y.1 ∧ y.1 ≤ C ∧ y.2 = y.1 - (if I < y.1 then 1 else 0)) (fun y => [(0, i6 C), (1, i6 I), (11, .bool true), (16, fs.v), (18, i6 W), (19, i6 y.2), (20, i6 y.1)]) (fun y => fs.L 41) (fun y => (C - y.1).toNat) (0, 0) ⟨by omega, by omega, by rw [if_neg (by omega)]; omega⟩ ⟨rfl, rfl, rfl, rfl, by first | (have e : W = seen := (by rw [hW, if_neg (by simp_all)]); rw [e]; rfl) | (have e : W = 0 := (by rw [hW, if_pos (by simp_all)]); rw [e]; rfl), rfl, rfl, trivial⟩ hpS (fun y hI => ?_)
                      refine gc_seq ?_
                      refine gc_seq ?_
                      refine gc_region ?_
                      refine sq (q_mv rfl) rfl rfl ?_
                      refine sq (q_mv rfl) rfl rfl ?_
                      refine sq (q_lss rfl rfl) rfl rfl ?_
                      refine go_nil ?_
                      refine tn ?_
                      refine gc_if rfl (fun h25 => ?_) (fun h25 => ?_)
                      · refine gc_skip ?_
                        refine tn ?_
                        refine gc_seq ?_
                        refine gc_block ?_
                        refine gc_seq ?_
                        refine gc_seq ?_
                        refine gc_region ?_
                        refine sq (q_mv rfl) rfl rfl ?_
                        refine sq (q_mv rfl) rfl rfl ?_
                        refine sq (q_eql rfl rfl) rfl rfl ?_
                        refine go_nil ?_
                        refine tn ?_
                        refine gc_if rfl (fun h26 => ?_) (fun h26 => ?_)
                        · refine gc_exit ?_
                          refine tx (bx (tn ?_))
                          refine gc_region ?_
                          refine sq (q_mv rfl) rfl rfl ?_
                          refine sq (q_addi rfl rfl (by have h1 := hI.1; have h2 := hI.2.1; omega)) rfl rfl ?_
                          refine sq (q_as rfl) rfl rfl ?_
                          refine go_nil ?_
                          first | exact aq_round (y.1 + 1, y.2) ⟨by have := hI.1; omega, by have g5 : y.1 < C := of_decide_eq_true ‹decide (y.1 < C) = true›; omega, by have g3 := hI.2.2; have g4 : y.1 = I := of_decide_eq_true ‹decide (y.1 = I) = true›; show y.2 = y.1 + 1 - (if I < y.1 + 1 then 1 else 0); split at g3 <;> split <;> omega⟩ (by have g5 : y.1 < C := of_decide_eq_true ‹decide (y.1 < C) = true›; show (C - (y.1 + 1)).toNat < (C - y.1).toNat; omega) ⟨rfl, rfl, rfl, rfl, rfl, rfl, rfl, trivial⟩ hpS | exact aq_round (y.1 + 1, y.2 + 1) ⟨by have := hI.1; omega, by have g5 : y.1 < C := of_decide_eq_true ‹decide (y.1 < C) = true›; omega, by have g3 := hI.2.2; have g4 : ¬ y.1 = I := of_decide_eq_false ‹decide (y.1 = I) = false›; show y.2 + 1 = y.1 + 1 - (if I < y.1 + 1 then 1 else 0); split at g3 <;> split <;> omega⟩ (by have g5 : y.1 < C := of_decide_eq_true ‹decide (y.1 < C) = true›; show (C - (y.1 + 1)).toNat < (C - y.1).toNat; omega) ⟨rfl, rfl, rfl, rfl, rfl, rfl, rfl, trivial⟩ hpS
                        · refine gc_skip ?_
                          refine tn ?_
                          refine gc_seq ?_
                          refine gc_region ?_
                          refine sq (q_mv rfl) rfl rfl ?_
                          refine sq (q_mv rfl) rfl rfl ?_
                          refine sq (q_iaSl (sl := fs) hfs.ok rfl rfl Tryz.runUnderlying30 Tryz.sizeOf41 (by rw [hn2]; have g1 := hI.1; have g3 := hI.2.2; have g5 : y.1 < C := of_decide_eq_true ‹decide (y.1 < C) = true›; have g4 : ¬ y.1 = I := of_decide_eq_false ‹decide (y.1 = I) = false›; split at g3 <;> omega)) rfl rfl ?_
                          refine sq (q_ldaSl (sl := fs) (e := 41) hfs.ok rfl Tryz.isAgg41 Tryz.sizeOf41 (by decide) (vs := Beat.c ⟨I, y.1, 1, W, false⟩) (by rw [hfs.xs, hI.2.2]; exact beats_slc bI.1 hI.1 (of_decide_eq_true ‹decide (y.1 < C) = true›) (of_decide_eq_false ‹decide (y.1 = I) = false›))) rfl rfl ?_
                          refine s_new (e_alloc Tryz.zeroValue41 rfl) rfl rfl fun b27 => ?_
                          refine s_st (e_st rfl rfl Tryz.sizeOf41 rfl rfl rfl rfl) rfl rfl ?_
                          refine go_nil ?_
                          refine tn ?_
                          refine gc_seq ?_
                          refine gc_region ?_
                          refine sq (q_mv rfl) rfl rfl ?_
                          refine sq (q_addi rfl rfl (by have g1 := hI.1; have g2 := hI.2.1; have g3 := hI.2.2; split at g3 <;> omega)) rfl rfl ?_
                          refine sq (q_as rfl) rfl rfl ?_
                          refine go_nil ?_
                          refine tn ?_
                          refine gc_seq ?_
                          refine gc_region ?_
                          refine sq (q_fa rfl Tryz.runUnderlying41 rfl Tryz.sizeOf3) rfl rfl ?_
                          refine sq (q_ld rfl Tryz.isAgg3 rfl) rfl rfl ?_
                          refine sq (OpQ.cast (q_neq rfl rfl) (by simp : _ = Value.bool false)) rfl rfl ?_
                          refine sq (q_mv rfl) rfl rfl ?_
                          refine sq (q_fa rfl Tryz.runUnderlying41 rfl Tryz.sizeOf3) rfl rfl ?_
                          refine sq (q_ld rfl Tryz.isAgg3 rfl) rfl rfl ?_
                          refine sq (q_mv rfl) rfl rfl ?_
                          refine sq (OpQ.cast (q_neq rfl rfl) (by simp : _ = Value.bool false)) rfl rfl ?_
                          refine sq (q_pick rfl rfl) rfl rfl ?_
                          refine sq (q_mv rfl) rfl rfl ?_
                          refine sq (q_fa rfl Tryz.runUnderlying41 rfl Tryz.sizeOf3) rfl rfl ?_
                          refine sq (q_ld rfl Tryz.isAgg3 rfl) rfl rfl ?_
                          refine sq (q_mv rfl) rfl rfl ?_
                          refine sq (OpQ.cast (q_neq rfl rfl) (by simp : _ = Value.bool false)) rfl rfl ?_
                          refine sq (q_pick rfl rfl) rfl rfl ?_
                          refine sq (q_mv rfl) rfl rfl ?_
                          refine sq (q_fa rfl Tryz.runUnderlying41 rfl Tryz.sizeOf2) rfl rfl ?_
                          refine sq (q_ld rfl Tryz.isAgg2 rfl) rfl rfl ?_
                          refine sq (OpQ.cast (q_neq rfl rfl) (by simp : _ = Value.bool false)) rfl rfl ?_
                          refine sq (q_pick rfl rfl) rfl rfl ?_
                          refine sq (q_mv rfl) rfl rfl ?_
                          refine sq (q_fa rfl Tryz.runUnderlying41 rfl Tryz.sizeOf2) rfl rfl ?_
                          refine sq (q_ld rfl Tryz.isAgg2 rfl) rfl rfl ?_
                          refine sq (q_mv rfl) rfl rfl ?_
                          refine sq (OpQ.cast (q_neq rfl rfl) (by simp : _ = Value.bool false)) rfl rfl ?_
                          refine sq (q_pick rfl rfl) rfl rfl ?_
                          refine sq (q_mv rfl) rfl rfl ?_
                          refine sq (q_fa rfl Tryz.runUnderlying41 rfl Tryz.sizeOf4) rfl rfl ?_
                          refine sq (OpQ.cast (q_ld rfl Tryz.isAgg4 rfl) (by rfl : _ = Value.bool false)) rfl rfl ?_
                          refine sq (q_pick rfl rfl) rfl rfl ?_
                          refine go_nil ?_
                          refine tn ?_
                          refine gc_false rfl ?_
                          refine gc_skip ?_
                          refine bn (tn ?_)
                          refine gc_region ?_
                          refine sq (q_mv rfl) rfl rfl ?_
                          refine sq (q_addi rfl rfl (by have h1 := hI.1; have h2 := hI.2.1; omega)) rfl rfl ?_
                          refine sq (q_as rfl) rfl rfl ?_
                          refine go_nil ?_
                          first | exact aq_round (y.1 + 1, y.2) ⟨by have := hI.1; omega, by have g5 : y.1 < C := of_decide_eq_true ‹decide (y.1 < C) = true›; omega, by have g3 := hI.2.2; have g4 : y.1 = I := of_decide_eq_true ‹decide (y.1 = I) = true›; show y.2 = y.1 + 1 - (if I < y.1 + 1 then 1 else 0); split at g3 <;> split <;> omega⟩ (by have g5 : y.1 < C := of_decide_eq_true ‹decide (y.1 < C) = true›; show (C - (y.1 + 1)).toNat < (C - y.1).toNat; omega) ⟨rfl, rfl, rfl, rfl, rfl, rfl, rfl, trivial⟩ hpS | exact aq_round (y.1 + 1, y.2 + 1) ⟨by have := hI.1; omega, by have g5 : y.1 < C := of_decide_eq_true ‹decide (y.1 < C) = true›; omega, by have g3 := hI.2.2; have g4 : ¬ y.1 = I := of_decide_eq_false ‹decide (y.1 = I) = false›; show y.2 + 1 = y.1 + 1 - (if I < y.1 + 1 then 1 else 0); split at g3 <;> split <;> omega⟩ (by have g5 : y.1 < C := of_decide_eq_true ‹decide (y.1 < C) = true›; show (C - (y.1 + 1)).toNat < (C - y.1).toNat; omega) ⟨rfl, rfl, rfl, rfl, rfl, rfl, rfl, trivial⟩ hpS
                      · refine gc_exit ?_
                        refine tx (tx (bx (tn ?_)))
                        refine gc_seq ?_
                        refine gc_region ?_
                        refine sq (q_mv rfl) rfl rfl ?_
                        refine sq (q_as rfl) rfl rfl ?_
                        refine go_nil ?_
                        refine tn ?_
                        refine gc_ret ?_
                        refine ret_1 (.inl rfl) rfl rfl ?_
                        exact rsE rfl
                    · refine gc_skip ?_
                      refine tn ?_
                      refine gc_seq ?_
                      refine gc_region ?_
                      refine sq (q_as rfl) rfl rfl ?_
                      refine go_nil ?_
                      refine tn ?_
                      refine gc_seq ?_
                      refine gc_seq ?_
                      refine gc_region ?_
                      refine sq (q_as rfl) rfl rfl ?_
                      refine go_nil ?_
                      refine tn ?_
                      refine gc_block ?_
                      refine gc_loop (A := Int × Int) (fun y => 0 ≤ y.1 ∧ y.1 ≤ C ∧ y.2 = y.1 - (if I < y.1 then 1 else 0)) (fun y => [(0, i6 C), (1, i6 I), (11, .bool true), (16, fs.v), (18, i6 W), (19, i6 y.2), (20, i6 y.1)]) (fun y => fs.L 41) (fun y => (C - y.1).toNat) (0, 0) ⟨by omega, by omega, by rw [if_neg (by omega)]; omega⟩ ⟨rfl, rfl, rfl, rfl, by first | (have e : W = seen := (by rw [hW, if_neg (by simp_all)]); rw [e]; rfl) | (have e : W = 0 := (by rw [hW, if_pos (by simp_all)]); rw [e]; rfl), rfl, rfl, trivial⟩ hpS (fun y hI => ?_)
                      refine gc_seq ?_
                      refine gc_seq ?_
                      refine gc_region ?_
                      refine sq (q_mv rfl) rfl rfl ?_
                      refine sq (q_mv rfl) rfl rfl ?_
                      refine sq (q_lss rfl rfl) rfl rfl ?_
                      refine go_nil ?_
                      refine tn ?_
                      refine gc_if rfl (fun h28 => ?_) (fun h28 => ?_)
                      · refine gc_skip ?_
                        refine tn ?_
                        refine gc_seq ?_
                        refine gc_block ?_
                        refine gc_seq ?_
                        refine gc_seq ?_
                        refine gc_region ?_
                        refine sq (q_mv rfl) rfl rfl ?_
                        refine sq (q_mv rfl) rfl rfl ?_
                        refine sq (q_eql rfl rfl) rfl rfl ?_
                        refine go_nil ?_
                        refine tn ?_
                        refine gc_if rfl (fun h29 => ?_) (fun h29 => ?_)
                        · refine gc_exit ?_
                          refine tx (bx (tn ?_))
                          refine gc_region ?_
                          refine sq (q_mv rfl) rfl rfl ?_
                          refine sq (q_addi rfl rfl (by have h1 := hI.1; have h2 := hI.2.1; omega)) rfl rfl ?_
                          refine sq (q_as rfl) rfl rfl ?_
                          refine go_nil ?_
                          first | exact aq_round (y.1 + 1, y.2) ⟨by have := hI.1; omega, by have g5 : y.1 < C := of_decide_eq_true ‹decide (y.1 < C) = true›; omega, by have g3 := hI.2.2; have g4 : y.1 = I := of_decide_eq_true ‹decide (y.1 = I) = true›; show y.2 = y.1 + 1 - (if I < y.1 + 1 then 1 else 0); split at g3 <;> split <;> omega⟩ (by have g5 : y.1 < C := of_decide_eq_true ‹decide (y.1 < C) = true›; show (C - (y.1 + 1)).toNat < (C - y.1).toNat; omega) ⟨rfl, rfl, rfl, rfl, rfl, rfl, rfl, trivial⟩ hpS | exact aq_round (y.1 + 1, y.2 + 1) ⟨by have := hI.1; omega, by have g5 : y.1 < C := of_decide_eq_true ‹decide (y.1 < C) = true›; omega, by have g3 := hI.2.2; have g4 : ¬ y.1 = I := of_decide_eq_false ‹decide (y.1 = I) = false›; show y.2 + 1 = y.1 + 1 - (if I < y.1 + 1 then 1 else 0); split at g3 <;> split <;> omega⟩ (by have g5 : y.1 < C := of_decide_eq_true ‹decide (y.1 < C) = true›; show (C - (y.1 + 1)).toNat < (C - y.1).toNat; omega) ⟨rfl, rfl, rfl, rfl, rfl, rfl, rfl, trivial⟩ hpS
                        · refine gc_skip ?_
                          refine tn ?_
                          refine gc_seq ?_
                          refine gc_region ?_
                          refine sq (q_mv rfl) rfl rfl ?_
                          refine sq (q_mv rfl) rfl rfl ?_
                          refine sq (q_iaSl (sl := fs) hfs.ok rfl rfl Tryz.runUnderlying30 Tryz.sizeOf41 (by rw [hn2]; have g1 := hI.1; have g3 := hI.2.2; have g5 : y.1 < C := of_decide_eq_true ‹decide (y.1 < C) = true›; have g4 : ¬ y.1 = I := of_decide_eq_false ‹decide (y.1 = I) = false›; split at g3 <;> omega)) rfl rfl ?_
                          refine sq (q_ldaSl (sl := fs) (e := 41) hfs.ok rfl Tryz.isAgg41 Tryz.sizeOf41 (by decide) (vs := Beat.c ⟨I, y.1, 1, W, false⟩) (by rw [hfs.xs, hI.2.2]; exact beats_slc bI.1 hI.1 (of_decide_eq_true ‹decide (y.1 < C) = true›) (of_decide_eq_false ‹decide (y.1 = I) = false›))) rfl rfl ?_
                          refine s_new (e_alloc Tryz.zeroValue41 rfl) rfl rfl fun b30 => ?_
                          refine s_st (e_st rfl rfl Tryz.sizeOf41 rfl rfl rfl rfl) rfl rfl ?_
                          refine go_nil ?_
                          refine tn ?_
                          refine gc_seq ?_
                          refine gc_region ?_
                          refine sq (q_mv rfl) rfl rfl ?_
                          refine sq (q_addi rfl rfl (by have g1 := hI.1; have g2 := hI.2.1; have g3 := hI.2.2; split at g3 <;> omega)) rfl rfl ?_
                          refine sq (q_as rfl) rfl rfl ?_
                          refine go_nil ?_
                          refine tn ?_
                          refine gc_seq ?_
                          refine gc_region ?_
                          refine sq (q_fa rfl Tryz.runUnderlying41 rfl Tryz.sizeOf3) rfl rfl ?_
                          refine sq (q_ld rfl Tryz.isAgg3 rfl) rfl rfl ?_
                          refine sq (OpQ.cast (q_neq rfl rfl) (by simp : _ = Value.bool false)) rfl rfl ?_
                          refine sq (q_mv rfl) rfl rfl ?_
                          refine sq (q_fa rfl Tryz.runUnderlying41 rfl Tryz.sizeOf3) rfl rfl ?_
                          refine sq (q_ld rfl Tryz.isAgg3 rfl) rfl rfl ?_
                          refine sq (q_mv rfl) rfl rfl ?_
                          refine sq (OpQ.cast (q_neq rfl rfl) (by simp : _ = Value.bool false)) rfl rfl ?_
                          refine sq (q_pick rfl rfl) rfl rfl ?_
                          refine sq (q_mv rfl) rfl rfl ?_
                          refine sq (q_fa rfl Tryz.runUnderlying41 rfl Tryz.sizeOf3) rfl rfl ?_
                          refine sq (q_ld rfl Tryz.isAgg3 rfl) rfl rfl ?_
                          refine sq (q_mv rfl) rfl rfl ?_
                          refine sq (OpQ.cast (q_neq rfl rfl) (by simp : _ = Value.bool false)) rfl rfl ?_
                          refine sq (q_pick rfl rfl) rfl rfl ?_
                          refine sq (q_mv rfl) rfl rfl ?_
                          refine sq (q_fa rfl Tryz.runUnderlying41 rfl Tryz.sizeOf2) rfl rfl ?_
                          refine sq (q_ld rfl Tryz.isAgg2 rfl) rfl rfl ?_
                          refine sq (OpQ.cast (q_neq rfl rfl) (by simp : _ = Value.bool false)) rfl rfl ?_
                          refine sq (q_pick rfl rfl) rfl rfl ?_
                          refine sq (q_mv rfl) rfl rfl ?_
                          refine sq (q_fa rfl Tryz.runUnderlying41 rfl Tryz.sizeOf2) rfl rfl ?_
                          refine sq (q_ld rfl Tryz.isAgg2 rfl) rfl rfl ?_
                          refine sq (q_mv rfl) rfl rfl ?_
                          refine sq (OpQ.cast (q_neq rfl rfl) (by simp : _ = Value.bool false)) rfl rfl ?_
                          refine sq (q_pick rfl rfl) rfl rfl ?_
                          refine sq (q_mv rfl) rfl rfl ?_
                          refine sq (q_fa rfl Tryz.runUnderlying41 rfl Tryz.sizeOf4) rfl rfl ?_
                          refine sq (OpQ.cast (q_ld rfl Tryz.isAgg4 rfl) (by rfl : _ = Value.bool false)) rfl rfl ?_
                          refine sq (q_pick rfl rfl) rfl rfl ?_
                          refine go_nil ?_
                          refine tn ?_
                          refine gc_false rfl ?_
                          refine gc_skip ?_
                          refine bn (tn ?_)
                          refine gc_region ?_
                          refine sq (q_mv rfl) rfl rfl ?_
                          refine sq (q_addi rfl rfl (by have h1 := hI.1; have h2 := hI.2.1; omega)) rfl rfl ?_
                          refine sq (q_as rfl) rfl rfl ?_
                          refine go_nil ?_
                          first | exact aq_round (y.1 + 1, y.2) ⟨by have := hI.1; omega, by have g5 : y.1 < C := of_decide_eq_true ‹decide (y.1 < C) = true›; omega, by have g3 := hI.2.2; have g4 : y.1 = I := of_decide_eq_true ‹decide (y.1 = I) = true›; show y.2 = y.1 + 1 - (if I < y.1 + 1 then 1 else 0); split at g3 <;> split <;> omega⟩ (by have g5 : y.1 < C := of_decide_eq_true ‹decide (y.1 < C) = true›; show (C - (y.1 + 1)).toNat < (C - y.1).toNat; omega) ⟨rfl, rfl, rfl, rfl, rfl, rfl, rfl, trivial⟩ hpS | exact aq_round (y.1 + 1, y.2 + 1) ⟨by have := hI.1; omega, by have g5 : y.1 < C := of_decide_eq_true ‹decide (y.1 < C) = true›; omega, by have g3 := hI.2.2; have g4 : ¬ y.1 = I := of_decide_eq_false ‹decide (y.1 = I) = false›; show y.2 + 1 = y.1 + 1 - (if I < y.1 + 1 then 1 else 0); split at g3 <;> split <;> omega⟩ (by have g5 : y.1 < C := of_decide_eq_true ‹decide (y.1 < C) = true›; show (C - (y.1 + 1)).toNat < (C - y.1).toNat; omega) ⟨rfl, rfl, rfl, rfl, rfl, rfl, rfl, trivial⟩ hpS
                      · refine gc_exit ?_
                        refine tx (tx (bx (tn ?_)))
                        refine gc_seq ?_
                        refine gc_region ?_
                        refine sq (q_mv rfl) rfl rfl ?_
                        refine sq (q_as rfl) rfl rfl ?_
                        refine go_nil ?_
                        refine tn ?_
                        refine gc_ret ?_
                        refine ret_1 (.inl rfl) rfl rfl ?_
                        exact rsE rfl
end Go.LL
