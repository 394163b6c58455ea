/- Part of a claim: contracts of the program's functions, walked op by op. -/
import Derived.Test.YthabegpfnfbmaaaGreatDoorA15
import Derived.Test.YthabegpfnfbmaaaGreatDoorLL14
import Derived.Test.YthabegpfnfbmaaaGreatDoorSH2
set_option linter.unusedSimpArgs false
set_option linter.unusedVariables false
namespace Go.LL
open Go.Proofs
open Go.Sort in
theorem sortI_spec (s : Sli) (l : List Int) (hs : SlI s l) (hl : l.length ≤ 1000) : Spec Tryz.prog 293 [s.v] (s.L 3) [] (fun v L => v = .tuple #[] ∧ L = (s.setI (l.mergeSort fun x y => decide (x ≤ y))).L 3) := by
  cases hb : s.blk with
  | none =>
    obtain ⟨h1, h2, h3⟩ := hs.ok.nil hb
    have e1 : s.L 3 = [] := by simp [Sli.L, hb]
    have e2 : (s.setI (l.mergeSort fun x y => decide (x ≤ y))).L 3 = [] := by simp [Sli.L, Sli.setI, hb]
    rw [e1, e2]
    refine spec_pure fun w => ?_
    have : s.v = .slice none 0 0 := by simp [Sli.v, hb, h1, h2]
    rw [this]
    exact Tryz.slices_Sort_int_none none 0 w
  | some b =>
    refine spec_row hb hs (by simp) fun w hw => ?_
    have hv : s.v = .slice (some ⟨b, 0, none⟩) l.length s.cap := by simp [Sli.v, hb, hs.n]
    rw [hv]
    refine Tryz.slices_Sort_int b 0 s.cap l w ?_ (lt_of_get hw) ?_
    · intro j hj
      have hj' : j < l.length := by simpa using hj
      refine ⟨?_, by simp [World.frozen?, hw]⟩
      rw [Nat.zero_add, cell_of hw, List.getElem?_append_left (by rw [hs.xs]; simpa using hj'), hs.xs]
      simp [hj']
    · omega


set_option maxRecDepth 4000 in
set_option maxHeartbeats 2000000 in
theorem cloneI_spec (s : Sli) (l : List Int) (hs : SlI s l) (hl : l.length ≤ 1000) :
    Spec Tryz.prog 56 [s.v] [] (s.L 3) (fun v L => ∃ s2 : Sli, SlI s2 l ∧ v = s2.v ∧ L = s2.L 3) := by
  refine spec_of Tryz.func56 rfl Tryz.ntmps56 (by simp) fun w0 hb => ?_
  refine gc_seq ?_
  refine gc_region ?_
  refine sq (q_as rfl) rfl rfl ?_
  refine go_nil ?_
  refine tn ?_
  refine gc_seq ?_
  refine gc_seq ?_
  refine gc_region ?_
  refine sq (q_mv rfl) rfl rfl ?_
  refine sq (q_slnil_eql rfl rfl Tryz.underlying36) rfl rfl ?_
  refine go_nil ?_
  refine tn ?_
  refine gc_if rfl (fun h1 => ?_) (fun h1 => ?_)
  · refine gc_seq ?_
    refine gc_region ?_
    refine sq (q_as rfl) rfl rfl ?_
    refine go_nil ?_
    refine tn ?_
    refine gc_ret ?_
    refine tr ?_
    refine ret_1 (.inl rfl) rfl rfl ?_
    first | (refine rsX [] ⟨Sli.none, ?_, rfl, rfl⟩; have hb : s.blk = none := (by cases hh : s.blk with | none => rfl | some b => simp_all); obtain ⟨h1, _, _⟩ := hs.ok.nil hb; have hn := hs.n; have : l = [] := List.eq_nil_of_length_eq_zero (by omega); subst this; exact ⟨Sli.none_ok, rfl, rfl⟩) | exact rsY (A := Sli.L 3 Sli.none) [] ⟨Sli.none, ⟨Sli.none_ok, by have := hs.n; simp_all, by have := hs.xs; simp_all⟩, rfl, rfl⟩
  · refine gc_skip ?_
    refine tn ?_
    refine gc_seq ?_
    refine gc_region ?_
    refine s_app (e_bsl0 Tryz.runUnderlying36 Tryz.sizeOf3) rfl rfl fun s2 hok2 hn2 hx2 => ?_
    refine sq (q_mv rfl) rfl rfl ?_
    refine s_app (e_appSl (sl := s2) (r := s) rfl hok2 rfl hs.ok (by rw [hs.xs]; intro u hu; obtain ⟨x, _, rfl⟩ := List.mem_map.1 hu; rfl) Tryz.underlying36 ei3 (by have := hs.n; first | omega | (simp only [maxLen, Sli.none] at *; omega) | (simp only [maxLen] at *; omega)) (by have := hs.n; first | omega | (simp only [maxLen, Sli.none] at *; omega) | (simp only [maxLen] at *; omega))) rfl rfl fun s3 hok3 hn3 hx3 => ?_
    refine sq (q_as rfl) rfl rfl ?_
    refine go_nil ?_
    refine tn ?_
    refine gc_ret ?_
    refine ret_1 (.inl rfl) rfl rfl ?_
    first | (refine rsX [] ⟨Sli.none, ?_, rfl, rfl⟩; have hb : s.blk = none := (by cases hh : s.blk with | none => rfl | some b => simp_all); obtain ⟨h1, _, _⟩ := hs.ok.nil hb; have hn := hs.n; have : l = [] := List.eq_nil_of_length_eq_zero (by omega); subst this; exact ⟨Sli.none_ok, rfl, rfl⟩) | exact rsY (A := Sli.L 3 s3) [] ⟨s3, ⟨hok3, by have := hs.n; simp_all, by have := hs.xs; simp_all⟩, rfl, rfl⟩
open Go.Sort in
theorem compactI_spec (s : Sli) (l : List Int) (hs : SlI s l) (hl : l.length ≤ 1000) (hle : (Lib.compact l).length ≤ l.length) (hnil : Lib.compact ([] : List Int) = []) : Spec Tryz.prog 294 [s.v] (s.L 3) [] (fun v L => ∃ s2 : Sli, SlI s2 (Lib.compact l) ∧ v = s2.v ∧ L = s2.L 3) := by
  cases hb : s.blk with
  | none =>
    obtain ⟨h1, h2, h3⟩ := hs.ok.nil hb
    have hl0 : l = [] := List.eq_nil_of_length_eq_zero (by rw [← hs.n]; exact h1)
    have e1 : s.L 3 = [] := by simp [Sli.L, hb]
    rw [e1]
    have : s.v = .slice none 0 0 := by simp [Sli.v, hb, h1, h2]
    rw [this]
    refine (spec_pure fun w => Tryz.slices_Compact_int_empty none 0 w).mono fun v L ⟨hv, hL⟩ => ?_
    subst hl0
    exact ⟨Sli.none, by rw [hnil]; exact ⟨Sli.none_ok, rfl, rfl⟩, hv, hL⟩
  | some b =>
    have hn := hs.n
    have hcap : l.length ≤ s.cap := by rw [← hn]; exact hs.ok.le
    have hv : s.v = .slice (some ⟨b, 0, none⟩) l.length s.cap := by simp [Sli.v, hb, hs.n]
    rw [hv]
    refine (spec_row (l' := Lib.compact l ++ List.replicate (l.length - (Lib.compact l).length) 0) (u := .slice (some ⟨b, 0, none⟩) (Lib.compact l).length s.cap) hb hs (by simp; omega) fun w hw => ?_).mono fun v L ⟨h1, h2⟩ => ?_
    · refine (Tryz.slices_Compact_int b 0 s.cap l w ?_ (by omega) hcap).mono fun e w' ⟨he, q, hq⟩ => ⟨he, q, #[], by rw [hq]; simp⟩
      intro j hj
      have hj' : j < l.length := by simpa using hj
      refine ⟨?_, by simp [World.frozen?, hw]⟩
      rw [Nat.zero_add, cell_of hw, List.getElem?_append_left (by rw [hs.xs]; simpa using hj'), hs.xs]
      simp [hj']
    · have hall := hs.ok.all
      refine ⟨⟨some b, (Lib.compact l).length, s.cap, (Lib.compact l).map i6, (List.replicate (l.length - (Lib.compact l).length) (i6 0)) ++ s.rest⟩, ⟨⟨by simp, by simp, by show (Lib.compact l).length ≤ s.cap; omega, hs.ok.max, ?_⟩, rfl, rfl⟩, h1, ?_⟩
      · simp only [List.length_append, hs.xs, List.length_map, List.length_replicate] at hall ⊢
        omega
      · rw [h2]; simp [Sli.L, Sli.setI, hb]

end Go.LL
