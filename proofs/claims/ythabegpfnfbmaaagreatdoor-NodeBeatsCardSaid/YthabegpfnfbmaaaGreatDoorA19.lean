/- Part of a claim: contracts of the program's functions, walked op by op. -/
import Derived.Test.YthabegpfnfbmaaaGreatDoorA18
set_option linter.unusedSimpArgs false
set_option linter.unusedVariables false
namespace Go.LL
open Go.Proofs
def minF : List Int → Int → Int
  | [], m => m
  | x :: xs, m => minF xs (min m x)
def minL (l : List Int) : Int := minF (l.drop 1) (l.getD 0 0)
theorem minF_at {l : List Int} {k : Nat} {m : Int} (h : k < l.length) : minF (l.drop k) m = minF (l.drop (k + 1)) (min m (l.getD k 0)) := by
  rw [List.drop_eq_getElem_cons h]
  have e : l.getD k 0 = l[k] := by simp [h]
  rw [e, minF]

set_option maxRecDepth 4000 in
set_option maxHeartbeats 2000000 in
theorem minI_spec (s : Sli) (l : List Int) (hs : SlI s l) (hl : l.length ≤ 1000) (h0 : 0 < l.length) :
    Spec Tryz.prog 291 [s.v] [] (s.L 3) (fun v L => v = i6 (minL l) ∧ L = []) := by
  refine spec_of Tryz.func291 rfl Tryz.ntmps291 (by simp) fun w0 hb => ?_
  refine gc_seq ?_
  refine gc_region ?_
  refine sq (q_as rfl) rfl rfl ?_
  refine go_nil ?_
  refine tn ?_
  refine gc_seq ?_
  refine gc_seq ?_
  refine gc_region ?_
  refine sq (q_mv rfl) rfl rfl ?_
  refine sq (q_lenS Tryz.runUnderlying36 rfl) rfl rfl ?_
  refine sq (q_lss rfl rfl) rfl rfl ?_
  refine go_nil ?_
  refine tn ?_
  refine gc_if rfl (fun h1 => ?_) (fun h1 => ?_)
  · exfalso; have := hs.n; simp_all; omega
  · refine gc_skip ?_
    refine tn ?_
    refine gc_seq ?_
    refine gc_region ?_
    refine sq (q_mv rfl) rfl rfl ?_
    refine sq (q_iaSl (sl := s) hs.ok rfl rfl Tryz.runUnderlying36 Tryz.sizeOf3 (by have := hs.n; omega)) rfl rfl ?_
    refine sq (q_ldSl (sl := s) (e := 3) hs.ok rfl Tryz.isAgg3 (map_lds hs.xs 0 h0)) rfl rfl ?_
    refine sq (q_as rfl) rfl rfl ?_
    refine go_nil ?_
    refine tn ?_
    refine gc_seq ?_
    refine gc_seq ?_
    refine gc_region ?_
    refine sq (q_as rfl) rfl rfl ?_
    refine go_nil ?_
    refine tn ?_
    refine gc_block ?_
    refine gc_loop (A := Int × Int) (fun y => 1 ≤ y.1 ∧ y.1 ≤ l.length ∧ minL l = minF (l.drop y.1.toNat) y.2) (fun y => [(0, s.v), (3, i6 y.2), (4, i6 y.1)]) (fun y => ([] : List Chunk)) (fun y => ((l.length : Int) - y.1).toNat) (1, _) ⟨by omega, by omega, rfl⟩ ⟨rfl, rfl, rfl, trivial⟩ hpS (fun y hI => ?_)
    refine gc_seq ?_
    refine gc_seq ?_
    refine gc_region ?_
    refine sq (q_mv rfl) rfl rfl ?_
    refine sq (q_mv rfl) rfl rfl ?_
    refine sq (q_lenS Tryz.runUnderlying36 rfl) rfl rfl ?_
    refine sq (q_lss rfl rfl) rfl rfl ?_
    refine go_nil ?_
    refine tn ?_
    refine gc_if rfl (fun h2 => ?_) (fun h2 => ?_)
    · refine gc_skip ?_
      refine tn ?_
      refine gc_seq ?_
      refine gc_block ?_
      refine gc_region ?_
      refine sq (q_mv rfl) rfl rfl ?_
      refine sq (q_mv rfl) rfl rfl ?_
      refine sq (q_mv rfl) rfl rfl ?_
      refine sq (q_iaSl (sl := s) hs.ok rfl rfl Tryz.runUnderlying36 Tryz.sizeOf3 (by have h1 := hI.1; have h2 := hI.2.1; have h3 := hs.n; simp only [decide_eq_true_eq] at *; omega)) rfl rfl ?_
      refine sq (q_ldSl (sl := s) (e := 3) hs.ok rfl Tryz.isAgg3 (map_lds hs.xs y.1.toNat (by have h1 := hI.1; have h2 := hI.2.1; have h3 := hs.n; simp only [decide_eq_true_eq] at *; omega))) rfl rfl ?_
      refine sq (q_min2 rfl rfl) rfl rfl ?_
      refine sq (q_as rfl) rfl rfl ?_
      refine go_nil ?_
      refine bn (tn ?_)
      refine gc_region ?_
      refine sq (q_mv rfl) rfl rfl ?_
      refine sq (q_addi rfl rfl (by have h1 := hI.1; have h2 := hI.2.1; omega)) rfl rfl ?_
      refine sq (q_as rfl) rfl rfl ?_
      refine go_nil ?_
      exact aq_round (y.1 + 1, min y.2 (l.getD y.1.toNat 0)) ⟨by have := hI.1; omega, by have h3 := hs.n; simp_all; omega, by rw [hI.2.2, show (y.1 + 1).toNat = y.1.toNat + 1 by (have := hI.1; omega), minF_at (by have h1 := hI.1; have h2 := hI.2.1; have h3 := hs.n; simp only [decide_eq_true_eq] at *; omega)]⟩ (by have h3 := hs.n; simp_all; omega) ⟨rfl, rfl, rfl, trivial⟩ hpS
    · refine gc_exit ?_
      refine tx (tx (bx (tn ?_)))
      refine gc_seq ?_
      refine gc_region ?_
      refine sq (q_mv rfl) rfl rfl ?_
      refine sq (q_as rfl) rfl rfl ?_
      refine go_nil ?_
      refine tn ?_
      refine gc_ret ?_
      refine ret_1 (.inl rfl) rfl rfl ?_
      have e : l.drop y.1.toNat = [] := (List.drop_eq_nil_of_le (by have h1 := hI.1; have h3 := hs.n; first | (simp_all; done) | (simp_all; omega)))
      have e2 := hI.2.2
      rw [e, minF] at e2
      exact rsE (by rw [e2])

set_option maxRecDepth 4000 in
set_option maxHeartbeats 2000000 in
theorem least_spec (s : Sli) (l : List Int) (hs : SlI s l) (hl : l.length ≤ 1000) (h0 : 0 < l.length) :
    Spec Tryz.prog 233 [s.v] [] (s.L 3) (fun v L => v = .tuple #[i6 (minL l), .bool true] ∧ L = []) := by
  refine spec_of Tryz.func233 rfl Tryz.ntmps233 (by simp) fun w0 hb => ?_
  refine gc_seq ?_
  refine gc_region ?_
  refine sq (q_as rfl) rfl rfl ?_
  refine sq (q_as rfl) rfl rfl ?_
  refine go_nil ?_
  refine tn ?_
  refine gc_seq ?_
  refine gc_seq ?_
  refine gc_region ?_
  refine sq (q_mv rfl) rfl rfl ?_
  refine sq (q_lenS Tryz.runUnderlying36 rfl) rfl rfl ?_
  refine sq (q_eql rfl rfl) rfl rfl ?_
  refine go_nil ?_
  refine tn ?_
  refine gc_if rfl (fun h1 => ?_) (fun h1 => ?_)
  · refine gc_seq ?_
    first | (exfalso; have := hs.n; simp_all; done) | (exfalso; have := hs.n; simp_all; omega)
  · refine gc_skip ?_
    refine tn ?_
    refine gc_seq ?_
    refine gc_region ?_
    refine sq (q_mv rfl) rfl rfl ?_
    refine s_callE (e_call (minI_spec s l hs hl h0) rfl en291) rfl rfl ?_
    refine sq (q_as rfl) rfl rfl ?_
    refine sq (q_as rfl) rfl rfl ?_
    refine go_nil ?_
    refine tn ?_
    refine gc_ret ?_
    refine ret_2 (.inl rfl) rfl rfl rfl ?_
    exact rsE (by first | rfl | (simp_all; done) | (simp_all; rfl) | (simp_all; omega) | (simp_all; intros; omega) | (simp_all; (repeat' split) <;> first | rfl | (simp_all; done) | omega | (exfalso; omega)))
end Go.LL
