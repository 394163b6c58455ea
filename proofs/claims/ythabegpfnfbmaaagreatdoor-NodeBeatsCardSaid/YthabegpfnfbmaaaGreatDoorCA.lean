/- Part of a claim: contracts of the program's functions, walked op by op. -/
import Derived.Test.YthabegpfnfbmaaaGreatDoorProg
import Derived.RangeFuncGives
import Derived.RangeFuncLeaves
import Derived.RangeFuncRecord
import Derived.RangeFuncIn
import Derived.Laws.IdiomRangeMap
import Derived.WalkKit
import Derived.OwnWalkIn
import Derived.TacticsInMore
import Derived.RegionIn
import Derived.LoopNIn
import Derived.LoopIn
set_option linter.unusedSimpArgs false
set_option linter.unusedVariables false
namespace Go.Proofs
open Go.RowKit

set_option maxRecDepth 100000 in
set_option maxHeartbeats 1000000 in
theorem values1_nil (n l Bm : Nat) (W : World) (hm : W.cell? ⟨Bm, 0, none⟩ = some (.map none)) :
    CallsIn Fence.wide n Tryz.prog 245 #[.func (.yield l) #[] #[], .pointer (some ⟨Bm, 0, none⟩)] W fun e W' => e = .returned (.tuple #[]) ∧ W' = W.alloc (.mapIter none 0 #[] 0) := by
  refine callsIn_of_wp Tryz.func245 rfl trivial ?_ rfl
  simp only [Tryz.ntmps245, List.size_toArray, List.length_cons, List.length_nil, Nat.reduceAdd, Nat.reduceSub, Array.replicate_succ, Array.replicate_zero, List.push_toArray, List.append_toArray, List.nil_append, List.cons_append]
  have hrg := run_range_nilMap (P := Tryz.prog) W 156 70 72 Tryz.underlying156
  have hnx : ∀ ty, (Instr.next (.pointer (some ⟨W.heap.size, 0, none⟩)) false ty).run Tryz.prog (W.alloc (.mapIter none 0 #[] 0)) = _ := fun ty => run_next_nilMap _ ty 0 0 #[]
  gi_wp2
  refine wpIn_loop_rounds 1 ?_
  rw [roundsIn_succ]
  gi_wp2
  go_end0
  exact ⟨rfl, rfl⟩

set_option maxRecDepth 100000 in
/-- a range over the values of a nil map: no round -/
theorem rangeFunc_nil {n : Nat} {g : Operand} {ps : Array Tmp} {assign body : Code} {Q : Exit → Act → World → Prop} {a : Act} {w : World} {Bm : Nat} (hn : 1 ≤ n) (hg : a.eval g = .func (.func 245) #[] #[.pointer (some ⟨Bm, 0, none⟩)])
    (hB : Bm < w.heap.size) (hm : w.cell? ⟨Bm, 0, none⟩ = some (.map none))
    (h : ∀ W', Below w.heap.size w W' → W'.heap[w.heap.size]? = some (.deferred (some [])) → Q .normal { a with defers := [{ target := .collected w.heap.size, args := #[] }] ++ a.defers } W') :
    (Code.rangeFunc g ps assign body).wpIn Fence.wide n Tryz.prog Q a w := by
  refine wpIn_rangeFunc ?_
  intro fn hfn
  have en : ∀ xs w, (callFunc 245 xs).run Tryz.prog w = .ok (.enter 245 xs) w := fun xs w => by kernel_rfl
  obtain ⟨rc, hrc⟩ : ∃ rc : Loop, rc = { state := .ready, pending := none, fn, tmps := a.tmps, params := ps, assign, body, defers := w.heap.size } := ⟨_, rfl⟩
  obtain ⟨W1, hW1⟩ : ∃ W1, (w.alloc (.deferred (some []))).alloc (.loop rc) = W1 := ⟨_, rfl⟩
  have hs1 : W1.heap.size = w.heap.size + 2 := by rw [← hW1]; simp
  have hL1 : W1.heap[w.heap.size + 1]? = some (.loop rc) := by rw [← hW1]; have := World.alloc_heap_new (w.alloc (.deferred (some []))) (.loop rc); rwa [World.size_alloc] at this
  have hK1 : W1.heap[w.heap.size]? = some (.deferred (some [])) := by rw [← hW1]; exact (Below.heap_alloc _ _ _ (by simp)).trans (World.alloc_heap_new w _)
  have hb1 : Below w.heap.size w W1 := by rw [← hW1]; exact ((Below.refl _ w).alloc (Nat.le_refl _) _).alloc (by simp) _
  have hm1 : W1.cell? ⟨Bm, 0, none⟩ = some (.map none) := (hb1.cell (p := ⟨Bm, 0, none⟩) hB).trans hm
  refine ⟨w.heap.size + 1, [{ target := .collected w.heap.size, args := #[] }], W1, { target := .fn (.func 245) #[.pointer (some ⟨Bm, 0, none⟩)], args := #[.func (.yield (w.heap.size + 1)) #[] #[]] }, W1, 245,
    #[.func (.yield (w.heap.size + 1)) #[] #[]] ++ #[.pointer (some ⟨Bm, 0, none⟩)], W1, ?_, ?_, ?_, ?_, ?_, ?_⟩
  · rw [← hW1, hrc]; exact run_enterLoop_outer _ _ _ _ _
  · simp [resolve, hg, Deferred.ofValue, show ∀ v, a.eval (.const v) = v from fun _ => rfl]
  · intro _ _; exact True.intro
  · simp [invoke, go_sem, en]
  · intro _; exact hn
  refine (values1_nil (n - 1) (w.heap.size + 1) Bm W1 hm1).mono ?_
  rintro e W2 ⟨rfl, hW2⟩
  have hg2 : ∀ k, k < W1.heap.size → W2.heap[k]? = W1.heap[k]? := fun k hk => by rw [hW2]; exact Below.heap_alloc _ _ k hk
  have hL2 := (hg2 _ (by omega)).trans hL1
  have hK2 := (hg2 _ (by omega)).trans hK1
  have hb2 : Below w.heap.size w W2 := by rw [hW2]; exact hb1.alloc hb1.size _
  have hend := run_endLoop (P := Tryz.prog) hL2 (by rw [hrc]; simp)
  obtain ⟨W3, hW3⟩ : ∃ W3, W2.putObj (w.heap.size + 1) (.loop { rc with state := .exhausted }) = W3 := ⟨_, rfl⟩
  rw [hW3] at hend
  have hpe : rc.pending = none := by rw [hrc]
  rw [hpe] at hend
  refine ⟨none, W3, hend, ?_⟩
  refine h W3 ?_ ?_
  · have hg3 : W2.grownBy W3 (some (w.heap.size + 1)) := by rw [← hW3]; exact ⟨rfl, rfl, rfl, by simp [World.putObj], fun k _ hk => World.putObj_heap_other (fun e => hk (by rw [e]))⟩
    exact hb2.grown hg3 hb2.size (fun k e => by cases e; omega)
  · rw [← hW3]; exact (World.putObj_heap_other (by omega)).trans hK2

set_option maxRecDepth 100000 in
set_option maxHeartbeats 2000000 in
theorem appendSeq_nil (Bm : Nat) (w : World) (hB : Bm < w.heap.size) (hm : w.cell? ⟨Bm, 0, none⟩ = some (.map none)) :
    Calls Tryz.prog 297 #[.slice none 0 0, .func (.func 245) #[] #[.pointer (some ⟨Bm, 0, none⟩)]] w fun e w' => e = .returned (.slice none 0 0) ∧ Below w.heap.size w w' := by
  refine (callsIn_wide (n := 2)).1 ?_
  refine callsIn_of_wp_marks Tryz.func297 rfl trivial ?_ rfl
  simp only [Tryz.ntmps297, List.size_toArray, List.length_cons, List.length_nil, Nat.reduceAdd, Nat.reduceSub, Array.replicate_succ, Array.replicate_zero, List.push_toArray, List.append_toArray, List.nil_append, List.cons_append]
  gi_wp2
  have hb0 : Below w.heap.size w (w.alloc (.cells #[.slice none 0 0] 58)) := (Below.refl _ w).alloc (Nat.le_refl _) _
  refine rangeFunc_nil (by decide) rfl (by simp; omega) ((hb0.cell (p := ⟨Bm, 0, none⟩) hB).trans hm) fun W3 hb3 hK3 => ?_
  have hv3 : W3.heap[w.heap.size]? = some (.cells #[.slice none 0 0] 58 (0, 0)) := (hb3.block w.heap.size (by simp)).trans (World.alloc_heap_new w _)
  have hc3 : W3.cell? ⟨w.heap.size, 0, none⟩ = some (.slice none 0 0) := by simp [World.cell?, hv3]
  gi_wp2
  refine ⟨by simp, .inl ⟨_, _, rfl, run_takeDeferred hK3, ?_⟩⟩
  have hB3 : Below w.heap.size w W3 := hb0.trans (hb3.mono hb0.size)
  have hg4 : W3.grownBy (W3.putObj (w.alloc (.cells #[.slice none 0 0] 58)).heap.size (.deferred none)) (some (w.alloc (.cells #[.slice none 0 0] 58)).heap.size) := ⟨rfl, rfl, rfl, by simp [World.putObj], fun k _ hk => World.putObj_heap_other (fun e => hk (by rw [e]))⟩
  exact ⟨_, results_tmp rfl _ _ _, rfl, hB3.grown hg4 hB3.size (fun k e => by cases e; simp)⟩
end Go.Proofs
