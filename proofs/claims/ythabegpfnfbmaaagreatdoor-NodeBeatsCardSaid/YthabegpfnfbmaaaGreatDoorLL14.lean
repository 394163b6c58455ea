/- Part of a claim: contracts of the program's functions, walked op by op. -/
import Derived.Test.YthabegpfnfbmaaaGreatDoorMO9
import Derived.Test.YthabegpfnfbmaaaGreatDoorLL13
import Derived.Sort.Grow
set_option linter.unusedSimpArgs false
set_option linter.unusedVariables false
/- From the kit's words on rows (putRow, grow) to chunks. -/
namespace Go.LL
open Go.Sort
theorem putCells_list (l : List Int) (old rest : List Value) (h : old.length = l.length) : putCells i6 0 l.toArray (old ++ rest).toArray = (l.map i6 ++ rest).toArray := by
  apply Array.ext_getElem?
  intro k
  simp only [putCells, Array.getElem?_mapIdx, List.getElem?_toArray, List.size_toArray, Nat.zero_le, Nat.zero_add, true_and, Nat.sub_zero]
  by_cases hk : k < l.length
  · rw [List.getElem?_append_left (by omega), List.getElem?_append_left (by simpa using hk), List.getElem?_eq_getElem (by omega), List.getElem?_map, List.getElem?_eq_getElem hk]
    simp [hk]
  · rw [List.getElem?_append_right (by omega), List.getElem?_append_right (by simp; omega)]
    simp [hk, h]
theorem heap_row {w : World} {b n : Nat} {l : List Int} {os : Array Obj} {old rest : List Value} {e : Nat} (hb : w.heap[b]? = some (.cells (old ++ rest).toArray e (0, 0))) (h : old.length = l.length) :
    (grow (putRow i6 (Sort.ahead w n) b 0 l.toArray) os).heap[b]? = some (.cells (l.map i6 ++ rest).toArray e (0, 0)) := by
  have hlt := lt_of_get hb
  have hs : (w.heap.modify b (onCells (putCells i6 0 l.toArray))).size = w.heap.size := by simp
  show (w.heap.modify b (onCells (putCells i6 0 l.toArray)) ++ os)[b]? = _
  rw [Array.getElem?_append_left (by rw [hs]; exact hlt), Array.getElem?_modify, if_pos rfl, hb]
  simp only [Option.map_some, onCells, putCells_list l old rest h]
theorem heap_row_other {w : World} {b n k : Nat} {l : List Int} {os : Array Obj} (hk : k < w.heap.size) (hne : k ≠ b) :
    (grow (putRow i6 (Sort.ahead w n) b 0 l.toArray) os).heap[k]? = w.heap[k]? := by
  have hs : (w.heap.modify b (onCells (putCells i6 0 l.toArray))).size = w.heap.size := by simp
  show (w.heap.modify b (onCells (putCells i6 0 l.toArray)) ++ os)[k]? = _
  rw [Array.getElem?_append_left (by rw [hs]; exact hk), Array.getElem?_modify, if_neg (Ne.symm hne)]
def Sli.setI (s : Sli) (l : List Int) : Sli := { s with xs := l.map i6 }
theorem SlI.setI {s : Sli} {l l' : List Int} (hs : SlI s l) (h : l'.length = l.length) : SlI (s.setI l') l' :=
  ⟨⟨by simp [Sli.setI, h, hs.n], hs.ok.nil, hs.ok.le, hs.ok.max, by have := hs.ok.all; simp only [List.length_append, hs.xs, List.length_map] at this; simpa [Sli.setI, h] using this⟩, by simp [Sli.setI, h, hs.n], rfl⟩
theorem spec_row {P : Program} {f : FuncId} {args : List Value} {u : Value} {s : Sli} {b e : Nat} {l l' : List Int} (hb : s.blk = some b) (hs : SlI s l) (hlen : l'.length = l.length)
    (h : ∀ w, w.heap[b]? = some (.cells (s.xs ++ s.rest).toArray e (0, 0)) → Calls P f args.toArray w fun e' w' => e' = .returned u ∧ ∃ n os, w' = grow (putRow i6 (Sort.ahead w n) b 0 l'.toArray) os) :
    Spec P f args (s.L e) [] (fun v L => v = u ∧ L = (s.setI l').L e) := fun w hL _ => by
  have hmem : (b, Obj.cells (s.xs ++ s.rest).toArray e (0, 0)) ∈ s.L e := by simp [Sli.L, hb]
  have hbk : bks (s.L e) = [b] := by simp [Sli.L, hb, bks]
  have hL' : (s.setI l').L e = [(b, Obj.cells (l'.map i6 ++ s.rest).toArray e (0, 0))] := by simp [Sli.L, Sli.setI, hb]
  have hg := hL.get _ hmem
  refine (h w hg).mono fun e' w' ⟨he, n, os, hw⟩ => ⟨u, _, he, ⟨rfl, rfl⟩, ?_, ?_, ?_⟩
  · rw [hL']
    refine ⟨by simp [bks], fun x hx => ?_⟩
    have : x = (b, Obj.cells (l'.map i6 ++ s.rest).toArray e (0, 0)) := by simpa using hx
    subst this
    rw [hw]
    exact heap_row hg (by rw [hs.xs]; simp [hlen])
  · rw [hbk, hw]
    exact ⟨rfl, rfl, rfl, by simp [grow, putRow, mapBlock, Sort.ahead], fun k hk hne => heap_row_other hk (by simpa using hne)⟩
  · rw [hL', hbk]
    intro x hx
    have : x = (b, Obj.cells (l'.map i6 ++ s.rest).toArray e (0, 0)) := by simpa using hx
    subst this
    exact .inl (by simp)
end Go.LL
