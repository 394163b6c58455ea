/- Part of a claim: contracts of the program's functions, walked op by op. -/
import Derived.Test.YthabegpfnfbmaaaGreatDoorMO7
set_option linter.unusedSimpArgs false
set_option linter.unusedVariables false
/- The functional model, eighth part: stops. -/
namespace Go.LL
abbrev ins64 (f : Nat → Bool) : List Value := [.bool (f 0), .bool (f 1), .bool (f 2), .bool (f 3), .bool (f 4), .bool (f 5), .bool (f 6), .bool (f 7), .bool (f 8), .bool (f 9), .bool (f 10), .bool (f 11), .bool (f 12), .bool (f 13), .bool (f 14), .bool (f 15), .bool (f 16), .bool (f 17), .bool (f 18), .bool (f 19), .bool (f 20), .bool (f 21), .bool (f 22), .bool (f 23), .bool (f 24), .bool (f 25), .bool (f 26), .bool (f 27), .bool (f 28), .bool (f 29), .bool (f 30), .bool (f 31), .bool (f 32), .bool (f 33), .bool (f 34), .bool (f 35), .bool (f 36), .bool (f 37), .bool (f 38), .bool (f 39), .bool (f 40), .bool (f 41), .bool (f 42), .bool (f 43), .bool (f 44), .bool (f 45), .bool (f 46), .bool (f 47), .bool (f 48), .bool (f 49), .bool (f 50), .bool (f 51), .bool (f 52), .bool (f 53), .bool (f 54), .bool (f 55), .bool (f 56), .bool (f 57), .bool (f 58), .bool (f 59), .bool (f 60), .bool (f 61), .bool (f 62), .bool (f 63)]
theorem ins64_nth (f : Nat → Bool) : ∀ i : Nat, i < 64 → nth (ins64 f) (i * 1) = some (.bool (f i))
  | 0, _ => rfl
  | 1, _ => rfl
  | 2, _ => rfl
  | 3, _ => rfl
  | 4, _ => rfl
  | 5, _ => rfl
  | 6, _ => rfl
  | 7, _ => rfl
  | 8, _ => rfl
  | 9, _ => rfl
  | 10, _ => rfl
  | 11, _ => rfl
  | 12, _ => rfl
  | 13, _ => rfl
  | 14, _ => rfl
  | 15, _ => rfl
  | 16, _ => rfl
  | 17, _ => rfl
  | 18, _ => rfl
  | 19, _ => rfl
  | 20, _ => rfl
  | 21, _ => rfl
  | 22, _ => rfl
  | 23, _ => rfl
  | 24, _ => rfl
  | 25, _ => rfl
  | 26, _ => rfl
  | 27, _ => rfl
  | 28, _ => rfl
  | 29, _ => rfl
  | 30, _ => rfl
  | 31, _ => rfl
  | 32, _ => rfl
  | 33, _ => rfl
  | 34, _ => rfl
  | 35, _ => rfl
  | 36, _ => rfl
  | 37, _ => rfl
  | 38, _ => rfl
  | 39, _ => rfl
  | 40, _ => rfl
  | 41, _ => rfl
  | 42, _ => rfl
  | 43, _ => rfl
  | 44, _ => rfl
  | 45, _ => rfl
  | 46, _ => rfl
  | 47, _ => rfl
  | 48, _ => rfl
  | 49, _ => rfl
  | 50, _ => rfl
  | 51, _ => rfl
  | 52, _ => rfl
  | 53, _ => rfl
  | 54, _ => rfl
  | 55, _ => rfl
  | 56, _ => rfl
  | 57, _ => rfl
  | 58, _ => rfl
  | 59, _ => rfl
  | 60, _ => rfl
  | 61, _ => rfl
  | 62, _ => rfl
  | 63, _ => rfl
  | n + 64, h => absurd h (by omega)
def insTo (f : Nat → Bool) (k : Nat) : List Int := ((List.range k).filter f).map fun (j : Nat) => (j : Int)
theorem insTo_len (f : Nat → Bool) (k : Nat) : (insTo f k).length ≤ k := by
  have := List.length_filter_le f (List.range k)
  simpa [insTo] using this
theorem ins_no {f : Nat → Bool} {k : Nat} (h : f k = false) : insTo f (k + 1) = insTo f k := by simp [insTo, List.range_succ, List.filter_append, h]
theorem ins_yes {f : Nat → Bool} {k : Nat} (h : f k = true) : insTo f (k + 1) = insTo f k ++ [(k : Int)] := by simp [insTo, List.range_succ, List.filter_append, h]
def ofF : List Int → BitVec 64 → BitVec 64
  | [], b => b
  | f :: fs, b => ofF fs (if fl f then b ||| 1#64 <<< f.toNat else b)
theorem ofF_at {l : List Int} {k : Nat} {b : BitVec 64} (h : k < l.length) : ofF (l.drop k) b = ofF (l.drop (k + 1)) (if fl (l.getD k 0) then b ||| 1#64 <<< (l.getD k 0).toNat else b) := by
  rw [List.drop_eq_getElem_cons h]
  have e : l.getD k 0 = l[k] := by simp [h]
  rw [e, ofF]
end Go.LL
