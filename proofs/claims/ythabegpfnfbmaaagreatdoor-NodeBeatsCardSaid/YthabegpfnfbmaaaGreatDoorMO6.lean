/- Part of a claim: contracts of the program's functions, walked op by op. -/
import Derived.Test.YthabegpfnfbmaaaGreatDoorMO5
set_option linter.unusedSimpArgs false
set_option linter.unusedVariables false
/- The functional model, sixth part: beats. -/
namespace Go.LL
instance (priority := 50) InM.any {b : Nat} {o : Obj} {L RO : List Chunk} [h : InR b o RO] : InM b o L RO := ⟨.inr h.mem⟩
structure Beat where
  (src to life seen : Int) (out : Bool)
abbrev Beat.v (f : Beat) : Value := .agg #[i6 1, i6 f.src, i6 f.to, i6 f.life, i6 f.seen, .bool f.out, i6 0, i6 0, i6 0, .slice none 0 0, .slice none 0 0]
abbrev Beat.c (f : Beat) : List Value := [i6 1, i6 f.src, i6 f.to, i6 f.life, i6 f.seen, .bool f.out, i6 0, i6 0, i6 0, .slice none 0 0, .slice none 0 0]
def Beat.err (f : Beat) : Option Nat :=
  if (0 ≤ f.src ∧ f.src < 16) ∧ (0 ≤ f.to ∧ f.to < 16) ∧ (0 ≤ f.life ∧ f.life ≤ 281474976710655) ∧ 0 ≤ f.seen ∧ f.seen ≤ 281474976710655 then none else some 0
def hearB (nm : NodeM) (x : Tab) (f : Beat) : Tab := if nm.down = true ∨ f.err.isSome = true ∨ f.to ≠ nm.id ∨ f.src = nm.id then x else (x.hear f.src f.life f.seen f.out).1
def seenN (st : StoreM) (x : Tab) (g : GateM) : Int := max (max st.count x.seen) g.e.count
/-- the beats that a node sends, up to a car -/
def beatsTo (id life seen : Int) (out : Bool) (k : Nat) : List Beat := ((List.range k).filter fun (j : Nat) => decide ((j : Int) ≠ id)).map fun (j : Nat) => ⟨id, j, life, seen, out⟩
theorem beats_no {id life seen : Int} {out : Bool} {k : Nat} (h : (k : Int) = id) : beatsTo id life seen out (k + 1) = beatsTo id life seen out k := by
  simp [beatsTo, List.range_succ, List.filter_append, h]
theorem beats_yes {id life seen : Int} {out : Bool} {k : Nat} (h : (k : Int) ≠ id) : beatsTo id life seen out (k + 1) = beatsTo id life seen out k ++ [⟨id, k, life, seen, out⟩] := by
  simp [beatsTo, List.range_succ, List.filter_append, h]
theorem beats_len (id life seen : Int) (out : Bool) (k : Nat) : (beatsTo id life seen out k).length ≤ k := by
  have := List.length_filter_le (fun (j : Nat) => decide ((j : Int) ≠ id)) (List.range k)
  simpa [beatsTo] using this
structure SlB (s : Sli) (l : List Beat) : Prop where
  ok : s.OK 11
  n : s.n = l.length
  xs : s.xs = l.flatMap Beat.c
end Go.LL
