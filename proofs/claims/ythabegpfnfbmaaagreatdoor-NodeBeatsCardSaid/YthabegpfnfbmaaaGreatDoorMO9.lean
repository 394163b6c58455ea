/- Part of a claim: contracts of the program's functions, walked op by op. -/
import Derived.Test.YthabegpfnfbmaaaGreatDoorMO8
set_option linter.unusedSimpArgs false
set_option linter.unusedVariables false
/- The functional model, ninth part: events. -/
namespace Go.LL
structure Ev where
  (k car fl dir gen cnt fnd floor d : Int)
abbrev Ev.c (e : Ev) : List Value := [i6 e.k, i6 e.car, i6 e.fl, i6 e.dir, i6 e.gen, i6 e.cnt, i6 e.fnd, i6 e.floor, i6 e.d]
structure SlE (s : Sli) (l : List Ev) : Prop where
  ok : s.OK 9
  n : s.n = l.length
  xs : s.xs = l.flatMap Ev.c
theorem SlE.none : SlE Sli.none [] := ⟨Sli.none_ok, rfl, rfl⟩
abbrev evS (b : Nat) (e : Ev) : Sli := ⟨some b, 1, 1, e.c, []⟩
theorem SlE.one (b : Nat) (e : Ev) : SlE (evS b e) [e] := ⟨⟨rfl, by simp, Nat.le_refl _, by show 1 ≤ 9223372036854775807; omega, rfl⟩, rfl, by simp⟩
/-- what a tick of a car that opens nothing tells -/
def driveE (id : Int) (d : Deed) : List Ev := if d.closed = true then [⟨6, id, 0, 0, 0, 0, 0, d.floor, 0⟩] else if d.moved ≠ 0 then [⟨7, id, 0, 0, 0, 0, 0, d.floor, d.moved⟩] else []
end Go.LL
