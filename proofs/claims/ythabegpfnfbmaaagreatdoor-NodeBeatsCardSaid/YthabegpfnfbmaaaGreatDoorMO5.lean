/- Part of a claim: contracts of the program's functions, walked op by op. -/
import Derived.Test.YthabegpfnfbmaaaGreatDoorMO4
set_option linter.unusedSimpArgs false
set_option linter.unusedVariables false
/- The functional model, fifth part: nodes. -/
namespace Go.LL
structure NodeP where     -- where a node's parts lie
  (s g c l : Nat)
structure NodeM where
  (h : House) (id life : Int) (c : Car) (mem : Value) (ins : Nat → Bool) (out down : Bool) (since found : Int)
abbrev nodeC (p : NodeP) (h : House) (id life : Int) (c : Car) (mem : Value) (ins : Nat → Bool) (out down : Bool) (since found : Int) : List Value :=
  [i6 h.cars, i6 h.floors, i6 h.speed, i6 h.dwell, i6 id, pt p.s, i6 life, i6 c.s.pos, i6 c.s.dir, i6 c.s.door, .bool c.s.relevel, i6 c.held, pt p.g, mem, pt p.c, .bool (ins 0), .bool (ins 1), .bool (ins 2), .bool (ins 3), .bool (ins 4), .bool (ins 5), .bool (ins 6), .bool (ins 7), .bool (ins 8), .bool (ins 9), .bool (ins 10), .bool (ins 11), .bool (ins 12), .bool (ins 13), .bool (ins 14), .bool (ins 15), .bool (ins 16), .bool (ins 17), .bool (ins 18), .bool (ins 19), .bool (ins 20), .bool (ins 21), .bool (ins 22), .bool (ins 23), .bool (ins 24), .bool (ins 25), .bool (ins 26), .bool (ins 27), .bool (ins 28), .bool (ins 29), .bool (ins 30), .bool (ins 31), .bool (ins 32), .bool (ins 33), .bool (ins 34), .bool (ins 35), .bool (ins 36), .bool (ins 37), .bool (ins 38), .bool (ins 39), .bool (ins 40), .bool (ins 41), .bool (ins 42), .bool (ins 43), .bool (ins 44), .bool (ins 45), .bool (ins 46), .bool (ins 47), .bool (ins 48), .bool (ins 49), .bool (ins 50), .bool (ins 51), .bool (ins 52), .bool (ins 53), .bool (ins 54), .bool (ins 55), .bool (ins 56), .bool (ins 57), .bool (ins 58), .bool (ins 59), .bool (ins 60), .bool (ins 61), .bool (ins 62), .bool (ins 63), pt p.l, .bool out, .bool down, i6 since, i6 found]
abbrev NodeM.o (T : Nat) (p : NodeP) (n : NodeM) : Obj := .cells (nodeC p n.h n.id n.life n.c n.mem n.ins n.out n.down n.since n.found).toArray T (0, 0)
abbrev noIns : Nat → Bool := fun _ => false
abbrev Tab.new : Tab := ⟨fun _ => One.none, 0⟩
/-- what New answers: an error, or the record that is kept -/
def newErr (h : House) (id pos : Int) (m : CellM) (n : Nat) : Option Nat :=
  if ((carStart h pos).2 && !decide (id < 0) && !decide (h.cars ≤ id)) = false then some 0
  else if (openM m n).2.isSome = true then (openM m n).2
  else (saveM m (openM m n).1 ⟨(openM m n).1.count, w64 ((openM m n).1.life + 1)⟩).2.2
def newSave (m : CellM) (n : Nat) : CellM × StoreM × Option Nat := saveM m (openM m n).1 ⟨(openM m n).1.count, w64 ((openM m n).1.life + 1)⟩
def newCell (h : House) (id pos : Int) (m : CellM) (n : Nat) : CellM :=
  if ((carStart h pos).2 && !decide (id < 0) && !decide (h.cars ≤ id)) = false then m else if (openM m n).2.isSome = true then m else (newSave m n).1
end Go.LL
