/- Part of a claim: contracts of the program's functions, walked op by op. -/
import Derived.Test.YthabegpfnfbmaaaGreatDoorMO
import Derived.Test.YthabegpfnfbmaaaGreatDoorLL12
set_option linter.unusedSimpArgs false
set_option linter.unusedVariables false
/- The functional model, second part: stores. -/
namespace Go.LL
def CellM.OK (m : CellM) : Prop := ∀ x ∈ m.bs, 0 ≤ x ∧ x < 256
theorem CellM.get_b {m : CellM} (h : m.OK) (i : Int) : 0 ≤ (m.get i).1 ∧ (m.get i).1 < 256 := by
  unfold CellM.get
  split
  · simp
  · split
    · simp
    · rename_i h1 h2
      simp only [CellM.is, decide_eq_false_iff_not, Decidable.not_not] at h2
      have hi : i.toNat < m.bs.length := by omega
      simp only [List.getD_eq_getElem?_getD, List.getElem?_eq_getElem hi, Option.getD_some]
      exact h _ (List.getElem_mem hi)
def numF (m : CellM) (at_ : Int) : Nat → Int → Int → Int × Option Nat
  | 0, _, n => (n, none)
  | k + 1, i, n => if ((m.get (w64 (at_ + i))).2.isSome) = true then (0, (m.get (w64 (at_ + i))).2) else numF m at_ k (i + 1) (n * 256 + (m.get (w64 (at_ + i))).1)
def numberM (m : CellM) (at_ : Int) : Int × Option Nat := numF m at_ 6 0 0
structure Rec where
  (count life : Int)
deriving DecidableEq
abbrev Rec.v (r : Rec) : Value := .agg #[i6 r.count, i6 r.life]
def readM (m : CellM) (k : Int) : Rec × Bool × Option Nat :=
  let a := m.get (w64 (k * 13))
  if a.2.isSome = true ∨ a.1 ≠ 1 then (⟨0, 0⟩, false, a.2)
  else
    let c := numberM m (w64 (w64 (k * 13) + 1))
    if c.2.isSome = true then (⟨0, 0⟩, false, c.2)
    else
      let l := numberM m (w64 (w64 (w64 (k * 13) + 1) + 6))
      if l.2.isSome = true then (⟨0, 0⟩, false, l.2) else (⟨c.1, l.1⟩, true, none)
@[simp] theorem ev_isSome (ε : Nat → Nat × Value) (o : Option Nat) : (o.map ε).isSome = o.isSome := by cases o <;> rfl
theorem CellM.get_false {m : CellM} {i : Int} (h : (m.get i).2.isSome = false) : (m.get i).2 = none := by cases hh : (m.get i).2 <;> simp_all
structure StoreM where
  (count life at_ : Int)
deriving DecidableEq
abbrev StoreM.o (T b : Nat) (s : StoreM) : Obj := .cells #[pt b, i6 s.count, i6 s.life, i6 s.at_] T (0, 0)
def StoreM.see (s : StoreM) (k : Int) (r : Rec × Bool × Option Nat) : StoreM :=
  if (r.2.1 && (decide (s.at_ < 0) || decide (w64 (s.count + s.life) < w64 (r.1.count + r.1.life)))) = true then ⟨r.1.count, r.1.life, k⟩ else s
def openM (m : CellM) (n : Nat) : StoreM × Option Nat :=
  if (n : Int) < 26 then (⟨0, 0, -1⟩, some 0)
  else if (readM m 0).2.2.isSome = true then (⟨0, 0, -1⟩, (readM m 0).2.2)
  else if (readM m 1).2.2.isSome = true then (⟨0, 0, -1⟩, (readM m 1).2.2)
  else ((StoreM.see ⟨0, 0, -1⟩ 0 (readM m 0)).see 1 (readM m 1), none)
def badM (s : StoreM) (r : Rec) : Option Nat :=
  if r.count < 0 ∨ 281474976710655 < r.count ∨ r.life < 0 ∨ 281474976710655 < r.life then some 0
  else if r.count < s.count ∨ r.life < s.life ∨ (r.count = s.count ∧ r.life = s.life) then some 4 else none
def bytes6 (n : Int) : List Int := [n.fdiv (2 ^ 40) % 256, n.fdiv (2 ^ 32) % 256, n.fdiv (2 ^ 24) % 256, n.fdiv (2 ^ 16) % 256, n.fdiv (2 ^ 8) % 256, n.fdiv (2 ^ 0) % 256]
theorem openM_ge {m : CellM} {n : Nat} (h : 26 ≤ (n : Int)) : openM m n = if (readM m 0).2.2.isSome = true then (⟨0, 0, -1⟩, (readM m 0).2.2) else if (readM m 1).2.2.isSome = true then (⟨0, 0, -1⟩, (readM m 1).2.2) else ((StoreM.see ⟨0, 0, -1⟩ 0 (readM m 0)).see 1 (readM m 1), none) := by
  unfold openM; rw [if_neg (by omega)]
def OpenR (ε : Nat → Nat × Value) (T b n : Nat) (m : CellM) (v : Value) (L : List Chunk) : Prop :=
  (∃ e, (openM m n).2 = some e ∧ v = .tuple #[.pointer none, ev ε (some e)] ∧ L = []) ∨
  ((openM m n).2 = none ∧ ∃ s, v = .tuple #[pt s, .nilIface] ∧ L = [(s, StoreM.o T b (openM m n).1)])
theorem open_err {ε : Nat → Nat × Value} {T b n : Nat} {m : CellM} {L : List Chunk} {o : Option Nat} (h : o.isSome = true) (h2 : (openM m n).2 = o) : RS (OpenR ε T b n m) (.tuple #[.pointer none, ev ε o]) L := by
  obtain ⟨e, rfl⟩ := Option.isSome_iff_exists.1 h
  exact rsX [] (.inl ⟨e, h2, rfl, rfl⟩)
theorem open_ok {ε : Nat → Nat × Value} {T b n s : Nat} {m : CellM} {L Lr : List Chunk} {o : Obj} [hs : Sel [s] L [(s, o)] Lr] (h : (openM m n).2 = none) (h2 : o = StoreM.o T b (openM m n).1) : RS (OpenR ε T b n m) (.tuple #[pt s, .nilIface]) L :=
  rsX [s] (.inr ⟨h, s, rfl, by rw [h2]⟩)
end Go.LL
