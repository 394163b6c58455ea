/- Part of a claim: contracts of the program's functions, walked op by op. -/
import Derived.Test.YthabegpfnfbmaaaGreatDoorMO2
set_option linter.unusedSimpArgs false
set_option linter.unusedVariables false
/- The functional model, third part: gates, tables, frames. -/
namespace Go.LL
structure GateM where
  (e : Epoch) (hop floor : Int)
abbrev GateM.o (T : Nat) (g : GateM) : Obj := .cells #[i6 g.e.count, i6 g.e.founder, i6 g.hop, i6 g.floor] T (0, 0)
def GateM.above (g : GateM) (e : Epoch) : Bool := e.ok && decide (g.floor < e.count)
def GateM.found (g : GateM) (e : Epoch) : GateM × Bool := if (g.above e && g.e.lt e) = true then (⟨e, 0, g.floor⟩, true) else (g, false)
structure One where
  (known heard out : Bool) (life age : Int)
abbrev One.none : One := ⟨false, false, false, 0, 0⟩
structure Tab where
  (t : Nat → One) (seen : Int)
abbrev tabC (T : Nat → One) (s : Int) : List Value := [.bool (T 0).known, .bool (T 0).heard, .bool (T 0).out, i6 (T 0).life, i6 (T 0).age, .bool (T 1).known, .bool (T 1).heard, .bool (T 1).out, i6 (T 1).life, i6 (T 1).age, .bool (T 2).known, .bool (T 2).heard, .bool (T 2).out, i6 (T 2).life, i6 (T 2).age, .bool (T 3).known, .bool (T 3).heard, .bool (T 3).out, i6 (T 3).life, i6 (T 3).age, .bool (T 4).known, .bool (T 4).heard, .bool (T 4).out, i6 (T 4).life, i6 (T 4).age, .bool (T 5).known, .bool (T 5).heard, .bool (T 5).out, i6 (T 5).life, i6 (T 5).age, .bool (T 6).known, .bool (T 6).heard, .bool (T 6).out, i6 (T 6).life, i6 (T 6).age, .bool (T 7).known, .bool (T 7).heard, .bool (T 7).out, i6 (T 7).life, i6 (T 7).age, .bool (T 8).known, .bool (T 8).heard, .bool (T 8).out, i6 (T 8).life, i6 (T 8).age, .bool (T 9).known, .bool (T 9).heard, .bool (T 9).out, i6 (T 9).life, i6 (T 9).age, .bool (T 10).known, .bool (T 10).heard, .bool (T 10).out, i6 (T 10).life, i6 (T 10).age, .bool (T 11).known, .bool (T 11).heard, .bool (T 11).out, i6 (T 11).life, i6 (T 11).age, .bool (T 12).known, .bool (T 12).heard, .bool (T 12).out, i6 (T 12).life, i6 (T 12).age, .bool (T 13).known, .bool (T 13).heard, .bool (T 13).out, i6 (T 13).life, i6 (T 13).age, .bool (T 14).known, .bool (T 14).heard, .bool (T 14).out, i6 (T 14).life, i6 (T 14).age, .bool (T 15).known, .bool (T 15).heard, .bool (T 15).out, i6 (T 15).life, i6 (T 15).age, i6 s]
abbrev Tab.o (T : Nat) (x : Tab) : Obj := .cells (tabC x.t x.seen).toArray T (0, 0)
def setT (T : Nat → One) (i : Nat) (o : One) : Nat → One := fun j => if j = i then o else T j
theorem tab_0 (T : Nat → One) (s : Int) : ∀ i : Nat, i < 16 → nth (tabC T s) (0 + i * 5 + 0) = some (.bool (T i).known)
  | 0, _ => rfl
  | 1, _ => rfl
  | 2, _ => rfl
  | 3, _ => rfl
  | 4, _ => rfl
  | 5, _ => rfl
  | 6, _ => rfl
  | 7, _ => rfl
  | 8, _ => rfl
  | 9, _ => rfl
  | 10, _ => rfl
  | 11, _ => rfl
  | 12, _ => rfl
  | 13, _ => rfl
  | 14, _ => rfl
  | 15, _ => rfl
  | n + 16, h => absurd h (by omega)
theorem tab_1 (T : Nat → One) (s : Int) : ∀ i : Nat, i < 16 → nth (tabC T s) (0 + i * 5 + 1) = some (.bool (T i).heard)
  | 0, _ => rfl
  | 1, _ => rfl
  | 2, _ => rfl
  | 3, _ => rfl
  | 4, _ => rfl
  | 5, _ => rfl
  | 6, _ => rfl
  | 7, _ => rfl
  | 8, _ => rfl
  | 9, _ => rfl
  | 10, _ => rfl
  | 11, _ => rfl
  | 12, _ => rfl
  | 13, _ => rfl
  | 14, _ => rfl
  | 15, _ => rfl
  | n + 16, h => absurd h (by omega)
theorem tab_3 (T : Nat → One) (s : Int) : ∀ i : Nat, i < 16 → nth (tabC T s) (0 + i * 5 + 3) = some (i6 (T i).life)
  | 0, _ => rfl
  | 1, _ => rfl
  | 2, _ => rfl
  | 3, _ => rfl
  | 4, _ => rfl
  | 5, _ => rfl
  | 6, _ => rfl
  | 7, _ => rfl
  | 8, _ => rfl
  | 9, _ => rfl
  | 10, _ => rfl
  | 11, _ => rfl
  | 12, _ => rfl
  | 13, _ => rfl
  | 14, _ => rfl
  | 15, _ => rfl
  | n + 16, h => absurd h (by omega)
theorem tab_4 (T : Nat → One) (s : Int) : ∀ i : Nat, i < 16 → nth (tabC T s) (0 + i * 5 + 4) = some (i6 (T i).age)
  | 0, _ => rfl
  | 1, _ => rfl
  | 2, _ => rfl
  | 3, _ => rfl
  | 4, _ => rfl
  | 5, _ => rfl
  | 6, _ => rfl
  | 7, _ => rfl
  | 8, _ => rfl
  | 9, _ => rfl
  | 10, _ => rfl
  | 11, _ => rfl
  | 12, _ => rfl
  | 13, _ => rfl
  | 14, _ => rfl
  | 15, _ => rfl
  | n + 16, h => absurd h (by omega)
theorem tab_set (T : Nat → One) (s : Int) (o : One) : ∀ i : Nat, i < 16 → upd (tabC T s) (0 + i * 5) [.bool o.known, .bool o.heard, .bool o.out, i6 o.life, i6 o.age] = some (tabC (setT T i o) s)
  | 0, _ => rfl
  | 1, _ => rfl
  | 2, _ => rfl
  | 3, _ => rfl
  | 4, _ => rfl
  | 5, _ => rfl
  | 6, _ => rfl
  | 7, _ => rfl
  | 8, _ => rfl
  | 9, _ => rfl
  | 10, _ => rfl
  | 11, _ => rfl
  | 12, _ => rfl
  | 13, _ => rfl
  | 14, _ => rfl
  | 15, _ => rfl
  | n + 16, h => absurd h (by omega)
theorem tab_set4 (T : Nat → One) (s : Int) (x : Int) : ∀ i : Nat, i < 16 → upd (tabC T s) (0 + i * 5 + 4) [i6 x] = some (tabC (setT T i ⟨(T i).known, (T i).heard, (T i).out, (T i).life, x⟩) s)
  | 0, _ => rfl
  | 1, _ => rfl
  | 2, _ => rfl
  | 3, _ => rfl
  | 4, _ => rfl
  | 5, _ => rfl
  | 6, _ => rfl
  | 7, _ => rfl
  | 8, _ => rfl
  | 9, _ => rfl
  | 10, _ => rfl
  | 11, _ => rfl
  | 12, _ => rfl
  | 13, _ => rfl
  | 14, _ => rfl
  | 15, _ => rfl
  | n + 16, h => absurd h (by omega)
theorem tab_set1 (T : Nat → One) (s : Int) (x : Bool) : ∀ i : Nat, i < 16 → upd (tabC T s) (0 + i * 5 + 1) [.bool x] = some (tabC (setT T i ⟨(T i).known, x, (T i).out, (T i).life, (T i).age⟩) s)
  | 0, _ => rfl
  | 1, _ => rfl
  | 2, _ => rfl
  | 3, _ => rfl
  | 4, _ => rfl
  | 5, _ => rfl
  | 6, _ => rfl
  | 7, _ => rfl
  | 8, _ => rfl
  | 9, _ => rfl
  | 10, _ => rfl
  | 11, _ => rfl
  | 12, _ => rfl
  | 13, _ => rfl
  | 14, _ => rfl
  | 15, _ => rfl
  | n + 16, h => absurd h (by omega)
theorem tab_slc (T : Nat → One) (s : Int) : ∀ i : Nat, i < 16 → slc (tabC T s) (i * 5) 5 = some [.bool (T i).known, .bool (T i).heard, .bool (T i).out, i6 (T i).life, i6 (T i).age]
  | 0, _ => rfl
  | 1, _ => rfl
  | 2, _ => rfl
  | 3, _ => rfl
  | 4, _ => rfl
  | 5, _ => rfl
  | 6, _ => rfl
  | 7, _ => rfl
  | 8, _ => rfl
  | 9, _ => rfl
  | 10, _ => rfl
  | 11, _ => rfl
  | 12, _ => rfl
  | 13, _ => rfl
  | 14, _ => rfl
  | 15, _ => rfl
  | n + 16, h => absurd h (by omega)
def lcar (n : Int) : Bool := decide (0 ≤ n ∧ n < 16)
def Tab.hear (x : Tab) (n life seen : Int) (out : Bool) : Tab × Bool :=
  if (!lcar n || decide (life < 0) || decide (seen < 0) || ((x.t n.toNat).known && decide (life < (x.t n.toNat).life))) = true then (x, false)
  else (⟨setT x.t n.toNat ⟨true, true, out, life, 0⟩, max x.seen seen⟩, true)
def One.tick (o : One) : One := if o.heard = true then ⟨o.known, decide (w64 (o.age + 1) ≤ 3), o.out, o.life, w64 (o.age + 1)⟩ else o
def tickTo (T : Nat → One) (k : Nat) : Nat → One := fun j => if j < k then (T j).tick else T j
def Tab.tick (x : Tab) : Tab := ⟨tickTo x.t 16, x.seen⟩
abbrev ageT (T : Nat → One) (k : Nat) : Nat → One := setT T k ⟨(T k).known, (T k).heard, (T k).out, (T k).life, w64 ((T k).age + 1)⟩
abbrev hrdT (T : Nat → One) (k : Nat) : Nat → One := setT (ageT T k) k ⟨(ageT T k k).known, decide ((ageT T k k).age ≤ 3), (ageT T k k).out, (ageT T k k).life, (ageT T k k).age⟩
theorem tick_0 (T : Nat → One) : T = tickTo T 0 := by funext j; simp [tickTo]
theorem tick_no {T0 T : Nat → One} {k : Nat} (h : T = tickTo T0 k) (hh : (T k).heard = false) : T = tickTo T0 (k + 1) := by
  have hk : T k = T0 k := by rw [h]; simp [tickTo]
  funext j
  rw [h]
  simp only [tickTo]
  by_cases e : j = k
  · subst e
    rw [if_neg (by omega), if_pos (by omega), One.tick, if_neg (by rw [← hk, hh]; simp)]
  · by_cases l : j < k
    · rw [if_pos l, if_pos (by omega)]
    · rw [if_neg l, if_neg (by omega)]
theorem tick_yes {T0 T : Nat → One} {k : Nat} (h : T = tickTo T0 k) (hh : (T k).heard = true) : hrdT T k = tickTo T0 (k + 1) := by
  have hk : T k = T0 k := by rw [h]; simp [tickTo]
  funext j
  by_cases e : j = k
  · subst e
    simp only [hrdT, setT, tickTo, if_true, hk]
    rw [if_pos (by omega), One.tick, if_pos (by rw [← hk, hh])]
  · simp only [hrdT, setT, if_neg e]
    rw [h]
    simp only [tickTo]
    by_cases l : j < k
    · rw [if_pos l, if_pos (by omega)]
    · rw [if_neg l, if_neg (by omega)]
abbrev tab80 (T : Nat → One) : List Value := [.bool (T 0).known, .bool (T 0).heard, .bool (T 0).out, i6 (T 0).life, i6 (T 0).age, .bool (T 1).known, .bool (T 1).heard, .bool (T 1).out, i6 (T 1).life, i6 (T 1).age, .bool (T 2).known, .bool (T 2).heard, .bool (T 2).out, i6 (T 2).life, i6 (T 2).age, .bool (T 3).known, .bool (T 3).heard, .bool (T 3).out, i6 (T 3).life, i6 (T 3).age, .bool (T 4).known, .bool (T 4).heard, .bool (T 4).out, i6 (T 4).life, i6 (T 4).age, .bool (T 5).known, .bool (T 5).heard, .bool (T 5).out, i6 (T 5).life, i6 (T 5).age, .bool (T 6).known, .bool (T 6).heard, .bool (T 6).out, i6 (T 6).life, i6 (T 6).age, .bool (T 7).known, .bool (T 7).heard, .bool (T 7).out, i6 (T 7).life, i6 (T 7).age, .bool (T 8).known, .bool (T 8).heard, .bool (T 8).out, i6 (T 8).life, i6 (T 8).age, .bool (T 9).known, .bool (T 9).heard, .bool (T 9).out, i6 (T 9).life, i6 (T 9).age, .bool (T 10).known, .bool (T 10).heard, .bool (T 10).out, i6 (T 10).life, i6 (T 10).age, .bool (T 11).known, .bool (T 11).heard, .bool (T 11).out, i6 (T 11).life, i6 (T 11).age, .bool (T 12).known, .bool (T 12).heard, .bool (T 12).out, i6 (T 12).life, i6 (T 12).age, .bool (T 13).known, .bool (T 13).heard, .bool (T 13).out, i6 (T 13).life, i6 (T 13).age, .bool (T 14).known, .bool (T 14).heard, .bool (T 14).out, i6 (T 14).life, i6 (T 14).age, .bool (T 15).known, .bool (T 15).heard, .bool (T 15).out, i6 (T 15).life, i6 (T 15).age]
theorem tab80_slc (T : Nat → One) : ∀ i : Nat, i < 16 → slc (tab80 T) (i * 5) 5 = some [.bool (T i).known, .bool (T i).heard, .bool (T i).out, i6 (T i).life, i6 (T i).age]
  | 0, _ => rfl
  | 1, _ => rfl
  | 2, _ => rfl
  | 3, _ => rfl
  | 4, _ => rfl
  | 5, _ => rfl
  | 6, _ => rfl
  | 7, _ => rfl
  | 8, _ => rfl
  | 9, _ => rfl
  | 10, _ => rfl
  | 11, _ => rfl
  | 12, _ => rfl
  | 13, _ => rfl
  | 14, _ => rfl
  | 15, _ => rfl
  | n + 16, h => absurd h (by omega)
/-- a slice of ints that is known -/
structure SlI (s : Sli) (l : List Int) : Prop where
  ok : s.OK 1
  n : s.n = l.length
  xs : s.xs = l.map i6
def aliveTo (T : Nat → One) (k : Nat) : List Int := ((List.range k).filter fun j => (T j).heard && !(T j).out).map fun (j : Nat) => (j : Int)
theorem alive_no {T : Nat → One} {k : Nat} (h : ((T k).heard && !(T k).out) = false) : aliveTo T (k + 1) = aliveTo T k := by simp only [aliveTo, List.range_succ, List.filter_append, List.filter_cons, h]; simp
theorem alive_yes {T : Nat → One} {k : Nat} (h : ((T k).heard && !(T k).out) = true) : aliveTo T (k + 1) = aliveTo T k ++ [(k : Int)] := by simp only [aliveTo, List.range_succ, List.filter_append, List.filter_cons, h]; simp
theorem aliveTo_len (T : Nat → One) (k : Nat) : (aliveTo T k).length ≤ k := by
  have := List.length_filter_le (fun j => (T j).heard && !(T j).out) (List.range k)
  simpa [aliveTo] using this
def Tab.alive (x : Tab) : List Int := aliveTo x.t 16
end Go.LL
