/- Part of a claim: contracts of the program's functions, walked op by op. -/
import Derived.Test.YthabegpfnfbmaaaGreatDoorLL10
import Derived.Lib.BitFns
set_option linter.unusedSimpArgs false
set_option linter.unusedVariables false
/- The functional model: the program's plain types and functions. -/
namespace Go.LL
abbrev i6 (n : Int) : Value := .int .i64 n
abbrev pt (b : Nat) : Value := .pointer (some ⟨b, 0, none⟩)
abbrev u6 (n : Nat) : Value := .int .u64 (n : Int)

structure House where
  (cars floors speed dwell : Int)
abbrev House.v (h : House) : Value := .agg #[i6 h.cars, i6 h.floors, i6 h.speed, i6 h.dwell]
def House.ok (h : House) : Bool := decide ((1 ≤ h.cars ∧ h.cars ≤ 16) ∧ (2 ≤ h.floors ∧ h.floors ≤ 64) ∧ (1 ≤ h.speed ∧ h.speed ≤ 8) ∧ 1 ≤ h.dwell ∧ h.dwell ≤ 8)
theorem House.ok_b {h : House} (k : h.ok = true) : (1 ≤ h.cars ∧ h.cars ≤ 16) ∧ (2 ≤ h.floors ∧ h.floors ≤ 64) ∧ (1 ≤ h.speed ∧ h.speed ≤ 8) ∧ 1 ≤ h.dwell ∧ h.dwell ≤ 8 := by
  simpa [House.ok] using k
theorem mul_b {a b : Int} (ha : 0 ≤ a ∧ a ≤ 64) (hb : 0 ≤ b ∧ b ≤ 8) : 0 ≤ a * b ∧ a * b ≤ 512 := by
  refine ⟨Int.mul_nonneg ha.1 hb.1, ?_⟩
  calc a * b ≤ 64 * b := Int.mul_le_mul_of_nonneg_right ha.2 hb.1
    _ ≤ 64 * 8 := Int.mul_le_mul_of_nonneg_left hb.2 (by omega)

def top (h : House) : Int := if h.ok then (h.floors - 1) * h.speed else 0
theorem top_b (h : House) : 0 ≤ top h ∧ top h ≤ 512 := by
  unfold top
  split
  · rename_i k
    have := House.ok_b k
    exact mul_b (by omega) (by omega)
  · omega
def level (h : House) (pos : Int) : Bool := h.ok && decide (0 ≤ pos ∧ pos ≤ top h) && decide (pos.tmod h.speed = 0)
def floorAt (h : House) (pos : Int) : Int := if h.ok then (min (max pos 0) (top h)).tdiv h.speed else 0
theorem floorAt_b (h : House) (pos : Int) : 0 ≤ floorAt h pos ∧ floorAt h pos ≤ 512 := by
  unfold floorAt
  split
  · rename_i k
    have hk := House.ok_b k
    have ht := top_b h
    have h0 : 0 ≤ min (max pos 0) (top h) := by omega
    have h1 : min (max pos 0) (top h) ≤ 512 := by omega
    rw [Int.tdiv_eq_ediv_of_nonneg h0]
    exact ⟨Int.ediv_nonneg h0 (by omega), Int.le_trans (Int.ediv_le_self _ h0) h1⟩
  · omega
/-- where a car is behind a tick of its motor -/
def goTo (h : House) (pos motor : Int) : Int × Bool :=
  if !h.ok || !decide (-1 ≤ pos ∧ pos ≤ top h + 1) then (0, false)
  else if !decide (0 ≤ pos + min (max motor (-1)) 1 ∧ pos + min (max motor (-1)) 1 ≤ top h) then (0, false)
  else (pos + min (max motor (-1)) 1, true)

structure State where
  (pos dir door : Int) (relevel : Bool)
abbrev State.v (s : State) : Value := .agg #[i6 s.pos, i6 s.dir, i6 s.door, .bool s.relevel]
def State.right (h : House) (s : State) : Bool :=
  if !h.ok || !decide (0 ≤ s.pos ∧ s.pos ≤ top h) || !decide (-1 ≤ s.dir ∧ s.dir ≤ 1) || !decide (0 ≤ s.door ∧ s.door ≤ h.dwell) then false
  else if decide (0 < s.door) && (!level h s.pos || s.relevel) then false
  else level h s.pos || decide (s.dir ≠ 0) || s.relevel

structure Epoch where
  (count founder : Int)
deriving DecidableEq
abbrev Epoch.v (e : Epoch) : Value := .agg #[i6 e.count, i6 e.founder]
def Epoch.ok (e : Epoch) : Bool := decide (1 ≤ e.count ∧ e.count ≤ 4294967295 ∧ 0 ≤ e.founder ∧ e.founder < 16)
def Epoch.lt (a b : Epoch) : Bool := decide (a.count < b.count ∨ a.count = b.count ∧ a.founder < b.founder)
def nextE (seen founder : Int) : Epoch × Bool :=
  if seen < 0 ∨ 4294967295 ≤ seen then (⟨0, 0⟩, false) else if (Epoch.mk (seen + 1) founder).ok then (⟨seen + 1, founder⟩, true) else (⟨0, 0⟩, false)

structure Door where
  (left held : Int)
abbrev Door.v (d : Door) : Value := .agg #[i6 d.left, i6 d.held]
def Door.tick (d : Door) (obstructed : Bool) : Door × Bool :=
  if ¬ 0 < d.left then (⟨0, 0⟩, false)
  else if 1 < d.left then (⟨w64 (d.left - 1), d.held⟩, false)
  else if obstructed then (⟨d.left, w64 (d.held + 1)⟩, false)
  else (⟨0, 0⟩, true)
def Door.stuck (d : Door) (dwell : Int) : Bool :=
  if ¬ 0 < d.left ∨ 3074457345618258602 < dwell then false
  else if dwell < -3074457345618258602 then true
  else decide (3 * dwell < d.held)

/-! what lies ahead -/
structure Stops where
  (car up down : BitVec 64)
abbrev Stops.v (s : Stops) : Value := .agg #[uv s.car, uv s.up, uv s.down]
def fl (n : Int) : Bool := decide (0 ≤ n ∧ n < 64)
def bit (b : BitVec 64) (n : Int) : Bool := fl n && decide (b >>> n.toNat &&& 1#64 = 1#64)
def Stops.hall (s : Stops) (n dir : Int) : Bool := decide (dir = 1) && bit s.up n || decide (dir = -1) && bit s.down n
def Stops.all (s : Stops) : BitVec 64 := s.car ||| s.up ||| s.down
def Stops.above (s : Stops) (n : Int) : BitVec 64 := if n < 0 then s.all else if 63 ≤ n then 0#64 else s.all >>> (n + 1).toNat <<< (n + 1).toNat
def Stops.below (s : Stops) (n : Int) : BitVec 64 := if n < 0 then 0#64 else if 64 ≤ n then s.all else s.all &&& (1#64 <<< n.toNat - 1#64)
def Stops.toward (s : Stops) (n dir : Int) : Bool := decide (dir = 1) && decide (s.above n ≠ 0#64) || decide (dir = -1) && decide (s.below n ≠ 0#64)
def Stops.put (s : Stops) (f dir : Int) : Stops :=
  if fl f = false then s else if dir = 1 then ⟨s.car, s.up ||| 1#64 <<< f.toNat, s.down⟩ else if dir = -1 then ⟨s.car, s.up, s.down ||| 1#64 <<< f.toNat⟩ else s
def dbTab : List Nat := [0, 1, 56, 2, 57, 49, 28, 3, 61, 58, 42, 50, 38, 29, 17, 4, 62, 47, 59, 36, 45, 43, 51, 22, 53, 39, 33, 30, 24, 18, 12, 5, 63, 55, 48, 27, 60, 41, 37, 16, 46, 35, 44, 21, 52, 32, 23, 11, 54, 26, 40, 15, 34, 20, 31, 10, 25, 14, 19, 9, 13, 8, 7, 6]
def dbCells : List Value := dbTab.map fun (n : Nat) => .int .u8 (n : Int)
def dbIx (a : BitVec 64) : Nat := (((a &&& -a) * 285870213051353865#64) >>> (58 : Int).toNat).toNat
theorem dbIx_lt (a : BitVec 64) : dbIx a < 64 := by
  unfold dbIx
  rw [BitVec.toNat_ushiftRight, Nat.shiftRight_eq_div_pow]
  have := ((a &&& -a) * 285870213051353865#64).isLt
  have e : (58 : Int).toNat = 58 := rfl
  rw [e]
  omega
theorem dbCells_nth {k : Nat} (h : k < 64) : nth dbCells k = some (.int .u8 (dbTab.getD k 0 : Nat)) := by
  rw [nth_get]
  have hl : k < dbTab.length := h
  simp [dbCells, List.getElem?_eq_getElem hl]
theorem dbLk (a : BitVec 64) : nth dbCells (0 + ((dbIx a : Nat) : Int).toNat * 1) = some (.int .u8 (dbTab.getD (dbIx a) 0 : Nat)) := by
  rw [Int.toNat_natCast, Nat.mul_one, Nat.zero_add]; exact dbCells_nth (dbIx_lt a)
theorem dbIx_r (a : BitVec 64) : 0 ≤ ((dbIx a : Nat) : Int) ∧ ((dbIx a : Nat) : Int) < ((64 : Nat) : Int) := ⟨Int.natCast_nonneg _, Int.ofNat_lt.2 (dbIx_lt a)⟩
def tz (a : BitVec 64) : Int := if a = 0#64 then 64 else (dbTab.getD (dbIx a) 0 : Nat)
theorem dbTab_b : ∀ k : Nat, dbTab.getD k 0 ≤ 63 := by
  intro k
  rcases Nat.lt_or_ge k 64 with h | h
  · have : ∀ k : Fin 64, dbTab.getD k.1 0 ≤ 63 := by decide
    exact this ⟨k, h⟩
  · rw [List.getD_eq_getElem?_getD, List.getElem?_eq_none (by exact h)]; simp
theorem tz_b (a : BitVec 64) : 0 ≤ tz a ∧ tz a ≤ 64 := by
  unfold tz
  split
  · omega
  · have := dbTab_b (dbIx a); omega
def lenU (a : BitVec 64) : Int := (Lib.bitLen a.toNat : Nat)
def Stops.near (s : Stops) (n : Int) : Int :=
  if s.above n = 0#64 ∧ s.below n = 0#64 then 0 else if s.below n = 0#64 then 1 else if s.above n = 0#64 then -1
  else if w64 (tz (s.above n) - n) ≤ w64 (n - w64 (lenU (s.below n) - 1)) then 1 else -1
/-! what is done at a floor -/
structure PDeed where
  (stop : Bool) (dir move : Int)
abbrev PDeed.v (p : PDeed) : Value := .agg #[.bool p.stop, i6 p.dir, i6 p.move]
def way (s : Stops) (n dir : Int) : Bool := s.toward n dir || s.hall n dir
def turn (s : Stops) (n dir : Int) : Int :=
  if dir ≠ 0 ∧ way s n dir = true then dir else if dir ≠ 0 ∧ way s n (w64 (0 - dir)) = true then w64 (0 - dir) else if dir ≠ 0 then 0
  else if s.hall n 1 = true then 1 else if s.hall n (-1) = true then -1 else s.near n
def planAt (s : Stops) (n dir : Int) : PDeed :=
  if n < 0 ∨ 64 ≤ n ∨ dir < -1 ∨ 1 < dir then ⟨false, 0, 0⟩
  else if (bit s.car n || s.hall n (turn s n dir)) = true then ⟨true, turn s n dir, 0⟩ else ⟨false, turn s n dir, turn s n dir⟩
/-! a car's tick -/
structure Car where
  (s : State) (held : Int)
abbrev Car.v (c : Car) : Value := .agg #[i6 c.s.pos, i6 c.s.dir, i6 c.s.door, .bool c.s.relevel, i6 c.held]
structure Deed where
  (opened closed : Bool) (floor lantern moved : Int) (stops : Stops)
abbrev Deed.v (d : Deed) : Value := .agg #[.bool d.opened, .bool d.closed, i6 d.floor, i6 d.lantern, i6 d.moved, uv d.stops.car, uv d.stops.up, uv d.stops.down]
abbrev Stops.none : Stops := ⟨0#64, 0#64, 0#64⟩
abbrev Deed.none : Deed := ⟨false, false, 0, 0, 0, Stops.none⟩
def lowB (n : Int) : BitVec 64 := 1#64 <<< n.toNat - 1#64
def Stops.house (h : House) (s : Stops) : Stops := ⟨s.car &&& lowB h.floors, s.up &&& lowB (h.floors - 1), (s.down &&& lowB h.floors) &&& ~~~1#64⟩
def Car.right (h : House) (c : Car) : Bool := c.s.right h && (decide (c.held = 0) || decide (0 < c.held) && decide (c.s.door = 1))
def carStart (h : House) (pos : Int) : Car × Bool :=
  if h.ok = false ∨ pos < 0 ∨ top h < pos then (⟨⟨0, 0, 0, false⟩, 0⟩, false) else (⟨⟨pos, 0, 0, !level h pos⟩, 0⟩, true)
def Car.between (h : House) (c : Car) : Car × Deed :=
  let dir := if c.s.relevel then -1 else c.s.dir
  let g := goTo h c.s.pos dir
  if g.2 = false then (⟨⟨c.s.pos, dir, c.s.door, c.s.relevel⟩, c.held⟩, Deed.none)
  else if (c.s.relevel && level h g.1) = true then (⟨⟨g.1, 0, c.s.door, false⟩, c.held⟩, ⟨false, false, 0, 0, w64 (g.1 - c.s.pos), Stops.none⟩)
  else (⟨⟨g.1, dir, c.s.door, c.s.relevel⟩, c.held⟩, ⟨false, false, 0, 0, w64 (g.1 - c.s.pos), Stops.none⟩)
def Car.level (h : House) (c : Car) (s : Stops) : Car × Deed :=
  let f := floorAt h c.s.pos
  let p := planAt s f c.s.dir
  if p.stop then
    let z : Stops := if bit s.car f then ⟨1#64 <<< f.toNat, 0#64, 0#64⟩ else Stops.none
    (⟨⟨c.s.pos, p.dir, min (max h.dwell 1) 8, false⟩, 0⟩, ⟨true, false, 0, p.dir, 0, if s.hall f p.dir then z.put f p.dir else z⟩)
  else
    let g := goTo h c.s.pos p.move
    if g.2 = false ∨ p.move = 0 then (⟨⟨c.s.pos, p.dir, c.s.door, false⟩, c.held⟩, Deed.none)
    else (⟨⟨g.1, p.dir, c.s.door, false⟩, c.held⟩, ⟨false, false, 0, 0, p.move, Stops.none⟩)
def Car.tick (h : House) (c : Car) (s : Stops) (obstructed : Bool) : Car × Deed :=
  if c.right h = false then (c, Deed.none)
  else
    let r : Car × Deed :=
      if 0 < c.s.door then
        let x := Door.tick ⟨c.s.door, c.held⟩ obstructed
        (⟨⟨c.s.pos, c.s.dir, x.1.left, c.s.relevel⟩, x.1.held⟩, ⟨false, x.2, 0, 0, 0, Stops.none⟩)
      else if Go.LL.level h c.s.pos = false then c.between h
      else c.level h (s.house h)
    (r.1, ⟨r.2.opened, r.2.closed, floorAt h r.1.s.pos, r.2.lantern, r.2.moved, r.2.stops⟩)
theorem right_ok {h : House} {c : Car} (k : c.right h = true) : h.ok = true := by
  cases hk : h.ok with
  | true => rfl
  | false => simp [Car.right, State.right, hk] at k
/-! cells that lose their power -/
abbrev u8v (n : Int) : Value := .int .u8 n
structure CellM where
  (bs : List Int) (fuse : Int) (down : Bool) (writes : Int)
abbrev CellM.o (T q n : Nat) (m : CellM) : Obj := .cells #[.slice (some ⟨q, 0, none⟩) n n, i6 m.fuse, .bool m.down, i6 m.writes] T (0, 0)
abbrev CellM.bo (T : Nat) (m : CellM) : Obj := .cells (m.bs.map u8v).toArray T (0, 0)
def CellM.gone (m : CellM) : CellM := if m.down = false ∧ 0 < m.fuse then ⟨m.bs, w64 (m.fuse - 1), decide (w64 (m.fuse - 1) = 0), m.writes⟩ else m
theorem CellM.gone_bs (m : CellM) : m.gone.bs = m.bs := by unfold CellM.gone; split <;> rfl
def CellM.is (m : CellM) (i : Int) : Bool := decide (0 ≤ i ∧ i < m.bs.length)
theorem CellM.gone_is (m : CellM) (i : Int) : m.gone.is i = m.is i := by simp [CellM.is, CellM.gone_bs]
def CellM.put (m : CellM) (i v : Int) : CellM × Option Nat :=
  if m.gone.down = true then (m.gone, some 5) else if m.is i = false then (m.gone, some 6) else (⟨m.bs.set i.toNat v, m.gone.fuse, m.gone.down, w64 (m.gone.writes + 1)⟩, none)
def CellM.get (m : CellM) (i : Int) : Int × Option Nat := if m.down = true then (0, some 5) else if m.is i = false then (0, some 6) else (m.bs.getD i.toNat 0, none)
/-! errors: by the number of the variable -/
def ev (ε : Nat → Nat × Value) (o : Option Nat) : Value := errV (o.map ε)
@[simp] theorem ev_none (ε : Nat → Nat × Value) : ev ε none = .nilIface := rfl
@[simp] theorem ev_some (ε : Nat → Nat × Value) (k : Nat) : ev ε (some k) = errV (some (ε k)) := rfl
end Go.LL
