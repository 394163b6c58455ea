/- Part of a claim: contracts of the program's functions, walked op by op. -/
import Derived.Test.YthabegpfnfbmaaaGreatDoorLL9
import Derived.Laws.MakeOwn
import Derived.Maps.AppendAt
set_option linter.unusedSimpArgs false
set_option linter.unusedVariables false
/- Slices that a call owns; segments of what is known. -/
namespace Go.LL
structure Sli where
  blk : Option Nat
  n : Nat
  cap : Nat
  xs : List Value
  rest : List Value
abbrev Sli.v (s : Sli) : Value := .slice (s.blk.map fun b => ⟨b, 0, none⟩) s.n s.cap
def Sli.L (e : Nat) (s : Sli) : List Chunk := match s.blk with
  | none => []
  | some b => [(b, .cells (s.xs ++ s.rest).toArray e (0, 0))]
structure Sli.OK (size : Nat) (s : Sli) : Prop where
  len : s.xs.length = s.n * size
  nil : s.blk = none → s.n = 0 ∧ s.cap = 0 ∧ s.rest = []
  le : s.n ≤ s.cap
  max : s.cap ≤ maxLen
  all : (s.xs ++ s.rest).length = s.cap * size
abbrev Sli.none : Sli := ⟨Option.none, 0, 0, [], []⟩
theorem Sli.none_ok {size : Nat} : Sli.none.OK size := ⟨by simp, fun _ => ⟨rfl, rfl, rfl⟩, Nat.le_refl _, Nat.zero_le _, by simp⟩
def Sli.b0 (s : Sli) : Nat := s.blk.getD 0
theorem Sli.OK.some {size : Nat} {s : Sli} (h : s.OK size) (hn : 0 < s.n) : s.blk = .some s.b0 := by
  cases hb : s.blk with
  | none => have := (h.nil hb).1; omega
  | some b => simp [Sli.b0, hb]

theorem Sli.owns {size e : Nat} {s : Sli} (h : s.OK size) {w : World} (hm : ∀ x ∈ s.L e, w.heap[x.1]? = some x.2) : w.ownsRow 0 e size s.v s.n s.xs := by
  refine ⟨h.len, ?_⟩
  cases hb : s.blk with
  | none =>
    obtain ⟨h1, h2, _⟩ := h.nil hb
    exact .inl ⟨by simp [Sli.v, hb, h1, h2], h1⟩
  | some b =>
    refine .inr ⟨b, s.cap, (s.xs ++ s.rest).toArray, by simp [Sli.v, hb], Nat.zero_le _, hm (b, .cells (s.xs ++ s.rest).toArray e (0, 0)) (by simp [Sli.L, hb]), h.le, h.max, by simpa using h.all, ?_⟩
    simp [← h.len]
theorem Sli.of_owns {size e n base : Nat} {xs : List Value} {v : Value} {w : World} (h : w.ownsRow base e size v n xs) : ∃ s : Sli, s.OK size ∧ s.n = n ∧ s.xs = xs ∧ v = s.v ∧ (∀ b, s.blk = some b → base ≤ b) ∧ ∀ x ∈ s.L e, w.heap[x.1]? = some x.2 := by
  obtain ⟨hl, ⟨rfl, rfl⟩ | ⟨g, cap, cur, rfl, hb, hg, hle, hmax, hsz, htk⟩⟩ := h
  · exact ⟨⟨Option.none, 0, 0, xs, []⟩, ⟨hl, fun _ => ⟨rfl, rfl, rfl⟩, Nat.le_refl _, Nat.zero_le _, by simpa using hl⟩, rfl, rfl, rfl, by simp, by simp [Sli.L]⟩
  · have hsplit : xs ++ cur.toList.drop (n * size) = cur.toList := by rw [← htk, List.take_append_drop]
    refine ⟨⟨some g, n, cap, xs, cur.toList.drop (n * size)⟩, ⟨hl, by simp, hle, hmax, by rw [hsplit]; simpa using hsz⟩, rfl, rfl, rfl, by simp; exact hb, ?_⟩
    intro x hx
    simp only [Sli.L, List.mem_singleton] at hx
    subst hx
    simp only [hsplit]
    simpa using hg

/-! segments -/
class Seg (A L RO : List Chunk) : Prop where
  mem : ∀ x ∈ A, x ∈ L ∨ x ∈ RO
instance Seg.here {A L RO : List Chunk} : Seg A (A ++ L) RO := ⟨fun x hx => .inl (by simp [hx])⟩
instance (priority := 500) Seg.there {A B L RO : List Chunk} [h : Seg A L RO] : Seg A (B ++ L) RO := ⟨fun x hx => (h.mem x hx).imp (fun m => by simp [m]) id⟩
instance (priority := 500) Seg.cons {A L RO : List Chunk} {x : Chunk} [h : Seg A L RO] : Seg A (x :: L) RO := ⟨fun y hy => (h.mem y hy).imp (fun m => by simp [m]) id⟩
class SegR (A RO : List Chunk) : Prop where
  mem : ∀ x ∈ A, x ∈ RO
instance SegR.here {A L : List Chunk} : SegR A (A ++ L) := ⟨fun x hx => by simp [hx]⟩
instance (priority := 400) SegR.self {A : List Chunk} : SegR A A := ⟨fun _ h => h⟩
instance (priority := 500) SegR.there {A B L : List Chunk} [h : SegR A L] : SegR A (B ++ L) := ⟨fun x hx => by simp [h.mem x hx]⟩
instance (priority := 500) SegR.cons {A L : List Chunk} {x : Chunk} [h : SegR A L] : SegR A (x :: L) := ⟨fun y hy => by simp [h.mem y hy]⟩
instance (priority := 100) Seg.ro {A L RO : List Chunk} [h : SegR A RO] : Seg A L RO := ⟨fun x hx => .inr (h.mem x hx)⟩
instance (priority := 450) InM.app {b : Nat} {o : Obj} {A L RO : List Chunk} [h : InM b o L RO] : InM b o (A ++ L) RO := ⟨h.mem.imp (fun m => by simp [m]) id⟩
instance (priority := 450) InR.app {b : Nat} {o : Obj} {A RO : List Chunk} [h : InR b o RO] : InR b o (A ++ RO) := ⟨by simp [h.mem]⟩
instance (priority := 450) Upd.app {b : Nat} {o : Obj} {A L : List Chunk} {g : Obj → List Chunk} [h : Upd b o L g] : Upd b o (A ++ L) (fun o' => A ++ g o') := ⟨by
  obtain ⟨L1, L2, h1, h2⟩ := h.eq
  exact ⟨A ++ L1, L2, by rw [h1]; simp, fun o' => by rw [h2]; simp⟩⟩
instance (priority := 450) Pick.app {b : Nat} {o : Obj} {A L Lr : List Chunk} [h : Pick b o L Lr] : Pick b o (A ++ L) (A ++ Lr) := ⟨(h.perm.append_left A).trans List.perm_middle⟩
class PickS (A L : List Chunk) (Lr : outParam (List Chunk)) : Prop where
  perm : L.Perm (A ++ Lr)
instance PickS.here {A L : List Chunk} : PickS A (A ++ L) L := ⟨.refl _⟩
instance PickS.nil {e : Nat} {L : List Chunk} : PickS (Sli.L e Sli.none) L L := ⟨.refl _⟩
instance (priority := 400) PickS.self {A : List Chunk} : PickS A A [] := ⟨by simp⟩
instance (priority := 500) PickS.there {A B L Lr : List Chunk} [h : PickS A L Lr] : PickS A (B ++ L) (B ++ Lr) := ⟨by
  refine (h.perm.append_left B).trans ?_
  rw [← List.append_assoc, ← List.append_assoc]
  exact List.perm_append_comm.append_right Lr⟩
instance (priority := 500) PickS.cons {A L Lr : List Chunk} {x : Chunk} [h : PickS A L Lr] : PickS A (x :: L) (x :: Lr) := ⟨(h.perm.cons x).trans List.perm_middle.symm⟩
instance (priority := 450) Split.app {A Lf L L1 Lr : List Chunk} [h1 : PickS A L L1] [h2 : Split Lf L1 Lr] : Split (A ++ Lf) L Lr := ⟨h1.perm.trans (by rw [List.append_assoc]; exact h2.perm.append_left A)⟩
instance (priority := 300) Split.one {A L L1 : List Chunk} [h1 : PickS A L L1] : Split A L L1 := ⟨h1.perm⟩
instance (priority := 450) SubM.app {A ROg Lr RO : List Chunk} [h1 : Seg A Lr RO] [h2 : SubM ROg Lr RO] : SubM (A ++ ROg) Lr RO := ⟨fun x hx => by
  rcases List.mem_append.1 hx with hx | hx
  · exact h1.mem x hx
  · exact h2.sub x hx⟩
instance (priority := 300) SubM.one {A Lr RO : List Chunk} [h1 : Seg A Lr RO] : SubM A Lr RO := ⟨h1.mem⟩

theorem St.seg {c : Cx} {A L : List Chunk} {w : World} (h : St c L w) (hm : Seg A L c.RO) : ∀ x ∈ A, w.heap[x.1]? = some x.2 := fun x hx => by
  rcases hm.mem x hx with m | m
  · exact h.has.get _ m
  · exact h.ro _ m

section
variable {c : Cx} {E : Env} {L : List Chunk} {x y z : Operand} {d : Option Nat} {t : TypeId} {p : String} {af : Array Edge} {g : Option (Nat × Bool)} {v : Value} {k k' : IntKind} {m n o : Int} {s s' : TypeId}
/-- the place of an element of a slice that is a Sli -/
theorem q_iaSl {sl : Sli} {e size : Nat} (hok : sl.OK size) (hx : lkO E x = some sl.v) (hy : lkO E y = some (.int k n)) (hu : ∀ w, (underlying s).run c.P w = .ok (.slice e) w)
    (hs : ∀ w, (sizeOf e).run c.P w = .ok size w) (h : 0 ≤ n ∧ n < sl.n) : OpQ c E L ⟨d, .indexAddr s x y, t, p, af, g⟩ (.pointer (some ⟨sl.b0, n.toNat * size, none⟩)) := by
  have hb := hok.some (by omega)
  have := q_iaS (c := c) (E := E) (L := L) (d := d) (t := t) (p := p) (af := af) (g := g) (b := sl.b0) (off := 0) (ln := sl.n) (cp := sl.cap) (by rw [hx, Sli.v, hb]; rfl) hy hu hs h
  simpa using this
theorem Sli.block {sl : Sli} {e b : Nat} {w : World} (hb : sl.blk = some b) (hm : ∀ x ∈ sl.L e, w.heap[x.1]? = some x.2) : w.heap[b]? = some (.cells (sl.xs ++ sl.rest).toArray e (0, 0)) := hm (b, _) (by simp [Sli.L, hb])
theorem q_ldSl {sl : Sli} {e size off : Nat} (hok : sl.OK size) (hx : lkO E x = some (.pointer (some ⟨sl.b0, off, none⟩))) [hm : Seg (sl.L e) L c.RO]
    (hs : ∀ w, (isAgg s).run c.P w = .ok false w) (hv : nth sl.xs off = some v) : OpQ c E L ⟨d, .load s x, t, p, af, g⟩ v := fun a w ha hw => by
  have hlt : off < sl.xs.length := by
    rw [nth_get] at hv
    exact (List.getElem?_eq_some_iff.1 hv).1
  have hn : 0 < sl.n := by
    rcases Nat.eq_zero_or_pos sl.n with h0 | h0
    · rw [hok.len, h0] at hlt; simp at hlt
    · exact h0
  have hb := Sli.block (hok.some hn) (hw.seg hm)
  have hc : w.cell? ⟨sl.b0, off, none⟩ = some v := by
    rw [cell_of hb, List.getElem?_append_left hlt, ← nth_get]; exact hv
  simp only [execOp, ha.ev hx, Instr.loadAt, Instr.sureAddr]
  simp [loadVar, hs, hc, run_load]
theorem q_ldaSl {sl : Sli} {e size off len : Nat} {vs : List Value} (hok : sl.OK size) (hx : lkO E x = some (.pointer (some ⟨sl.b0, off, none⟩))) [hm : Seg (sl.L e) L c.RO]
    (hs : ∀ w, (isAgg s).run c.P w = .ok true w) (hn : ∀ w, (sizeOf s).run c.P w = .ok len w) (hlen : 0 < len) (hv : slc sl.xs off len = some vs) : OpQ c E L ⟨d, .load s x, t, p, af, g⟩ (.agg vs.toArray) := fun a w ha hw => by
  obtain ⟨h1, h2⟩ := slc_spec _ _ _ _ hv
  have hlt : off < sl.xs.length := by
    have := h2 0 (vs[0]'(by omega)) (by simp)
    exact (List.getElem?_eq_some_iff.1 (by simpa using this)).1
  have hn0 : 0 < sl.n := by
    rcases Nat.eq_zero_or_pos sl.n with h0 | h0
    · rw [hok.len, h0] at hlt; simp at hlt
    · exact h0
  have hb := Sli.block (hok.some hn0) (hw.seg hm)
  have hc := run_loadCells_list (P := c.P) w ⟨sl.b0, off, none⟩ vs (fun j u hj => by
    rw [Addr.add_off, cell_of hb]
    have hj' := h2 j u hj
    rw [List.getElem?_append_left (List.getElem?_eq_some_iff.1 hj').1]; exact hj')
  rw [h1] at hc
  simp only [execOp, ha.ev hx, Instr.loadAt, Instr.sureAddr]
  simp [loadVar, hs, hn, hc]

def tiOf (P : Program) (e : Nat) : TypeInfo := (P.info? e).getD default
def eiOk (P : Program) (e size bytes : Nat) : Bool := match P.info? e with
  | some i => match i.zero with
    | some z => Nat.beq i.size size && Nat.beq i.bytes bytes && Nat.beq z.cells.size size && Nat.blt 0 size
    | none => false
  | none => false
theorem eiOk_spec {P : Program} {e size bytes : Nat} (h : eiOk P e size bytes = true) : ∃ i z, P.info? e = some i ∧ i.zero = some z ∧ i.size = size ∧ i.bytes = bytes ∧ z.cells.size = size ∧ 0 < size := by
  unfold eiOk at h
  cases hi : P.info? e with
  | none => rw [hi] at h; simp at h
  | some i =>
    rw [hi] at h
    simp only at h
    cases hz : i.zero with
    | none => rw [hz] at h; simp at h
    | some z =>
      rw [hz] at h
      simp only [Bool.and_eq_true] at h
      obtain ⟨⟨⟨h1, h2⟩, h3⟩, h4⟩ := h
      exact ⟨i, z, rfl, hz, Nat.eq_of_beq_eq_true h1, Nat.eq_of_beq_eq_true h2, Nat.eq_of_beq_eq_true h3, by simpa using h4⟩
/-- append of what lies in a block onto a slice that is owned -/
def AppK (e size : Nat) (sl : Sli) (m : Nat) (news : List Value) (Lr : List Chunk) (v : Value) (L' : List Chunk) : Prop :=
  ∃ s' : Sli, s'.OK size ∧ s'.n = sl.n + m ∧ s'.xs = sl.xs ++ news ∧ v = s'.v ∧ L' = s'.L e ++ Lr

theorem St.appended {sl : Sli} {e size n' : Nat} {xs' : List Value} {v' : Value} {Lr : List Chunk} {w w' : World} (hw : St c L w) (hp : L.Perm (sl.L e ++ Lr))
    (h1 : w'.ownsRow 0 e size v' n' xs') (h2 : w.grownBy w' sl.v.ownBlock) (hnew : ∀ b, v'.ownBlock = some b → v'.ownBlock = sl.v.ownBlock ∨ w.heap.size ≤ b) : ∃ s' : Sli, s'.OK size ∧ s'.n = n' ∧ s'.xs = xs' ∧ v' = s'.v ∧ St c (s'.L e ++ Lr) w' := by
  obtain ⟨s', ok', hn', hx', hv', _, hm'⟩ := Sli.of_owns h1
  refine ⟨s', ok', hn', hx', hv', ?_⟩
  have hwp := hw.perm hp
  have own_v : ∀ s : Sli, s.v.ownBlock = s.blk := fun s => by cases hb : s.blk <;> simp [Sli.v, hb, Value.ownBlock]
  rw [hv', own_v, own_v] at hnew
  rw [own_v] at h2
  have hLmem : ∀ s : Sli, ∀ x ∈ s.L e, s.blk = some x.1 := fun s x hx => by
    cases hb : s.blk with
    | none => simp [Sli.L, hb] at hx
    | some b => simp [Sli.L, hb] at hx; simp [hx]
  have hnd := hwp.has.nodup
  simp only [bks, List.map_append, List.nodup_append] at hnd
  obtain ⟨_, hndr, hdis⟩ := hnd
  have hLin : ∀ b, sl.blk = some b → (b, Obj.cells (sl.xs ++ sl.rest).toArray e (0, 0)) ∈ sl.L e := fun b hb => by simp [Sli.L, hb]
  have hrest : ∀ x ∈ Lr, some x.1 ≠ sl.blk := fun x hx hbk => by
    exact hdis x.1 (List.mem_map.2 ⟨_, hLin x.1 hbk.symm, rfl⟩) x.1 (List.mem_map.2 ⟨x, hx, rfl⟩) rfl
  have hsame : ∀ x ∈ Lr, w'.heap[x.1]? = some x.2 := fun x hx => by
    have hg := hwp.has.get x (by simp [hx])
    rw [h2.block _ (lt_of_get hg) (hrest x hx)]; exact hg
  have hown : ∀ b, sl.blk = some b → b ∈ c.D ∨ c.w0.heap.size ≤ b := fun b hb => hwp.own _ (List.mem_append_left _ (hLin b hb))
  refine ⟨⟨?_, ?_⟩, ?_, ?_, ?_, hw.roD⟩
  · simp only [bks, List.map_append, List.nodup_append]
    refine ⟨by cases hb : s'.blk <;> simp [Sli.L, hb], hndr, fun i hi j hj e => ?_⟩
    subst e
    obtain ⟨x, hx, ex⟩ := List.mem_map.1 hi
    obtain ⟨y, hy, ey⟩ := List.mem_map.1 hj
    have hbx := hLmem s' x hx
    rcases hnew x.1 hbx with h3 | h3
    · exact hrest y hy (by rw [ey, ← ex, ← h3, hbx])
    · have := lt_of_get (hwp.has.get y (by simp [hy])); omega
  · intro x hx
    rcases List.mem_append.1 hx with h3 | h3
    · exact hm' x h3
    · exact hsame x h3
  · cases hb : sl.blk with
    | none => exact hw.ext.trans' (F := []) ⟨h2.os, h2.tape, h2.output, h2.size, fun k hk _ => h2.block k hk (by rw [hb]; simp)⟩ (by simp)
    | some b =>
      refine hw.ext.trans' (F := [b]) ⟨h2.os, h2.tape, h2.output, h2.size, fun k hk hD => h2.block k hk (by rw [hb]; simpa using hD)⟩ fun k hk => ?_
      have : k = b := by simpa using hk
      subst this
      exact hown k hb
  · intro x hx
    rcases List.mem_append.1 hx with h3 | h3
    · have hb := hLmem s' x h3
      rcases hnew x.1 hb with h4 | h4
      · exact hown x.1 (by rw [← h4, hb])
      · exact .inr (Nat.le_trans hw.ext.size h4)
    · exact hwp.own x (by simp [h3])
  · intro x hx
    have hg := hw.ro x hx
    rw [h2.block _ (lt_of_get hg) (fun hb => ?_)]
    · exact hg
    obtain ⟨h3, h4⟩ := hw.roD x hx
    rcases hown x.1 hb.symm with h5 | h5
    · exact h3 h5
    · omega

theorem e_app {sl : Sli} {e size bytes m cp b : Nat} {cur news : List Value} {ty : TypeId} {fr : Nat × Nat} {Lr : List Chunk}
    (hx : lkO E x = some sl.v) (hok : sl.OK size) (hy : lkO E y = some (.slice (some ⟨b, 0, none⟩) m cp)) [hp : PickS (sl.L e) L Lr] [hm : InM b (.cells cur.toArray ty fr) Lr c.RO]
    (hn : slc cur 0 (m * size) = some news) (h1 : ∀ u ∈ news, u.oneCell' = true) (hu : c.P.underlying s = some (.slice e)) (hI : eiOk c.P e size bytes = true) (h63 : sl.n + m ≤ maxLen) (hb : (sl.n + m) * bytes ≤ 140737488355328) :
    OpE c E L ⟨d, .call { callee := .builtin .append, args := #[x, y], argTypes := #[s, s] }, t, p, af, g⟩ (AppK e size sl m news Lr) := fun a w ha hw => by
  obtain ⟨i, zv, hi, hz, hsz, hby, hzs, hs0⟩ := eiOk_spec hI
  have hwp := hw.perm hp.perm
  obtain ⟨hl1, hl2⟩ := slc_spec _ _ _ _ hn
  have hcur : w.heap[b]? = some (.cells cur.toArray ty fr) := by
    rcases hm.mem with h | h
    · exact hwp.has.get (b, _) (List.mem_append_right _ h)
    · exact hw.ro _ h
  obtain ⟨v', w', hrun, r1, r2, _, r4⟩ := run_append_own_at (P := c.P) w 0 s t e i zv size bytes hu hi hz hsz hby hzs hs0 sl.v sl.n sl.xs (Sli.owns hok fun x hx => hwp.has.get x (by simp [hx])) ⟨b, 0, none⟩ m cp news hl1
    (fun j u hj => by rw [Addr.add_off, cell_of hcur]; exact hl2 j u hj) h1 h63 hb (Nat.zero_le _)
  have : (execOp a.eval ⟨d, .call { callee := .builtin .append, args := #[x, y], argTypes := #[s, s] }, t, p, af, g⟩).run c.P w = .ok (.value v') w' := by
    simp [execOp, resolve, invoke, ha.ev hx, ha.ev hy, builtin, hrun]
  rw [this]
  obtain ⟨s', ok', hn', hx', hv', hst⟩ := hw.appended (size := size) hp.perm r1 r2 (fun b' hb' => by
    rcases r4 with h | h
    · exact .inl h
    · rw [h] at hb'; simp only [Option.some.injEq] at hb'; exact .inr (by omega))
  exact ⟨_, ⟨s', ok', hn', hx', hv', rfl⟩, hst⟩
/-- append of an owned slice, nil or not, onto another one -/
theorem e_appSl {sl r : Sli} {e size bytes : Nat} {Lr : List Chunk}
    (hx : lkO E x = some sl.v) (hok : sl.OK size) (hy : lkO E y = some r.v) (hr : r.OK size) [hp : PickS (sl.L e) L Lr] [hm : Seg (r.L e) Lr c.RO]
    (h1 : ∀ u ∈ r.xs, u.oneCell' = true) (hu : c.P.underlying s = some (.slice e)) (hI : eiOk c.P e size bytes = true) (h63 : sl.n + r.n ≤ maxLen) (hb : (sl.n + r.n) * bytes ≤ 140737488355328) :
    OpE c E L ⟨d, .call { callee := .builtin .append, args := #[x, y], argTypes := #[s, s] }, t, p, af, g⟩ (AppK e size sl r.n r.xs Lr) := fun a w ha hw => by
  obtain ⟨i, zv, hi, hz, hsz, hby, hzs, hs0⟩ := eiOk_spec hI
  have hwp := hw.perm hp.perm
  have hseg : ∀ x ∈ r.L e, w.heap[x.1]? = some x.2 := fun x hx => by
    rcases hm.mem x hx with h | h
    · exact hwp.has.get x (List.mem_append_right _ h)
    · exact hw.ro x h
  cases hbk : r.blk with
  | some b =>
    have hcur := Sli.block hbk hseg
    obtain ⟨v', w', hrun, r1, r2, _, r4⟩ := run_append_own_at (P := c.P) w 0 s t e i zv size bytes hu hi hz hsz hby hzs hs0 sl.v sl.n sl.xs (Sli.owns hok fun x hx => hwp.has.get x (by simp [hx])) ⟨b, 0, none⟩ r.n r.cap r.xs hr.len
      (fun j u hj => by rw [Addr.add_off, cell_of hcur, Nat.zero_add, List.getElem?_append_left (List.getElem?_eq_some_iff.1 hj).1]; exact hj) h1 h63 hb (Nat.zero_le _)
    have hrv : r.v = .slice (some ⟨b, 0, none⟩) r.n r.cap := by simp [Sli.v, hbk]
    have : (execOp a.eval ⟨d, .call { callee := .builtin .append, args := #[x, y], argTypes := #[s, s] }, t, p, af, g⟩).run c.P w = .ok (.value v') w' := by
      rw [hrv] at hy
      simp [execOp, resolve, invoke, ha.ev hx, ha.ev hy, builtin, hrun]
    rw [this]
    obtain ⟨s', ok', hn', hx', hv', hst⟩ := hw.appended (size := size) hp.perm r1 r2 (fun b' hb' => by
      rcases r4 with h | h
      · exact .inl h
      · rw [h] at hb'; simp only [Option.some.injEq] at hb'; exact .inr (by omega))
    exact ⟨_, ⟨s', ok', hn', hx', hv', rfl⟩, hst⟩
  | none =>
    obtain ⟨h2, h3, h4⟩ := hr.nil hbk
    have hxs : r.xs = [] := List.eq_nil_of_length_eq_zero (by rw [hr.len, h2]; simp)
    have hrv : r.v = .slice none 0 0 := by simp [Sli.v, hbk, h2, h3]
    have hle := hok.le
    have hst0 : ∀ (a : Addr), (storeCells a []).run c.P w = .ok () w := fun a => rfl
    have : (execOp a.eval ⟨d, .call { callee := .builtin .append, args := #[x, y], argTypes := #[s, s] }, t, p, af, g⟩).run c.P w = .ok (.value sl.v) w := by
      rw [hrv] at hy
      cases hsb : sl.blk with
      | none => simp [execOp, resolve, invoke, ha.ev hx, ha.ev hy, builtin, Builtin.append_, run_underlying hu, sizeOf, typeInfo, hi, Builtin.lenOf, Builtin.firstCells, hle, Sli.v, hsb]
      | some q => simp [execOp, resolve, invoke, ha.ev hx, ha.ev hy, builtin, Builtin.append_, run_underlying hu, sizeOf, typeInfo, hi, Builtin.lenOf, Builtin.firstCells, hle, Sli.v, hsb, hst0]
    rw [this]
    exact ⟨_, ⟨sl, hok, by simp [h2], by simp [hxs], rfl, rfl⟩, hwp⟩

/-- the empty literal -/
theorem e_bsl0 {e size : Nat} (hu : ∀ w, (underlying s).run c.P w = .ok (.slice e) w) (hs : ∀ w, (sizeOf e).run c.P w = .ok size w) :
    OpE c E L ⟨d, .buildSlice s 0 #[], t, p, af, g⟩ (AppK e size Sli.none 0 [] L) := fun a w ha hw => by
  have : (execOp a.eval ⟨d, .buildSlice s 0 #[], t, p, af, g⟩).run c.P w = .ok (.value (.slice (some ⟨w.heap.size, 0, none⟩) 0 0)) (w.alloc (.cells #[] e (0, 0))) := by
    simp [execOp, Instr.buildSlice, hu, hs, newRow, Instr.fill, Array.range_zero']
  rw [this]
  exact ⟨_, ⟨⟨some w.heap.size, 0, 0, [], []⟩, ⟨by simp, by simp, Nat.le_refl _, Nat.zero_le _, by simp⟩, rfl, rfl, rfl, rfl⟩, hw.alloc _⟩

/-- make([]T, n): n known -/
theorem e_mks {e size n : Nat} {i : TypeInfo} {zv : Value} {zl : List Value} (hx : lkO E x = some (.int k n)) (hy : lkO E y = some (.int k' n)) (hu : c.P.underlying s = some (.slice e)) (hi : c.P.info? e = some i) (hz : i.zero = some zv) (hsz : i.size = size)
    (hb : i.bytes * n ≤ 281474976710656) (h63 : n ≤ maxLen) (hzl : madeCells zv.cells (n * size) = zl.toArray) :
    OpE c E L ⟨d, .makeSlice s x y, t, p, af, g⟩ (BslK zl e n L) := fun a w ha hw => by
  subst hsz
  have hb' : (i.bytes : Int) * (n : Int) ≤ 281474976710656 := by
    have h : ((i.bytes * n : Nat) : Int) ≤ 281474976710656 := by omega
    rwa [Int.natCast_mul] at h
  have hr := run_make (P := c.P) w s e i zv hu hi hz k k' n n (Int.natCast_nonneg _) (Int.le_refl _) hb' (by simp only [maxLen] at h63; omega)
  simp only [Int.toNat_natCast, hzl] at hr
  have : (execOp a.eval ⟨d, .makeSlice s x y, t, p, af, g⟩).run c.P w = .ok (.value (.slice (some ⟨w.heap.size, 0, none⟩) n n)) (w.alloc (.cells zl.toArray e (0, 0))) := by
    simp only [execOp, ha.ev hx, ha.ev hy]
    simp [hr]
  rw [this]
  exact ⟨_, ⟨_, rfl, rfl⟩, hw.alloc _⟩

/-- maps -/
def MapK (L : List Chunk) (v : Value) (L' : List Chunk) : Prop := ∃ b, v = .map (some b) ∧ L' = (b, .map #[] 0) :: L
theorem e_mkmap : OpE c E L ⟨d, .makeMap s none, t, p, af, g⟩ (MapK L) := fun a w ha hw => by
  have : (execOp a.eval ⟨d, .makeMap s none, t, p, af, g⟩).run c.P w = .ok (.value (.map (some w.heap.size))) (w.alloc (.map #[] 0)) := by
    rfl
  rw [this]
  exact ⟨_, ⟨_, rfl, rfl⟩, hw.alloc _⟩
end

section
variable {c : Cx} {Q : Post} {E : Env} {L Ls : List Chunk} {l rest : List Oper} {o : Oper} {r : List (Nat × Bool)} {tl T : List Nat} {rt : List Nat} {i : Nat}
theorem s_app {e size m : Nat} {sl : Sli} {news : List Value} {Lr : List Chunk} (h : OpE c E L o (AppK e size sl m news Lr)) (hg : gd l E o.guard = some true) (hd : dstOk c.n o.dst = true)
    (k : ∀ s' : Sli, s'.OK size → s'.n = sl.n + m → s'.xs = sl.xs ++ news → GO c l Q rest (putE E o.dst s'.v) (s'.L e ++ Lr)) : GO c l Q (o :: rest) E L :=
  se h hg hd fun _ _ ⟨s', h1, h2, h3, hv, hL⟩ => by subst hv; subst hL; exact k s' h1 h2 h3
theorem x_app {e size m : Nat} {sl : Sli} {news : List Value} {Lr : List Chunk} (h : OpE c E L o (AppK e size sl m news Lr)) (hi : l[i]? = some o) (hg : gd l E o.guard = some true) (hd : dstOk c.n o.dst = true)
    (k : ∀ s' : Sli, s'.OK size → s'.n = sl.n + m → s'.xs = sl.xs ++ news → Ls.Sublist (s'.L e ++ Lr) ∧ GX c l Q Ls tl r (putE E o.dst s'.v) (s'.L e ++ Lr)) : GX c l Q Ls tl ((i, false) :: r) E L :=
  gx_e h hi hg hd fun _ _ ⟨s', h1, h2, h3, hv, hL⟩ => by subst hv; subst hL; exact k s' h1 h2 h3
theorem t_app {e size m : Nat} {sl : Sli} {news : List Value} {Lr : List Chunk} (h : OpE c E L o (AppK e size sl m news Lr)) (hi : l[i]? = some o) (hg : gd l E o.guard = some true) (hd : dstOk c.n o.dst = true)
    (k : ∀ s' : Sli, s'.OK size → s'.n = sl.n + m → s'.xs = sl.xs ++ news → GT c l Q Ls T rt (putE E o.dst s'.v) (s'.L e ++ Lr)) : GT c l Q Ls T (i :: rt) E L :=
  gt_e h hi hg hd fun _ _ ⟨s', h1, h2, h3, hv, hL⟩ => by subst hv; subst hL; exact k s' h1 h2 h3
theorem s_map (h : OpE c E L o (MapK L)) (hg : gd l E o.guard = some true) (hd : dstOk c.n o.dst = true)
    (k : ∀ b, GO c l Q rest (putE E o.dst (.map (some b))) ((b, .map #[] 0) :: L)) : GO c l Q (o :: rest) E L :=
  se h hg hd fun _ _ ⟨b, hv, hL⟩ => by subst hv; subst hL; exact k b
theorem x_map (h : OpE c E L o (MapK L)) (hi : l[i]? = some o) (hg : gd l E o.guard = some true) (hd : dstOk c.n o.dst = true) (hsub : Ls.Sublist L)
    (k : ∀ b, GX c l Q Ls tl r (putE E o.dst (.map (some b))) ((b, .map #[] 0) :: L)) : GX c l Q Ls tl ((i, false) :: r) E L :=
  gx_e h hi hg hd fun _ _ ⟨b, hv, hL⟩ => by subst hv; subst hL; exact ⟨hsub.cons _, k b⟩
theorem t_map (h : OpE c E L o (MapK L)) (hi : l[i]? = some o) (hg : gd l E o.guard = some true) (hd : dstOk c.n o.dst = true)
    (k : ∀ b, GT c l Q Ls T rt (putE E o.dst (.map (some b))) ((b, .map #[] 0) :: L)) : GT c l Q Ls T (i :: rt) E L :=
  gt_e h hi hg hd fun _ _ ⟨b, hv, hL⟩ => by subst hv; subst hL; exact k b
end

section
variable {P : Program} {n : Nat} {w0 : World} {D : List Nat} {RO : List Chunk} {fn : Func} {R : Value → List Chunk → Prop} {E : Env} {L : List Chunk}
theorem ret_cc {e : Exit} (he : e = .ret ∨ e = .normal) {k s m b j s2 m2 b2 : Nat} {l vs l2 us : List Value} {ty ty2 : TypeId} {fr fr2 : Nat × Nat} (hr : fn.results = #[.cell k s, .cell j s2]) (hk : lk E k = some (.pointer (some ⟨b, 0, none⟩)))
    [hm : InM b (.cells l.toArray ty fr) L RO] (hs : ∀ w, (isAgg s).run P w = .ok true w) (hn : ∀ w, (sizeOf s).run P w = .ok m w) (hv : slc l 0 m = some vs)
    (hj : lk E j = some (.pointer (some ⟨b2, 0, none⟩))) [hm2 : InM b2 (.cells l2.toArray ty2 fr2) L RO] (hs2 : ∀ w, (isAgg s2).run P w = .ok true w) (hn2 : ∀ w, (sizeOf s2).run P w = .ok m2 w) (hv2 : slc l2 0 m2 = some us) (hR : RS R (.tuple #[.agg vs.toArray, .agg us.toArray]) L) :
    AQ ⟨P, n, w0, D, RO⟩ (BP P fn w0 D R) e E L :=
  aq_end he (fun a w ha hw => by
    obtain ⟨h1, h2⟩ := slc_spec _ _ _ _ hv
    have hc := run_loadCells_list (P := P) w ⟨b, 0, none⟩ vs (fun j u hj => by rw [Addr.add_off, cell_of (hw.heap hm)]; exact h2 j u hj)
    rw [h1] at hc
    obtain ⟨g1, g2⟩ := slc_spec _ _ _ _ hv2
    have hc2 := run_loadCells_list (P := P) w ⟨b2, 0, none⟩ us (fun j u hj => by rw [Addr.add_off, cell_of (hw.heap hm2)]; exact g2 j u hj)
    rw [g1] at hc2
    have hg := ha.get k _ hk
    have hg2 := ha.get j _ hj
    simp [results, hr, hg, hg2, asAddr, loadVar, hs, hn, hc, hs2, hn2, hc2]) hR
theorem ret_ctt {e : Exit} (he : e = .ret ∨ e = .normal) {k s m b j i : Nat} {u z : Value} {l vs : List Value} {ty : TypeId} {fr : Nat × Nat} (hr : fn.results = #[.cell k s, .tmp j, .tmp i]) (hk : lk E k = some (.pointer (some ⟨b, 0, none⟩)))
    [hm : InM b (.cells l.toArray ty fr) L RO] (hs : ∀ w, (isAgg s).run P w = .ok true w) (hn : ∀ w, (sizeOf s).run P w = .ok m w) (hv : slc l 0 m = some vs) (hu : lk E j = some u) (hz : lk E i = some z) (hR : RS R (.tuple #[.agg vs.toArray, u, z]) L) :
    AQ ⟨P, n, w0, D, RO⟩ (BP P fn w0 D R) e E L :=
  aq_end he (fun a w ha hw => by
    obtain ⟨h1, h2⟩ := slc_spec _ _ _ _ hv
    have hc := run_loadCells_list (P := P) w ⟨b, 0, none⟩ vs (fun j u hj => by rw [Addr.add_off, cell_of (hw.heap hm)]; exact h2 j u hj)
    rw [h1] at hc
    have hg := ha.get k _ hk
    have hj := ha.get j _ hu
    have hi := ha.get i _ hz
    simp [results, hr, hg, hj, hi, asAddr, loadVar, hs, hn, hc]) hR
end
/-- what a loop keeps -/
theorem hpS {Lf L Lr : List Chunk} [h : Split Lf L Lr] : ∃ M, L.Perm M ∧ Lf.Sublist M := ⟨_, h.perm, List.sublist_append_left _ _⟩
/-- the blocks bs, with what they hold -/
class Sel (bs : List Nat) (L : List Chunk) (Lm Lr : outParam (List Chunk)) : Prop where
  perm : L.Perm (Lm ++ Lr)
instance Sel.nil {L : List Chunk} : Sel [] L [] L := ⟨.refl _⟩
instance Sel.cons {b : Nat} {o : Obj} {bs : List Nat} {L L1 Lm Lr : List Chunk} [h1 : Pick b o L L1] [h2 : Sel bs L1 Lm Lr] : Sel (b :: bs) L ((b, o) :: Lm) Lr := ⟨h1.perm.trans (h2.perm.cons _)⟩
theorem rsX {R : Value → List Chunk → Prop} {v : Value} {L Lm Lr : List Chunk} (bs : List Nat) [hs : Sel bs L Lm Lr] (h : R v Lm) : RS R v L := ⟨Lm, ⟨_, hs.perm, List.sublist_append_left _ _⟩, h⟩
/-- the same with a segment -/
theorem rsY {R : Value → List Chunk → Prop} {v : Value} {L A L1 Lm Lr : List Chunk} (bs : List Nat) [hp : PickS A L L1] [hs : Sel bs L1 Lm Lr] (h : R v (Lm ++ A)) : RS R v L :=
  ⟨Lm ++ A, ⟨Lm ++ A ++ Lr, (hp.perm.trans ((hs.perm.append_left A).trans (by rw [← List.append_assoc]; exact (List.perm_append_comm).append_right Lr))), List.sublist_append_left _ _⟩, h⟩
theorem map_upd {α : Type} (f : α → Value) : ∀ (l : List α) (k : Nat) (a : α), k < l.length → upd (l.map f) k [f a] = some ((l.set k a).map f)
  | [], k, a, h => by simp at h
  | x :: l, 0, a, h => by simp [upd, ovr]
  | x :: l, k + 1, a, h => by simp only [List.map_cons, upd, map_upd f l k a (by simpa using h), List.set_cons_succ]
theorem map_nth {α : Type} (f : α → Value) (l : List α) (k : Nat) (h : k < l.length) : nth (l.map f) k = some (f l[k]) := by rw [nth_get, List.getElem?_map, List.getElem?_eq_getElem h]; rfl
theorem map_ld (f : Int → Value) (l : List Int) (k : Nat) (h : k < l.length) : nth (l.map f) (0 + k * 1) = some (f (l.getD k 0)) := by
  rw [Nat.zero_add, Nat.mul_one, map_nth f l k h]; simp [h]
theorem map_st (f : Int → Value) (l : List Int) (k : Nat) (a : Int) (h : k < l.length) : upd (l.map f) (0 + k * 1) [f a] = some ((l.set k a).map f) := by
  rw [Nat.zero_add, Nat.mul_one]; exact map_upd f l k a h
end Go.LL
