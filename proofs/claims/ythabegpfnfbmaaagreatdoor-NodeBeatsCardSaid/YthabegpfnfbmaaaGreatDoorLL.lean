/- Part of a claim: contracts of the program's functions, walked op by op. -/
import Derived.WalkKit
import Derived.Below
import Derived.OrdersHeld
import Derived.Deep.RegionHeld3
import Derived.Deep.LoopGhost
import Derived.KernelRfl
set_option linter.unusedSimpArgs false
set_option linter.unusedVariables false
/- A calculus over known blocks of memory: environments as lists, blocks as chunks. -/
namespace Go.LL

abbrev Env := List (Nat × Value)
abbrev Chunk := Nat × Obj

def lk : Env → Nat → Option Value
  | [], _ => none
  | (j, v) :: E, k => match Nat.beq j k with
    | true => some v
    | false => lk E k

theorem beq_ne {j k : Nat} (e : ¬ j = k) : Nat.beq j k = false := by
  cases h : Nat.beq j k with
  | true => exact absurd (Nat.eq_of_beq_eq_true h) e
  | false => rfl

def lkO (E : Env) : Operand → Option Value
  | .tmp t => lk E t
  | .const v => some v
  | .global g => some (.pointer (some ⟨g, 0, none⟩))
  | .func f => some (.func (.func f) #[] #[])

structure Agr (n : Nat) (E : Env) (a : Act) : Prop where
  defers : a.defers = []
  size : a.tmps.size = n
  get : ∀ k v, lk E k = some v → a.tmps[k]? = some v

theorem Agr.ev {n : Nat} {E : Env} {a : Act} (h : Agr n E a) {x : Operand} {v : Value} (hx : lkO E x = some v) : a.eval x = v := by
  cases x with
  | tmp t =>
    have := h.get t v hx
    simp [Act.eval, Array.getD_eq_getD_getElem?, this]
  | const u => simp only [lkO, Option.some.injEq] at hx; simp [Act.eval, hx]
  | global g => simp only [lkO, Option.some.injEq] at hx; simp [Act.eval, hx]
  | func f => simp only [lkO, Option.some.injEq] at hx; simp [Act.eval, hx]

theorem Agr.put {n : Nat} {E : Env} {a : Act} (h : Agr n E a) {d : Nat} (hd : d < n) (v : Value) : Agr n ((d, v) :: E) (a.put (some d) v) where
  defers := h.defers
  size := by simp [Act.put, h.size]
  get := by
    intro k u hk
    simp only [lk] at hk
    by_cases e : d = k
    · subst e
      have hs : a.tmps.size = n := h.size
      simp only [Nat.beq_refl, Option.some.injEq] at hk
      subst hk
      simp [Act.put, hs, hd]
    · have hb : Nat.beq d k = false := beq_ne e
      simp only [hb] at hk
      have := h.get k u hk
      simp only [Act.put, Array.getElem?_setIfInBounds]
      rw [if_neg e]
      exact this

theorem Agr.mono {n : Nat} {E E' : Env} {a : Act} (h : Agr n E a) (hs : ∀ k v, lk E' k = some v → lk E k = some v) : Agr n E' a :=
  ⟨h.defers, h.size, fun k v hk => h.get k v (hs k v hk)⟩

theorem Agr.shadow {n : Nat} {E : Env} {a : Act} (h : Agr n E a) {k : Nat} {v : Value} (hx : lk E k = some v) : Agr n ((k, v) :: E) a :=
  h.mono fun j u hj => by
    simp only [lk] at hj
    by_cases e : k = j
    · subst e; simp only [Nat.beq_refl, Option.some.injEq] at hj; rw [← hj]; exact hx
    · simpa only [beq_ne e] using hj

/-- every entry of E' is an entry of E -/
def sub (E : Env) : Env → Prop
  | [] => True
  | (k, v) :: E' => lk E k = some v ∧ sub E E'

theorem sub_lk {E : Env} : ∀ {E' : Env}, sub E E' → ∀ k v, lk E' k = some v → lk E k = some v
  | [], _, k, v, h => by simp [lk] at h
  | (j, u) :: E', ⟨h1, h2⟩, k, v, h => by
    simp only [lk] at h
    by_cases e : j = k
    · subst e; simp only [Nat.beq_refl, Option.some.injEq] at h; subst h; exact h1
    · have hb : Nat.beq j k = false := beq_ne e
      simp only [hb] at h
      exact sub_lk h2 k v h

def bks (L : List Chunk) : List Nat := L.map Prod.fst

structure Has (w : World) (L : List Chunk) : Prop where
  nodup : (bks L).Nodup
  get : ∀ c ∈ L, w.heap[c.1]? = some c.2

structure Ext (D : List Nat) (w w' : World) : Prop where
  os : w'.os = w.os
  tape : w'.tape = w.tape
  output : w'.output = w.output
  size : w.heap.size ≤ w'.heap.size
  block : ∀ k, k < w.heap.size → k ∉ D → w'.heap[k]? = w.heap[k]?

theorem Ext.refl (D : List Nat) (w : World) : Ext D w w := ⟨rfl, rfl, rfl, Nat.le_refl _, fun _ _ _ => rfl⟩
theorem Ext.trans {D : List Nat} {a b c : World} (h : Ext D a b) (k : Ext D b c) : Ext D a c :=
  ⟨k.os.trans h.os, k.tape.trans h.tape, k.output.trans h.output, Nat.le_trans h.size k.size,
   fun i hi hD => (k.block i (Nat.lt_of_lt_of_le hi h.size) hD).trans (h.block i hi hD)⟩
theorem Ext.mono {D D' : List Nat} {a b : World} (h : Ext D a b) (hs : ∀ k ∈ D, k ∈ D' ∨ a.heap.size ≤ k) : Ext D' a b :=
  ⟨h.os, h.tape, h.output, h.size, fun k hk hD => h.block k hk fun hd => (hs k hd).elim hD (by omega)⟩

structure Cx where
  P : Program
  n : Nat
  w0 : World
  D : List Nat
  RO : List Chunk

structure St (c : Cx) (L : List Chunk) (w : World) : Prop where
  has : Has w L
  ext : Ext c.D c.w0 w
  own : ∀ x ∈ L, x.1 ∈ c.D ∨ c.w0.heap.size ≤ x.1
  ro : ∀ x ∈ c.RO, w.heap[x.1]? = some x.2
  roD : ∀ x ∈ c.RO, x.1 ∉ c.D ∧ x.1 < c.w0.heap.size

theorem lt_of_get {w : World} {k : Nat} {o : Obj} (h : w.heap[k]? = some o) : k < w.heap.size := by
  rcases Nat.lt_or_ge k w.heap.size with h' | h'
  · exact h'
  · simp [Array.getElem?_eq_none h'] at h

/-- A draw. -/
theorem St.drew {c : Cx} {L : List Chunk} {w : World} (h : St c L w) : St c L w.drew :=
  ⟨⟨h.has.nodup, h.has.get⟩, ⟨h.ext.os, h.ext.tape, h.ext.output, h.ext.size, h.ext.block⟩, h.own, h.ro, h.roD⟩
theorem St.draw {c : Cx} {L : List Chunk} {w : World} (h : St c L w) : St c L { w with drawn := w.drawn + 1 } := h.drew

/-- A new block. -/
theorem St.alloc {c : Cx} {L : List Chunk} {w : World} (h : St c L w) (o : Obj) : St c ((w.heap.size, o) :: L) (w.alloc o) where
  has := by
    refine ⟨?_, ?_⟩
    · simp only [bks, List.map_cons, List.nodup_cons]
      refine ⟨fun hm => ?_, h.has.nodup⟩
      obtain ⟨x, hx, e⟩ := List.mem_map.1 hm
      have := lt_of_get (h.has.get x hx)
      omega
    · intro x hx
      rcases List.mem_cons.1 hx with rfl | hx
      · show (w.heap.push o)[w.heap.size]? = some o
        simp
      · have hl := lt_of_get (h.has.get x hx)
        rw [Below.heap_alloc _ _ _ hl]
        exact h.has.get x hx
  ext := h.ext.trans ⟨rfl, rfl, rfl, by simp, fun k hk _ => Below.heap_alloc _ _ _ hk⟩
  own := by
    intro x hx
    rcases List.mem_cons.1 hx with rfl | hx
    · exact .inr h.ext.size
    · exact h.own x hx
  ro := fun x hx => by
    have hl := lt_of_get (h.ro x hx)
    rw [Below.heap_alloc _ _ _ hl]
    exact h.ro x hx
  roD := h.roD
where
  Below.heap_alloc (w : World) (o : Obj) (k : Nat) (hk : k < w.heap.size) : (w.alloc o).heap[k]? = w.heap[k]? := by
    show (w.heap.push o)[k]? = _
    rw [Array.getElem?_push, if_neg (by omega)]

/-- A known block is written anew. -/
theorem St.write {c : Cx} {L1 L2 : List Chunk} {b : Nat} {o : Obj} {w : World} (h : St c (L1 ++ (b, o) :: L2) w) (o' : Obj) {w' : World}
    (hw : w' = { w with heap := w.heap.setIfInBounds b o' }) : St c (L1 ++ (b, o') :: L2) w' := by
  have hb : w.heap[b]? = some o := h.has.get (b, o) (by simp)
  have hlt := lt_of_get hb
  have hnd := h.has.nodup
  simp only [bks, List.map_append, List.map_cons] at hnd
  subst hw
  have other : ∀ k, k ≠ b → (w.heap.setIfInBounds b o')[k]? = w.heap[k]? := fun k hk => by
    rw [Array.getElem?_setIfInBounds, if_neg (fun e => hk e.symm)]
  have hown := h.own (b, o) (by simp)
  refine ⟨⟨?_, ?_⟩, ?_, ?_, ?_, h.roD⟩
  · simp only [bks, List.map_append, List.map_cons]; exact hnd
  · intro x hx
    have hcases : x = (b, o') ∨ (x ∈ L1 ∨ x ∈ L2) := by
      rcases List.mem_append.1 hx with h1 | h1
      · exact .inr (.inl h1)
      · rcases List.mem_cons.1 h1 with h2 | h2
        · exact .inl h2
        · exact .inr (.inr h2)
    rcases hcases with rfl | hm
    · simp [hlt]
    · have hne : x.1 ≠ b := by
        intro e
        rw [List.nodup_append] at hnd
        obtain ⟨_, hn2, hd⟩ := hnd
        rcases hm with hm | hm
        · exact hd x.1 (List.mem_map.2 ⟨x, hm, rfl⟩) b (by simp) e
        · have := (List.nodup_cons.1 hn2).1
          exact this (e ▸ List.mem_map.2 ⟨x, hm, rfl⟩)
      show (w.heap.setIfInBounds b o')[x.1]? = some x.2
      rw [other _ hne]
      exact h.has.get x (by rcases hm with hm | hm <;> simp [hm])
  · refine ⟨h.ext.os, h.ext.tape, h.ext.output, by simpa using h.ext.size, fun k hk hD => ?_⟩
    have e : k ≠ b := by
      intro e
      subst e
      rcases hown with h1 | h1
      · exact hD h1
      · simp only at h1; omega
    show (w.heap.setIfInBounds b o')[k]? = _
    rw [other k e]
    exact h.ext.block k hk hD
  · intro x hx
    rcases List.mem_append.1 hx with h1 | h1
    · exact h.own x (by simp [h1])
    · rcases List.mem_cons.1 h1 with h2 | h2
      · subst h2; exact hown
      · exact h.own x (by simp [h2])
  · intro x hx
    have hne : x.1 ≠ b := by
      intro e
      obtain ⟨hD, hsz⟩ := h.roD x hx
      rcases hown with h1 | h1
      · exact hD (e ▸ h1)
      · simp only at h1; omega
    show (w.heap.setIfInBounds b o')[x.1]? = some x.2
    rw [other _ hne]
    exact h.ro x hx
end Go.LL
namespace Go.LL

theorem St.sub {c : Cx} {L L' : List Chunk} {w : World} (h : St c L w) (hs : L'.Sublist L) : St c L' w where
  has := ⟨(hs.map Prod.fst).nodup h.has.nodup, fun x hx => h.has.get x (hs.subset hx)⟩
  ext := h.ext
  own := fun x hx => h.own x (hs.subset hx)
  ro := h.ro
  roD := h.roD

theorem bks_perm {L L' : List Chunk} (h : L.Perm L') : (bks L).Perm (bks L') := h.map _
theorem St.perm {c : Cx} {L L' : List Chunk} {w : World} (h : St c L w) (hp : L.Perm L') : St c L' w where
  has := ⟨(bks_perm hp).nodup_iff.1 h.has.nodup, fun x hx => h.has.get x (hp.mem_iff.2 hx)⟩
  ext := h.ext
  own := fun x hx => h.own x (hp.mem_iff.2 hx)
  ro := h.ro
  roD := h.roD

/-! Judgements -/
abbrev Post := Exit → Act → World → Prop
def GC (c : Cx) (Q : Post) (code : Code) (E : Env) (L : List Chunk) : Prop := ∀ a w, Agr c.n E a → St c L w → code.wp c.P Q a w
def AQ (c : Cx) (Q : Post) (e : Exit) (E : Env) (L : List Chunk) : Prop := ∀ a w, Agr c.n E a → St c L w → Q e a w
def GO (c : Cx) (l : List Oper) (Q : Post) (rest : List Oper) (E : Env) (L : List Chunk) : Prop :=
  ∀ a w, Agr c.n E a → St c L w → wpList c.P l.toArray Q rest a w

section
variable {c : Cx} {Q : Post} {E : Env} {L : List Chunk} {id : Nat} {l rest : List Oper}
theorem gc_seq {x y : Code} (h : GC c (Exit.then (y.wp c.P Q) Q) x E L) : GC c Q (.seq x y) E L := fun a w ha hw => wp_seq (h a w ha hw)
theorem gc_region (h : GO c l Q l E L) : GC c Q (.region id l.toArray false) E L := fun a w ha hw => wp_region_lit (h a w ha hw)
theorem gc_block {x : Code} (h : GC c (Exit.inBlock id Q) x E L) : GC c Q (.block id x) E L := fun a w ha hw => wp_block (h a w ha hw)
theorem gc_skip (h : AQ c Q .normal E L) : GC c Q .skip E L := fun a w ha hw => wp_skip (h a w ha hw)
theorem gc_exit (h : AQ c Q (.exit id) E L) : GC c Q (.exit id) E L := fun a w ha hw => wp_exit (h a w ha hw)
theorem gc_ret (h : AQ c Q .ret E L) : GC c Q .ret E L := fun a w ha hw => wp_ret (h a w ha hw)
theorem gc_true {x : Operand} {s t : Code} (hx : lkO E x = some (.bool true)) (h : GC c Q s E L) : GC c Q (.cond x s t) E L :=
  fun a w ha hw => wp_cond_true (ha.ev hx) (h a w ha hw)
theorem gc_false {x : Operand} {s t : Code} (hx : lkO E x = some (.bool false)) (h : GC c Q t E L) : GC c Q (.cond x s t) E L :=
  fun a w ha hw => wp_cond_false (ha.ev hx) (h a w ha hw)
theorem gc_if {k : Nat} {b : Bool} {s t : Code} (hx : lk E k = some (.bool b)) (h1 : b = true → GC c Q s ((k, .bool true) :: E) L) (h2 : b = false → GC c Q t ((k, .bool false) :: E) L) :
    GC c Q (.cond (.tmp k) s t) E L := fun a w ha hw => by
  have hs : ∀ u, b = u → Agr c.n ((k, .bool u) :: E) a := fun u hu => ha.shadow (by rw [hx, hu])
  cases hb : b
  · exact wp_cond_false (ha.ev (x := .tmp k) (by rw [← hb]; exact hx)) (h2 hb a w (hs _ hb) hw)
  · exact wp_cond_true (ha.ev (x := .tmp k) (by rw [← hb]; exact hx)) (h1 hb a w (hs _ hb) hw)
theorem go_nil (h : AQ c Q .normal E L) : GO c l Q [] E L := fun a w ha hw => wpList_nil (h a w ha hw)
theorem tn {y : Code} {Q' : Post} (h : GC c Q y E L) : AQ c (Exit.then (y.wp c.P Q) Q') .normal E L := fun a w ha hw => h a w ha hw
theorem tx {K : Act → World → Prop} {i : Nat} (h : AQ c Q (.exit i) E L) : AQ c (Exit.then K Q) (.exit i) E L := fun a w ha hw => h a w ha hw
theorem tr {K : Act → World → Prop} (h : AQ c Q .ret E L) : AQ c (Exit.then K Q) .ret E L := fun a w ha hw => h a w ha hw
theorem bn (h : AQ c Q .normal E L) : AQ c (Exit.inBlock id Q) .normal E L := fun a w ha hw => h a w ha hw
theorem br (h : AQ c Q .ret E L) : AQ c (Exit.inBlock id Q) .ret E L := fun a w ha hw => h a w ha hw
theorem bx (h : AQ c Q .normal E L) : AQ c (Exit.inBlock id Q) (.exit id) E L := fun a w ha hw => by
  show (if id = id then _ else _); rw [if_pos rfl]; exact h a w ha hw
theorem bz {i : Nat} (hi : i ≠ id) (h : AQ c Q (.exit i) E L) : AQ c (Exit.inBlock id Q) (.exit i) E L := fun a w ha hw => by
  show (if i = id then _ else _); rw [if_neg hi]; exact h a w ha hw
end
end Go.LL

namespace Go.LL
/-! Operations -/
def gd (l : List Oper) (E : Env) : Option (Nat × Bool) → Option Bool
  | none => some true
  | some (j, b) => match ((l[j]?).bind (·.dst)).bind (lk E) with
    | some (.bool true) => some b
    | some (.bool false) => some (!b)
    | some (.tuple _) => some false
    | _ => none

theorem wanted_of_gd {n : Nat} {l : List Oper} {E : Env} {a : Act} (h : Agr n E a) {o : Oper} {t : Bool} (hg : gd l E o.guard = some t) :
    Region.wanted o (yielded l.toArray a.tmps) = t := by
  unfold Region.wanted
  cases hgd : o.guard with
  | none => rw [hgd] at hg; simp only [gd, Option.some.injEq] at hg; simpa using hg
  | some p =>
    obtain ⟨j, b⟩ := p
    rw [hgd] at hg
    simp only [gd] at hg
    simp only
    cases hd : (l[j]?).bind (·.dst) with
    | none => rw [hd] at hg; simp at hg
    | some d =>
      rw [hd] at hg
      simp only [Option.bind_some] at hg
      have hy : ∀ v, lk E d = some v → yielded l.toArray a.tmps j = match (some v : Option Value) with | some (.bool b) => some b | _ => none := by
        intro v hv
        have := h.get d v hv
        simp [yielded, hd, this]
        rfl
      cases hv : lk E d with
      | none => rw [hv] at hg; simp at hg
      | some v =>
        rw [hy v hv]
        rw [hv] at hg
        cases v with
        | bool bb =>
          cases bb
          · simp only [Option.some.injEq] at hg; subst hg; cases b <;> rfl
          · simp only [Option.some.injEq] at hg; subst hg; cases b <;> rfl
        | tuple _ => simp only [Option.some.injEq] at hg; subst hg; rfl
        | _ => simp at hg

def OpQ (c : Cx) (E : Env) (L : List Chunk) (o : Oper) (v : Value) : Prop :=
  ∀ a w, Agr c.n E a → St c L w → (execOp a.eval o).run c.P w = .ok (.value v) w

def OpE (c : Cx) (E : Env) (L : List Chunk) (o : Oper) (K : Value → List Chunk → Prop) : Prop :=
  ∀ a w, Agr c.n E a → St c L w → match (execOp a.eval o).run c.P w with
    | .ok (.value v) w' => ∃ L', K v L' ∧ St c L' w'
    | .ok .skip w' => ∃ L', K undef L' ∧ St c L' w'
    | .ok (.enter f args) w' => Calls c.P f args w' fun e w'' => ∃ v L', e = .returned v ∧ K v L' ∧ St c L' w''
    | _ => False

def putE (E : Env) : Option Nat → Value → Env
  | some d, v => (d, v) :: E
  | none, _ => E

def dstOk (n : Nat) : Option Nat → Bool
  | some d => Nat.blt d n
  | none => true

theorem Agr.putE {n : Nat} {E : Env} {a : Act} (h : Agr n E a) {d : Option Nat} (hd : dstOk n d = true) (v : Value) : Agr n (putE E d v) (a.put d v) := by
  cases d with
  | none => exact h
  | some d => exact h.put (by simpa [dstOk] using hd) v

section
variable {c : Cx} {Q : Post} {E : Env} {L : List Chunk} {l rest : List Oper} {o : Oper} {v : Value}

theorem sq (h : OpQ c E L o v) (hg : gd l E o.guard = some true) (hd : dstOk c.n o.dst = true) (k : GO c l Q rest (putE E o.dst v) L) : GO c l Q (o :: rest) E L := fun a w ha hw => by
  unfold wpList
  rw [if_pos (wanted_of_gd ha hg)]
  refine .inl ?_
  unfold Oper.wp
  rw [h a w ha hw]
  exact k _ _ (ha.putE hd v) hw

theorem sskip (hg : gd l E o.guard = some false) (hd : dstOk c.n o.dst = true) (k : GO c l Q rest (putE E o.dst undef) L) : GO c l Q (o :: rest) E L := fun a w ha hw => by
  unfold wpList
  rw [if_neg (by rw [wanted_of_gd ha hg]; simp)]
  exact k _ _ (ha.putE hd undef) hw

theorem OpE.upon {K : Value → List Chunk → Prop} {next : Act → World → Prop} {Q' : Post} (h : OpE c E L o K) (hd : dstOk c.n o.dst = true) {a : Act} {w : World} (ha : Agr c.n E a) (hw : St c L w)
    (k : ∀ v L' w', K v L' → Agr c.n (putE E o.dst v) (a.put o.dst v) → St c L' w' → next (a.put o.dst v) w') : o.wp c.P a w next Q' := by
  unfold Oper.wp
  have := h a w ha hw
  generalize (execOp a.eval o).run c.P w = r at this
  cases r with
  | ok nx w' =>
    cases nx with
    | value v => obtain ⟨L', hK, hs⟩ := this; exact k v L' w' hK (ha.putE hd v) hs
    | skip => obtain ⟨L', hK, hs⟩ := this; exact k _ L' w' hK (ha.putE hd _) hs
    | enter f args =>
      refine Calls.mono this fun e w'' ⟨v, L', he, hK, hs⟩ => ?_
      subst he
      exact k v L' w'' hK (ha.putE hd v) hs
    | _ => exact this.elim
  | halt x w' => exact this.elim

theorem se {K : Value → List Chunk → Prop} (h : OpE c E L o K) (hg : gd l E o.guard = some true) (hd : dstOk c.n o.dst = true)
    (k : ∀ v L', K v L' → GO c l Q rest (putE E o.dst v) L') : GO c l Q (o :: rest) E L := fun a w ha hw => by
  unfold wpList
  rw [if_pos (wanted_of_gd ha hg)]
  exact .inl (h.upon hd ha hw fun v L' w' hK ha' hs => k v L' hK _ _ ha' hs)
end
end Go.LL
namespace Go.LL
/-! Lists of cells, evaluated to normal form -/
def nth : List Value → Nat → Option Value
  | [], _ => none
  | x :: _, 0 => some x
  | _ :: xs, k + 1 => nth xs k
def tkn : List Value → Nat → Option (List Value)
  | _, 0 => some []
  | [], _ + 1 => none
  | x :: xs, n + 1 => match tkn xs n with
    | some r => some (x :: r)
    | none => none
def slc : List Value → Nat → Nat → Option (List Value)
  | l, 0, n => tkn l n
  | [], _ + 1, _ => none
  | _ :: xs, k + 1, n => slc xs k n
def ovr : List Value → List Value → Option (List Value)
  | l, [] => some l
  | [], _ :: _ => none
  | _ :: xs, v :: vs => match ovr xs vs with
    | some r => some (v :: r)
    | none => none
def upd : List Value → Nat → List Value → Option (List Value)
  | l, 0, vs => ovr l vs
  | [], _ + 1, _ => none
  | x :: xs, k + 1, vs => match upd xs k vs with
    | some r => some (x :: r)
    | none => none

theorem nth_get : ∀ (l : List Value) (k : Nat), nth l k = l[k]?
  | [], _ => by simp [nth]
  | x :: _, 0 => by simp [nth]
  | x :: xs, k + 1 => by simp [nth, nth_get xs k]

theorem tkn_spec : ∀ (l : List Value) (n : Nat) (r : List Value), tkn l n = some r → r.length = n ∧ ∀ (j : Nat) v, r[j]? = some v → l[j]? = some v
  | l, 0, r, h => by simp [tkn] at h; subst h; simp
  | [], n + 1, r, h => by simp [tkn] at h
  | x :: xs, n + 1, r, h => by
    simp only [tkn] at h
    cases hr : tkn xs n with
    | none => rw [hr] at h; simp at h
    | some r' =>
      rw [hr] at h; simp only [Option.some.injEq] at h; subst h
      obtain ⟨h1, h2⟩ := tkn_spec xs n r' hr
      refine ⟨by simp [h1], fun j v hj => ?_⟩
      cases j with
      | zero => simpa using hj
      | succ j => simpa using h2 j v (by simpa using hj)
theorem slc_spec : ∀ (l : List Value) (k n : Nat) (r : List Value), slc l k n = some r → r.length = n ∧ ∀ (j : Nat) v, r[j]? = some v → l[k + j]? = some v
  | l, 0, n, r, h => by
    have hh : tkn l n = some r := by cases l <;> simpa [slc] using h
    simpa using tkn_spec l n r hh
  | [], k + 1, n, r, h => by simp [slc] at h
  | x :: xs, k + 1, n, r, h => by
    obtain ⟨h1, h2⟩ := slc_spec xs k n r (by simpa [slc] using h)
    refine ⟨h1, fun j v hj => ?_⟩
    rw [show k + 1 + j = (k + j) + 1 by omega]
    simpa using h2 j v hj

def setAll : Array Value → Nat → List Value → Array Value
  | a, _, [] => a
  | a, k, v :: vs => setAll (a.setIfInBounds k v) (k + 1) vs

theorem ovr_spec : ∀ (vs l r : List Value), ovr l vs = some r → r.length = l.length ∧ vs.length ≤ l.length ∧ ∀ (j : Nat), r[j]? = if j < vs.length then vs[j]? else l[j]?
  | [], l, r, h => by
    have : l = r := by cases l <;> simpa [ovr] using h
    subst this; simp
  | v :: vs, [], r, h => by simp [ovr] at h
  | v :: vs, x :: xs, r, h => by
    simp only [ovr] at h
    cases hr : ovr xs vs with
    | none => rw [hr] at h; simp at h
    | some r' =>
      rw [hr] at h; simp only [Option.some.injEq] at h; subst h
      obtain ⟨h1, h2, h3⟩ := ovr_spec vs xs r' hr
      refine ⟨by simp [h1], by simp; omega, fun j => ?_⟩
      cases j with
      | zero => simp
      | succ j => simp [h3 j]
theorem upd_spec : ∀ (l : List Value) (k : Nat) (vs r : List Value), upd l k vs = some r → r.length = l.length ∧ k + vs.length ≤ l.length ∧ ∀ (j : Nat), r[j]? = if k ≤ j ∧ j < k + vs.length then vs[j - k]? else l[j]?
  | l, 0, vs, r, h => by
    have hh : ovr l vs = some r := by cases l <;> simpa [upd] using h
    obtain ⟨h1, h2, h3⟩ := ovr_spec vs l r hh
    exact ⟨h1, by omega, fun j => by simpa using h3 j⟩
  | [], k + 1, vs, r, h => by simp [upd] at h
  | x :: xs, k + 1, vs, r, h => by
    simp only [upd] at h
    cases hr : upd xs k vs with
    | none => rw [hr] at h; simp at h
    | some r' =>
      rw [hr] at h; simp only [Option.some.injEq] at h; subst h
      obtain ⟨h1, h2, h3⟩ := upd_spec xs k vs r' hr
      refine ⟨by simp [h1], by simp; omega, fun j => ?_⟩
      cases j with
      | zero => simp
      | succ j =>
        simp only [List.getElem?_cons_succ, h3 j]
        by_cases hc : k ≤ j ∧ j < k + vs.length
        · rw [if_pos hc, if_pos (by omega), show j + 1 - (k + 1) = j - k by omega]
        · rw [if_neg hc, if_neg (by omega)]

theorem Addr.add_off (b off n : Nat) : Addr.add ⟨b, off, none⟩ n = ⟨b, off + n, none⟩ := by
  unfold Addr.add; split
  · rename_i h; subst h; rfl
  · rfl

/-- membership of a block -/
class InM (b : Nat) (o : outParam Obj) (L RO : List Chunk) : Prop where
  mem : (b, o) ∈ L ∨ (b, o) ∈ RO
instance InM.here {b : Nat} {o : Obj} {L RO : List Chunk} : InM b o ((b, o) :: L) RO := ⟨.inl (by simp)⟩
instance (priority := 500) InM.there {b : Nat} {o : Obj} {x : Chunk} {L RO : List Chunk} [h : InM b o L RO] : InM b o (x :: L) RO := ⟨h.mem.imp (fun m => List.mem_cons_of_mem _ m) id⟩
class InR (b : Nat) (o : outParam Obj) (RO : List Chunk) : Prop where
  mem : (b, o) ∈ RO
instance InR.here {b : Nat} {o : Obj} {RO : List Chunk} : InR b o ((b, o) :: RO) := ⟨by simp⟩
instance (priority := 500) InR.there {b : Nat} {o : Obj} {x : Chunk} {RO : List Chunk} [h : InR b o RO] : InR b o (x :: RO) := ⟨List.mem_cons_of_mem _ h.mem⟩
instance (priority := 100) InM.ro {b : Nat} {o : Obj} {RO : List Chunk} [h : InR b o RO] : InM b o [] RO := ⟨.inr h.mem⟩

theorem St.heap {c : Cx} {L : List Chunk} {w : World} (h : St c L w) {b : Nat} {o : Obj} (hm : InM b o L c.RO) : w.heap[b]? = some o := by
  rcases hm.mem with m | m
  · exact h.has.get _ m
  · exact h.ro _ m
theorem cell_of {w : World} {b : Nat} {l : List Value} {t : TypeId} {fr : Nat × Nat} (h : w.heap[b]? = some (.cells l.toArray t fr)) (k : Nat) : w.cell? ⟨b, k, none⟩ = l[k]? := by
  simp [World.cell?, h]

/-- the block b is at its place in L; g rebuilds the list with another content -/
class Upd (b : Nat) (o : outParam Obj) (L : List Chunk) (g : outParam (Obj → List Chunk)) : Prop where
  eq : ∃ L1 L2, L = L1 ++ (b, o) :: L2 ∧ ∀ o', g o' = L1 ++ (b, o') :: L2
instance Upd.here {b : Nat} {o : Obj} {L : List Chunk} : Upd b o ((b, o) :: L) (fun o' => (b, o') :: L) := ⟨[], L, rfl, fun _ => rfl⟩
instance (priority := 500) Upd.there {b : Nat} {o : Obj} {x : Chunk} {L : List Chunk} {g : Obj → List Chunk} [h : Upd b o L g] : Upd b o (x :: L) (fun o' => x :: g o') := ⟨by
  obtain ⟨L1, L2, h1, h2⟩ := h.eq
  exact ⟨x :: L1, L2, by rw [h1]; rfl, fun o' => by rw [h2]; rfl⟩⟩

section
variable {c : Cx} {E : Env} {L : List Chunk} {x y : Operand} {d : Option Nat} {t : TypeId} {p : String} {af : Array Edge} {g : Option (Nat × Bool)} {v : Value}

theorem q_mv (hx : lkO E x = some v) : OpQ c E L ⟨d, .move x, t, p, af, g⟩ v := fun a w ha _ => by simp only [execOp, ha.ev hx]; rfl
theorem q_as (hx : lkO E x = some v) : OpQ c E L ⟨d, .assign x, t, p, af, g⟩ v := fun a w ha _ => by simp only [execOp, ha.ev hx]; rfl
theorem q_nc {ad : Addr} (hx : lkO E x = some (.pointer (some ad))) : OpQ c E L ⟨d, .nilCheck x, t, p, af, g⟩ (.pointer (some ad)) := fun a w ha _ => by
  simp only [execOp, ha.ev hx]; rfl
theorem q_pick {z : Operand} {b : Bool} {u : Value} (hx : lkO E x = some (.bool b)) (hu : lkO E (match b with | true => y | false => z) = some u) :
    OpQ c E L ⟨d, .pick x y z, t, p, af, g⟩ u := fun a w ha _ => by
  simp only [execOp, ha.ev hx]
  cases b
  · simp only at hu; rw [ha.ev hu]; rfl
  · simp only at hu; rw [ha.ev hu]; rfl
theorem q_fa {s i b off n : Nat} {fs : Array Field} {f : Field} (hx : lkO E x = some (.pointer (some ⟨b, off, none⟩))) (hu : ∀ w, (underlying s).run c.P w = .ok (.struct fs) w) (hf : fs[i]? = some f)
    (hs : ∀ w, (sizeOf f.type).run c.P w = .ok (n + 1) w) : OpQ c E L ⟨d, .fieldAddr s x i, t, p, af, g⟩ (.pointer (some ⟨b, off + f.offset, none⟩)) := fun a w ha _ => by
  simp only [execOp, ha.ev hx, Instr.fieldAt, Instr.sureAddr]
  simp [hu, hf, fieldPlace, hs, Addr.add_off]
theorem q_ld {s b off : Nat} {l : List Value} {ty : TypeId} {fr : Nat × Nat} (hx : lkO E x = some (.pointer (some ⟨b, off, none⟩))) [hm : InM b (.cells l.toArray ty fr) L c.RO]
    (hs : ∀ w, (isAgg s).run c.P w = .ok false w) (hv : nth l off = some v) : OpQ c E L ⟨d, .load s x, t, p, af, g⟩ v := fun a w ha hw => by
  simp only [execOp, ha.ev hx, Instr.loadAt, Instr.sureAddr]
  have hc : w.cell? ⟨b, off, none⟩ = some v := by rw [cell_of (hw.heap hm), ← nth_get]; exact hv
  simp [loadVar, hs, hc, run_load]
theorem q_lda {s b off n : Nat} {l : List Value} {ty : TypeId} {fr : Nat × Nat} {vs : List Value} (hx : lkO E x = some (.pointer (some ⟨b, off, none⟩))) [hm : InM b (.cells l.toArray ty fr) L c.RO]
    (hs : ∀ w, (isAgg s).run c.P w = .ok true w) (hn : ∀ w, (sizeOf s).run c.P w = .ok n w) (hv : slc l off n = some vs) : OpQ c E L ⟨d, .load s x, t, p, af, g⟩ (.agg vs.toArray) := fun a w ha hw => by
  simp only [execOp, ha.ev hx, Instr.loadAt, Instr.sureAddr]
  obtain ⟨h1, h2⟩ := slc_spec _ _ _ _ hv
  have hc := run_loadCells_list (P := c.P) w ⟨b, off, none⟩ vs (fun j u hj => by rw [Addr.add_off, cell_of (hw.heap hm)]; exact h2 j u hj)
  rw [h1] at hc
  simp [loadVar, hs, hn, hc]
end
end Go.LL
namespace Go.LL
def cellsL : Value → List Value
  | .agg cs => cs.toList
  | v => [v]
theorem cellsL_eq (v : Value) : (cellsL v).toArray = v.cells := by cases v <;> simp [cellsL, Value.cells]

def fillL (places : List (Nat × Nat)) : List Value → List (Nat × Value) → Option (List Value)
  | l, [] => some l
  | l, (i, v) :: r => match places[i]? with
    | some (off, size) => match Nat.beq (cellsL v).length size with
      | true => match upd l off (cellsL v) with
        | some l' => fillL places l' r
        | none => none
      | false => none
    | none => none

theorem setAll_eq (off : Nat) : ∀ (vs : List Value) (k : Nat) (a : Array Value),
    (vs.zipIdx k).foldl (fun cs (x : Value × Nat) => cs.setIfInBounds (off + x.2) x.1) a = setAll a (off + k) vs
  | [], k, a => by simp [setAll]
  | v :: vs, k, a => by
    simp only [List.zipIdx_cons, List.foldl_cons, setAll]
    rw [setAll_eq off vs (k + 1)]
    rfl
theorem setAll_get : ∀ (vs : List Value) (k : Nat) (a : Array Value), (setAll a k vs).size = a.size ∧
    ∀ (j : Nat), k + vs.length ≤ a.size → (setAll a k vs)[j]? = if k ≤ j ∧ j < k + vs.length then vs[j - k]? else a[j]?
  | [], k, a => by simp [setAll]; intro j hj; omega
  | v :: vs, k, a => by
    obtain ⟨h1, h2⟩ := setAll_get vs (k + 1) (a.setIfInBounds k v)
    refine ⟨by simp [setAll, h1], fun j hj => ?_⟩
    simp only [List.length_cons] at hj
    simp only [setAll, List.length_cons]
    rw [h2 j (by simp; omega)]
    by_cases hc : k + 1 ≤ j ∧ j < k + 1 + vs.length
    · rw [if_pos hc, if_pos (by omega), show j - k = (j - (k + 1)) + 1 by omega]; simp
    · rw [if_neg hc]
      by_cases e : k = j
      · subst e
        have hk : k < a.size := by omega
        rw [if_pos (by omega)]
        simp [hk]
      · rw [if_neg (by omega), Array.getElem?_setIfInBounds, if_neg e]
theorem upd_setAll {l vs r : List Value} {k : Nat} (h : upd l k vs = some r) : setAll l.toArray k vs = r.toArray := by
  obtain ⟨h1, h2, h3⟩ := upd_spec _ _ _ _ h
  obtain ⟨g1, g2⟩ := setAll_get vs k l.toArray
  apply Array.ext_getElem?
  intro j
  rw [g2 j (by simpa using h2)]
  simp [h3]

theorem fill_of_fillL {places : Array (Nat × Nat)} : ∀ (vals : List (Nat × Value)) (l r : List Value), fillL places.toList l vals = some r →
    Instr.fill (places[·]?) l.toArray vals = some r.toArray
  | [], l, r, h => by simp only [fillL, Option.some.injEq] at h; subst h; rfl
  | (i, v) :: vals, l, r, h => by
    simp only [fillL] at h
    unfold Instr.fill
    cases hp : places.toList[i]? with
    | none => rw [hp] at h; simp at h
    | some os =>
      obtain ⟨off, size⟩ := os
      rw [hp] at h
      have hp' : places[i]? = some (off, size) := by rw [← Array.getElem?_toList]; exact hp
      simp only [hp'] at h ⊢
      cases hb : Nat.beq (cellsL v).length size with
      | false => rw [hb] at h; simp at h
      | true =>
        rw [hb] at h
        simp only at h
        have hsz : (cellsL v).length = size := Nat.eq_of_beq_eq_true hb
        cases hu : upd l off (cellsL v) with
        | none => rw [hu] at h; simp at h
        | some l' =>
          rw [hu] at h
          simp only at h
          have hs2 := (upd_spec _ _ _ _ hu).2.1
          have hc := cellsL_eq v
          have hcs : v.cells.size = size := by rw [← hc]; simpa using hsz
          rw [if_neg (by simp [hcs]; omega)]
          have := fill_of_fillL vals l' r h
          rw [← this]
          have h5 : l'.toArray = Array.foldl (fun cs (x : Value × Nat) => cs.setIfInBounds (off + x.2) x.1) l.toArray v.cells.zipIdx := by
            rw [← upd_setAll hu, ← hc]
            have := setAll_eq off (cellsL v) 0 l.toArray
            rw [Nat.add_zero] at this
            rw [← this, ← Array.foldl_toList, Array.toList_zipIdx]
          rw [h5]

def lkP (E : Env) : List (Nat × Operand) → Option (List (Nat × Value))
  | [] => some []
  | (i, x) :: r => match lkO E x with
    | some v => match lkP E r with
      | some vs => some ((i, v) :: vs)
      | none => none
    | none => none
def lkA (E : Env) : List Operand → Option (List Value)
  | [] => some []
  | x :: r => match lkO E x with
    | some v => match lkA E r with
      | some vs => some (v :: vs)
      | none => none
    | none => none
theorem lkP_eval {n : Nat} {E : Env} {a : Act} (ha : Agr n E a) : ∀ (l : List (Nat × Operand)) (vs : List (Nat × Value)), lkP E l = some vs → l.map (fun (i, x) => (i, a.eval x)) = vs
  | [], vs, h => by simp [lkP] at h; simp [h]
  | (i, x) :: r, vs, h => by
    simp only [lkP] at h
    cases hx : lkO E x with
    | none => rw [hx] at h; simp at h
    | some v =>
      rw [hx] at h
      cases hr : lkP E r with
      | none => rw [hr] at h; simp at h
      | some vr =>
        rw [hr] at h; simp only [Option.some.injEq] at h; subst h
        simp only [List.map_cons, ha.ev hx, lkP_eval ha r vr hr]
theorem lkA_eval {n : Nat} {E : Env} {a : Act} (ha : Agr n E a) : ∀ (l : List Operand) (vs : List Value), lkA E l = some vs → l.map a.eval = vs
  | [], vs, h => by simp [lkA] at h; simp [h]
  | x :: r, vs, h => by
    simp only [lkA] at h
    cases hx : lkO E x with
    | none => rw [hx] at h; simp at h
    | some v =>
      rw [hx] at h
      cases hr : lkA E r with
      | none => rw [hr] at h; simp at h
      | some vr =>
        rw [hr] at h; simp only [Option.some.injEq] at h; subst h
        simp only [List.map_cons, ha.ev hx, lkA_eval ha r vr hr]

section
variable {c : Cx} {E : Env} {L : List Chunk} {x y : Operand} {d : Option Nat} {t : TypeId} {p : String} {af : Array Edge} {g : Option (Nat × Bool)} {v : Value}

theorem q_bld {s : TypeId} {fs : Array Field} {places : Array (Nat × Nat)} {parts : List (Nat × Operand)} {vals : List (Nat × Value)} {z : Value} {zl r : List Value}
    (hp : lkP E parts = some vals) (hu : ∀ w, (underlying s).run c.P w = .ok (.struct fs) w) (hz : ∀ w, (zeroValue s).run c.P w = .ok z w) (hzl : z.cells = zl.toArray)
    (hpl : ∀ w, (fs.mapM fun f => do pure (f.offset, ← sizeOf f.type) : Sem (Array (Nat × Nat))).run c.P w = .ok places w)
    (hf : fillL places.toList zl vals = some r) : OpQ c E L ⟨d, .build s parts.toArray, t, p, af, g⟩ (.agg r.toArray) := fun a w ha _ => by
  have h1 : (parts.toArray.map fun (i, x) => (i, a.eval x)) = vals.toArray := by rw [List.map_toArray, lkP_eval ha _ _ hp]
  have h2 := fill_of_fillL (places := places) vals zl r hf
  simp only [execOp, h1, Instr.build, Sem.run_bind, hz, Result.andThen_ok, hu, hzl, hpl, h2]
  rfl
theorem q_fld {s i n : Nat} {fs : Array Field} {f : Field} {cs vs : List Value} (hx : lkO E x = some (.agg cs.toArray)) (hu : ∀ w, (underlying s).run c.P w = .ok (.struct fs) w) (hf : fs[i]? = some f)
    (hs : ∀ w, (isAgg f.type).run c.P w = .ok true w) (hn : ∀ w, (sizeOf f.type).run c.P w = .ok n w) (hv : slc cs f.offset n = some vs) : OpQ c E L ⟨d, .field s x i, t, p, af, g⟩ (.agg vs.toArray) := fun a w ha _ => by
  simp only [execOp, ha.ev hx, Instr.field]
  obtain ⟨h1, h2⟩ := slc_spec _ _ _ _ hv
  have : cs.toArray.extract f.offset (f.offset + n) = vs.toArray := by
    apply Array.ext_getElem?
    intro j
    rw [Array.getElem?_extract]
    simp only [List.size_toArray, List.getElem?_toArray]
    by_cases hj : j < n
    · have hvj : vs[j]? = some vs[j] := List.getElem?_eq_getElem (by omega)
      have hc := h2 j _ hvj
      have hlt : f.offset + j < cs.length := by
        rcases Nat.lt_or_ge (f.offset + j) cs.length with h | h
        · exact h
        · rw [List.getElem?_eq_none h] at hc; simp at hc
      rw [if_pos (by omega), hc, hvj]
    · rw [if_neg (by omega), List.getElem?_eq_none (by omega)]
  have this' : List.take n (List.drop f.offset cs) = vs := by have := congrArg Array.toList this; simpa using this
  simp [hu, hf, part, hs, hn, asAgg, this']
theorem q_fls {s i : Nat} {fs : Array Field} {f : Field} {cs : List Value} (hx : lkO E x = some (.agg cs.toArray)) (hu : ∀ w, (underlying s).run c.P w = .ok (.struct fs) w) (hf : fs[i]? = some f)
    (hs : ∀ w, (isAgg f.type).run c.P w = .ok false w) (hv : nth cs f.offset = some v) : OpQ c E L ⟨d, .field s x i, t, p, af, g⟩ v := fun a w ha _ => by
  simp only [execOp, ha.ev hx, Instr.field]
  rw [nth_get] at hv
  simp [hu, hf, part, hs, asAgg, hv]
theorem q_ext {i : Nat} {cs : List Value} (hx : lkO E x = some (.tuple cs.toArray)) (hv : nth cs i = some v) : OpQ c E L ⟨d, .extract x i, t, p, af, g⟩ v := fun a w ha _ => by
  simp only [execOp, ha.ev hx, Instr.extract]
  rw [nth_get] at hv
  simp [hv]
theorem q_not {s : TypeId} {b : Bool} (hx : lkO E x = some (.bool b)) : OpQ c E L ⟨d, .unOp .not s x, t, p, af, g⟩ (.bool (!b)) := fun a w ha _ => by
  simp only [execOp, ha.ev hx]; rfl
section ints
variable {k : IntKind} {m n : Int} {s s' : TypeId}
theorem q_add (hx : lkO E x = some (.int k m)) (hy : lkO E y = some (.int k n)) : OpQ c E L ⟨d, .binOp .add s x y s', t, p, af, g⟩ (.int k (k.wrap (m + n))) := fun a w ha _ => by
  simp only [execOp, ha.ev hx, ha.ev hy]; simp [eqGuard, binOp, Op.intArith]
theorem q_sub (hx : lkO E x = some (.int k m)) (hy : lkO E y = some (.int k n)) : OpQ c E L ⟨d, .binOp .sub s x y s', t, p, af, g⟩ (.int k (k.wrap (m - n))) := fun a w ha _ => by
  simp only [execOp, ha.ev hx, ha.ev hy]; simp [eqGuard, binOp, Op.intArith]
theorem q_mul (hx : lkO E x = some (.int k m)) (hy : lkO E y = some (.int k n)) : OpQ c E L ⟨d, .binOp .mul s x y s', t, p, af, g⟩ (.int k (k.wrap (m * n))) := fun a w ha _ => by
  simp only [execOp, ha.ev hx, ha.ev hy]; simp [eqGuard, binOp, Op.intArith]
theorem q_lss (hx : lkO E x = some (.int k m)) (hy : lkO E y = some (.int k n)) : OpQ c E L ⟨d, .binOp .lss s x y s', t, p, af, g⟩ (.bool (decide (m < n))) := fun a w ha _ => by
  simp only [execOp, ha.ev hx, ha.ev hy]; simp [eqGuard, binOp, Op.intCmp]
theorem q_leq (hx : lkO E x = some (.int k m)) (hy : lkO E y = some (.int k n)) : OpQ c E L ⟨d, .binOp .leq s x y s', t, p, af, g⟩ (.bool (decide (m ≤ n))) := fun a w ha _ => by
  simp only [execOp, ha.ev hx, ha.ev hy]; simp [eqGuard, binOp, Op.intCmp]
theorem q_gtr (hx : lkO E x = some (.int k m)) (hy : lkO E y = some (.int k n)) : OpQ c E L ⟨d, .binOp .gtr s x y s', t, p, af, g⟩ (.bool (decide (n < m))) := fun a w ha _ => by
  simp only [execOp, ha.ev hx, ha.ev hy]; simp [eqGuard, binOp, Op.intCmp]
theorem q_geq (hx : lkO E x = some (.int k m)) (hy : lkO E y = some (.int k n)) : OpQ c E L ⟨d, .binOp .geq s x y s', t, p, af, g⟩ (.bool (decide (n ≤ m))) := fun a w ha _ => by
  simp only [execOp, ha.ev hx, ha.ev hy]; simp [eqGuard, binOp, Op.intCmp]
theorem q_eql (hx : lkO E x = some (.int k m)) (hy : lkO E y = some (.int k n)) : OpQ c E L ⟨d, .binOp .eql s x y s', t, p, af, g⟩ (.bool (decide (m = n))) := fun a w ha _ => by
  simp only [execOp, ha.ev hx, ha.ev hy]; simp [eqGuard, binOp, Op.intCmp]; rfl
theorem q_neq (hx : lkO E x = some (.int k m)) (hy : lkO E y = some (.int k n)) : OpQ c E L ⟨d, .binOp .neq s x y s', t, p, af, g⟩ (.bool (decide (m ≠ n))) := fun a w ha _ => by
  simp only [execOp, ha.ev hx, ha.ev hy]; simp [eqGuard, binOp, Op.intCmp, bne]; rfl
end ints
end
end Go.LL
namespace Go.LL
section
variable {c : Cx} {Q : Post} {E : Env} {L : List Chunk} {x y : Operand} {d : Option Nat} {t : TypeId} {p : String} {af : Array Edge} {g : Option (Nat × Bool)} {v : Value}

def NewK (zl : List Value) (s : TypeId) (L : List Chunk) (v : Value) (L' : List Chunk) : Prop := ∃ b, v = .pointer (some ⟨b, 0, none⟩) ∧ L' = (b, .cells zl.toArray s (0, 0)) :: L

theorem e_alloc {s : TypeId} {z : Value} {zl : List Value} (hz : ∀ w, (zeroValue s).run c.P w = .ok z w) (hzl : z.cells = zl.toArray) :
    OpE c E L ⟨d, .alloc s, t, p, af, g⟩ (NewK zl s L) := fun a w ha hw => by
  have : (execOp a.eval ⟨d, .alloc s, t, p, af, g⟩).run c.P w = .ok (.value (.pointer (some ⟨w.heap.size, 0, none⟩))) (w.alloc (.cells zl.toArray s (0, 0))) := by
    simp [execOp, Instr.alloc, hz, newVar, newRow, hzl]
  rw [this]
  exact ⟨_, ⟨_, rfl, rfl⟩, hw.alloc _⟩
theorem e_box {s : TypeId} {zl : List Value} (hx : lkO E x = some v) (hzl : v.cells = zl.toArray) :
    OpE c E L ⟨d, .box s x, t, p, af, g⟩ (NewK zl s L) := fun a w ha hw => by
  have : (execOp a.eval ⟨d, .box s x, t, p, af, g⟩).run c.P w = .ok (.value (.pointer (some ⟨w.heap.size, 0, none⟩))) (w.alloc (.cells zl.toArray s (0, 0))) := by
    simp [execOp, Instr.box, newVar, newRow, ha.ev hx, hzl]
  rw [this]
  exact ⟨_, ⟨_, rfl, rfl⟩, hw.alloc _⟩

def BslK (zl : List Value) (s n : Nat) (L : List Chunk) (v : Value) (L' : List Chunk) : Prop := ∃ b, v = .slice (some ⟨b, 0, none⟩) n n ∧ L' = (b, .cells zl.toArray s (0, 0)) :: L
/-- a slice literal: its cells as `fillL` reckons them -/
theorem e_bsl {s e n size : Nat} {parts : List (Nat × Operand)} {vals : List (Nat × Value)} {z : Value} {zl r : List Value}
    (hp : lkP E parts = some vals) (hu : ∀ w, (underlying s).run c.P w = .ok (.slice e) w) (hs : ∀ w, (sizeOf e).run c.P w = .ok size w) (hn : n * size ≤ 2 ^ 24) (hn0 : n * size ≠ 0)
    (hz : ∀ w, (zeroValue e).run c.P w = .ok z w) (hzl : (Array.range (n * size)).map (z.cells[· % z.cells.size]!) = zl.toArray)
    (hf : fillL ((List.range n).map fun i => (i * size, size)) zl vals = some r) :
    OpE c E L ⟨d, .buildSlice s n parts.toArray, t, p, af, g⟩ (BslK r e n L) := fun a w ha hw => by
  have h1 : (parts.toArray.map fun (i, x) => (i, a.eval x)) = vals.toArray := by rw [List.map_toArray, lkP_eval ha _ _ hp]
  have hff : Instr.fill (fun i => some (i * size, size)) zl.toArray vals = some r.toArray := fill_range vals zl r hf
  have : (execOp a.eval ⟨d, .buildSlice s n parts.toArray, t, p, af, g⟩).run c.P w = .ok (.value (.slice (some ⟨w.heap.size, 0, none⟩) n n)) (w.alloc (.cells r.toArray e (0, 0))) := by
    simp only [execOp, h1, Instr.buildSlice, Sem.run_bind, hu, Result.andThen_ok, hs]
    rw [if_neg (by omega)]
    simp only [Sem.run_pure]
    rw [if_neg hn0]
    simp only [Sem.run_bind, hz, Sem.run_pure, Result.andThen_ok, hzl, hff]
    simp [newRow]
  rw [this]
  exact ⟨_, ⟨_, rfl, rfl⟩, hw.alloc _⟩
where
  fill_range {n size : Nat} : ∀ (vals : List (Nat × Value)) (l r : List Value), fillL ((List.range n).map fun i => (i * size, size)) l vals = some r →
    Instr.fill (fun i => some (i * size, size)) l.toArray vals = some r.toArray
  | [], l, r, h => by simp only [fillL, Option.some.injEq] at h; subst h; rfl
  | (i, v) :: vals, l, r, h => by
    simp only [fillL] at h
    unfold Instr.fill
    cases hp : ((List.range n).map fun i => (i * size, size))[i]? with
    | none => rw [hp] at h; simp at h
    | some os =>
      obtain ⟨off, sz⟩ := os
      have hos : off = i * size ∧ sz = size := by
        rw [List.getElem?_map] at hp
        cases hr : (List.range n)[i]? with
        | none => rw [hr] at hp; simp at hp
        | some j =>
          rw [hr] at hp
          have hj : j = i := by
            have := List.getElem?_eq_some_iff.1 hr
            obtain ⟨h1, h2⟩ := this
            simpa using h2.symm
          simp only [Option.map_some, Option.some.injEq, Prod.mk.injEq] at hp
          subst hj; exact ⟨hp.1.symm, hp.2.symm⟩
      obtain ⟨rfl, rfl⟩ := hos
      rw [hp] at h
      simp only at h ⊢
      cases hb : Nat.beq (cellsL v).length sz with
      | false => rw [hb] at h; simp at h
      | true =>
        rw [hb] at h
        simp only at h
        have hsz : (cellsL v).length = sz := Nat.eq_of_beq_eq_true hb
        cases hu : upd l (i * sz) (cellsL v) with
        | none => rw [hu] at h; simp at h
        | some l' =>
          rw [hu] at h
          simp only at h
          have hs2 := (upd_spec _ _ _ _ hu).2.1
          have hc := cellsL_eq v
          have hcs : v.cells.size = sz := by rw [← hc]; simpa using hsz
          rw [if_neg (by simp [hcs]; omega)]
          have := fill_range vals l' r h
          rw [← this]
          have h5 : l'.toArray = Array.foldl (fun cs (x : Value × Nat) => cs.setIfInBounds (i * sz + x.2) x.1) l.toArray v.cells.zipIdx := by
            rw [← upd_setAll hu, ← hc]
            have := setAll_eq (i * sz) (cellsL v) 0 l.toArray
            rw [Nat.add_zero] at this
            rw [← this, ← Array.foldl_toList, Array.toList_zipIdx]
          rw [h5]

def allOne : List Value → Bool
  | [] => true
  | .agg _ :: _ => false
  | .tuple _ :: _ => false
  | _ :: r => allOne r
theorem allOne_mem : ∀ (l : List Value), allOne l = true → ∀ v ∈ l, v.oneCell' = true
  | [], _, v, h => by simp at h
  | u :: r, h, v, hv => by
    have hr : allOne r = true := by cases u <;> simp [allOne] at h <;> exact h
    rcases List.mem_cons.1 hv with rfl | hv
    · cases v <;> simp [allOne] at h <;> rfl
    · exact allOne_mem r hr v hv

theorem run_storeCells (P : Program) (b : Nat) (ty : TypeId) : ∀ (vs : List Value) (off i : Nat) (w : World) (l r : List Value), allOne vs = true → w.heap[b]? = some (.cells l.toArray ty (0, 0)) → upd l (off + i) vs = some r →
    (storeCells ⟨b, off, none⟩ vs i).run P w = .ok () { w with heap := w.heap.setIfInBounds b (.cells r.toArray ty (0, 0)) }
  | [], off, i, w, l, r, _, hb, hu => by
    have h3 := upd_spec _ _ _ _ hu
    have hlr : l = r := by
      apply List.ext_getElem?
      intro j
      rw [h3.2.2 j]
      simp only [List.length_nil, Nat.add_zero]
      rw [if_neg (by omega)]
    subst hlr
    have : w.heap.setIfInBounds b (.cells l.toArray ty (0, 0)) = w.heap := by
      apply Array.ext_getElem?
      intro j
      rw [Array.getElem?_setIfInBounds]
      split
      · rename_i e; subst e
        rw [if_pos (lt_of_get hb)]; exact hb.symm
      · rfl
    rw [this]; rfl
  | v :: vs, off, i, w, l, r, h1, hb, hu => by
    have hlt : off + i < l.length := by
      have := (upd_spec _ _ _ _ hu).2.1
      simp at this; omega
    have hvone := allOne_mem _ h1 v (by simp)
    have h1' : allOne vs = true := by cases v <;> simp [allOne] at h1 <;> exact h1
    have hcell : ∃ u, w.cell? ⟨b, off + i, none⟩ = some u := ⟨l[off + i], by rw [cell_of hb]; exact List.getElem?_eq_getElem hlt⟩
    obtain ⟨u, hcell⟩ := hcell
    have hfz : w.frozen? ⟨b, off + i, none⟩ = false := by simp [World.frozen?, hb]
    simp only [storeCells, Sem.run_bind, Addr.add_off]
    rw [run_store _ _ _ _ _ hvone, hcell]
    simp only [hfz, Bool.false_eq_true, if_false, Result.andThen_ok]
    have hset : w.setCell ⟨b, off + i, none⟩ v = { w with heap := w.heap.setIfInBounds b (.cells (l.set (off + i) v).toArray ty (0, 0)) } := by
      simp only [World.setCell]
      congr 1
      apply Array.ext_getElem?
      intro j
      rw [Array.getElem?_modify, Array.getElem?_setIfInBounds]
      split
      · rename_i e; subst e
        rw [hb, if_pos (lt_of_get hb)]
        simp
      · rfl
    rw [hset]
    have hb' : ({ w with heap := w.heap.setIfInBounds b (.cells (l.set (off + i) v).toArray ty (0, 0)) } : World).heap[b]? = some (.cells (l.set (off + i) v).toArray ty (0, 0)) := by
      show (w.heap.setIfInBounds b _)[b]? = _
      rw [Array.getElem?_setIfInBounds, if_pos rfl, if_pos (lt_of_get hb)]
    have hu' : upd (l.set (off + i) v) (off + (i + 1)) vs = some r := upd_step hu
    rw [run_storeCells P b ty vs off (i + 1) _ _ r h1' hb' hu']
    simp
where
  upd_step {l r vs : List Value} {v : Value} {k : Nat} (h : upd l k (v :: vs) = some r) : upd (l.set k v) (k + 1) vs = some r := by
    induction l generalizing k r with
    | nil => cases k <;> simp [upd, ovr] at h
    | cons x xs ih =>
      cases k with
      | zero =>
        simp only [upd, ovr] at h
        cases hr : ovr xs vs with
        | none => rw [hr] at h; simp at h
        | some r' =>
          rw [hr] at h; simp only [Option.some.injEq] at h; subst h
          have : upd xs 0 vs = some r' := by cases xs <;> simpa [upd] using hr
          simp [upd, this]
      | succ k =>
        simp only [upd] at h
        cases hr : upd xs k (v :: vs) with
        | none => rw [hr] at h; simp at h
        | some r' =>
          rw [hr] at h; simp only [Option.some.injEq] at h; subst h
          simp [upd, ih hr]

def StK (L' : List Chunk) (v : Value) (L'' : List Chunk) : Prop := v = undef ∧ L'' = L'
theorem e_st {s b off n : Nat} {l vs r : List Value} {ty : TypeId} {gg : Obj → List Chunk} (hx : lkO E x = some (.pointer (some ⟨b, off, none⟩))) (hy : lkO E y = some v) [hm : Upd b (.cells l.toArray ty (0, 0)) L gg]
    (hn : ∀ w, (sizeOf s).run c.P w = .ok n w) (hc : v.cells = vs.toArray) (hl : vs.length = n) (h1 : allOne vs = true) (hv : upd l off vs = some r) :
    OpE c E L ⟨d, .store s x y, t, p, af, g⟩ (StK (gg (.cells r.toArray ty (0, 0)))) := fun a w ha hw => by
  obtain ⟨L1, L2, e1, e2⟩ := hm.eq
  subst e1
  have hb : w.heap[b]? = some (.cells l.toArray ty (0, 0)) := hw.has.get (b, _) (by simp)
  have : (execOp a.eval ⟨d, .store s x y, t, p, af, g⟩).run c.P w = .ok .skip { w with heap := w.heap.setIfInBounds b (.cells r.toArray ty (0, 0)) } := by
    simp only [execOp, ha.ev hx, ha.ev hy, Instr.storeAt, Instr.sureAddr]
    have := run_storeCells c.P b ty vs off 0 w l r h1 hb hv
    simp [storeVar, hn, hc, hl, this]
  rw [this]
  exact ⟨_, ⟨rfl, rfl⟩, by rw [e2]; exact hw.write _ rfl⟩

theorem s_new {o : Oper} {l rest : List Oper} {zl : List Value} {s : TypeId} (h : OpE c E L o (NewK zl s L)) (hg : gd l E o.guard = some true) (hd : dstOk c.n o.dst = true)
    (k : ∀ b, GO c l Q rest (putE E o.dst (.pointer (some ⟨b, 0, none⟩))) ((b, .cells zl.toArray s (0, 0)) :: L)) : GO c l Q (o :: rest) E L :=
  se h hg hd fun _ _ ⟨b, hv, hL⟩ => by subst hv; subst hL; exact k b
theorem s_bsl {o : Oper} {l rest : List Oper} {zl : List Value} {s n : Nat} (h : OpE c E L o (BslK zl s n L)) (hg : gd l E o.guard = some true) (hd : dstOk c.n o.dst = true)
    (k : ∀ b, GO c l Q rest (putE E o.dst (.slice (some ⟨b, 0, none⟩) n n)) ((b, .cells zl.toArray s (0, 0)) :: L)) : GO c l Q (o :: rest) E L :=
  se h hg hd fun _ _ ⟨b, hv, hL⟩ => by subst hv; subst hL; exact k b
theorem s_st {o : Oper} {l rest : List Oper} {L' : List Chunk} (h : OpE c E L o (StK L')) (hg : gd l E o.guard = some true) (hd : o.dst = none)
    (k : GO c l Q rest E L') : GO c l Q (o :: rest) E L :=
  se h hg (by rw [hd]; rfl) fun _ _ ⟨_, hL⟩ => by subst hL; rw [hd]; exact k
end
end Go.LL
namespace Go.LL
theorem Ext.trans' {D F : List Nat} {a b c : World} (h : Ext D a b) (k : Ext F b c) (hs : ∀ k ∈ F, k ∈ D ∨ a.heap.size ≤ k) : Ext D a c :=
  ⟨k.os.trans h.os, k.tape.trans h.tape, k.output.trans h.output, Nat.le_trans h.size k.size,
   fun i hi hD => (k.block i (Nat.lt_of_lt_of_le hi h.size) fun hf => (hs i hf).elim hD (by omega)).trans (h.block i hi hD)⟩
/-! Functions -/
/-- What a function owes: L: the blocks that it may write (and their contents), RO: blocks that it reads. -/
def Spec (P : Program) (f : FuncId) (args : List Value) (L RO : List Chunk) (R : Value → List Chunk → Prop) : Prop :=
  ∀ w, Has w L → (∀ x ∈ RO, w.heap[x.1]? = some x.2 ∧ x.1 ∉ bks L) →
    Calls P f args.toArray w fun e w' => ∃ v L', e = .returned v ∧ R v L' ∧ Has w' L' ∧ Ext (bks L) w w' ∧ ∀ x ∈ L', x.1 ∈ bks L ∨ w.heap.size ≤ x.1

theorem Spec.mono {P : Program} {f : FuncId} {args : List Value} {L RO : List Chunk} {R R' : Value → List Chunk → Prop} (h : Spec P f args L RO R) (hr : ∀ v L', R v L' → R' v L') : Spec P f args L RO R' :=
  fun w h1 h2 => (h w h1 h2).mono fun _ _ ⟨v, L', he, hR, r⟩ => ⟨v, L', he, hr _ _ hR, r⟩

def envOf : List Value → Nat → Env
  | [], _ => []
  | v :: vs, k => (k, v) :: envOf vs (k + 1)
theorem envOf_lk : ∀ (vs : List Value) (k j : Nat) (v : Value), lk (envOf vs k) j = some v → k ≤ j ∧ vs[j - k]? = some v
  | [], k, j, v, h => by simp [envOf, lk] at h
  | u :: vs, k, j, v, h => by
    simp only [envOf, lk] at h
    by_cases e : k = j
    · subst e; simp only [Nat.beq_refl, Option.some.injEq] at h; simp [h]
    · rw [beq_ne e] at h
      obtain ⟨h1, h2⟩ := envOf_lk vs (k + 1) j v h
      exact ⟨by omega, by rw [show j - k = (j - (k + 1)) + 1 by omega]; simpa using h2⟩

/-- the post of the body -/
def BP (P : Program) (fn : Func) (w0 : World) (D : List Nat) (R : Value → List Chunk → Prop) : Post :=
  bodyPost P fn fun e w' => ∃ v L', e = .returned v ∧ R v L' ∧ Has w' L' ∧ Ext D w0 w' ∧ ∀ x ∈ L', x.1 ∈ D ∨ w0.heap.size ≤ x.1

theorem spec_of {P : Program} {f : FuncId} {fn : Func} {code : Code} {args : List Value} {L RO : List Chunk} {R : Value → List Chunk → Prop} {n : Nat}
    (hf : P.funcs[f]? = some fn) (hb : fn.body = some code) (hn : fn.ntmps = n) (ha : args.length ≤ n)
    (h : ∀ w0, (∀ x ∈ L, x.1 < w0.heap.size) → GC ⟨P, n, w0, bks L, RO⟩ (BP P fn w0 (bks L) R) code (envOf args 0) L) : Spec P f args L RO R := by
  intro w hL hRO
  refine calls_of_wp hf hb ?_
  refine h w (fun x hx => lt_of_get (hL.get x hx)) _ w ⟨rfl, ?_, ?_⟩ ⟨hL, Ext.refl _ _, fun x hx => .inl (List.mem_map.2 ⟨x, hx, rfl⟩), fun x hx => (hRO x hx).1, fun x hx => ⟨(hRO x hx).2, lt_of_get (hRO x hx).1⟩⟩
  · simp [hn]; omega
  · intro k v hk
    obtain ⟨_, h2⟩ := envOf_lk _ _ _ _ hk
    have hlt : k < args.length := by
      rcases Nat.lt_or_ge k args.length with h' | h'
      · exact h'
      · rw [List.getElem?_eq_none (by omega)] at h2; simp at h2
    rw [Array.getElem?_append, if_pos (by simpa using hlt)]
    simpa using h2

class Pick (b : Nat) (o : outParam Obj) (L : List Chunk) (Lr : outParam (List Chunk)) : Prop where
  perm : L.Perm ((b, o) :: Lr)
instance Pick.here {b : Nat} {o : Obj} {L : List Chunk} : Pick b o ((b, o) :: L) L := ⟨.refl _⟩
instance (priority := 500) Pick.there {b : Nat} {o : Obj} {x : Chunk} {L Lr : List Chunk} [h : Pick b o L Lr] : Pick b o (x :: L) (x :: Lr) := ⟨(h.perm.cons x).trans (.swap _ _ _)⟩
class Split (Lf L : List Chunk) (Lr : outParam (List Chunk)) : Prop where
  perm : L.Perm (Lf ++ Lr)
instance Split.nil {L : List Chunk} : Split [] L L := ⟨.refl _⟩
instance Split.cons {b : Nat} {o : Obj} {Lf L L1 Lr : List Chunk} [h1 : Pick b o L L1] [h2 : Split Lf L1 Lr] : Split ((b, o) :: Lf) L Lr := ⟨h1.perm.trans (h2.perm.cons _)⟩
class SubM (ROg Lr RO : List Chunk) : Prop where
  sub : ∀ x ∈ ROg, x ∈ Lr ∨ x ∈ RO
instance SubM.nil {Lr RO : List Chunk} : SubM [] Lr RO := ⟨fun _ h => by simp at h⟩
instance SubM.cons {b : Nat} {o : Obj} {ROg Lr RO : List Chunk} [h1 : InM b o Lr RO] [h2 : SubM ROg Lr RO] : SubM ((b, o) :: ROg) Lr RO := ⟨fun x hx => by
  rcases List.mem_cons.1 hx with rfl | hx
  · exact h1.mem
  · exact h2.sub x hx⟩

/-- the post, of a part of what is known -/
def RS (R : Value → List Chunk → Prop) (v : Value) (L : List Chunk) : Prop := ∃ L', (∃ M, L.Perm M ∧ L'.Sublist M) ∧ R v L'
theorem rs {R : Value → List Chunk → Prop} {v : Value} {L L' Lr : List Chunk} (h : R v L') [hs : Split L' L Lr] : RS R v L := ⟨L', ⟨_, hs.perm, List.sublist_append_left _ _⟩, h⟩
theorem rsE {L L' Lr : List Chunk} {v u : Value} [hs : Split L' L Lr] (h : v = u) : RS (fun v L => v = u ∧ L = L') v L := rs (L' := L') ⟨h, rfl⟩

section
variable {P : Program} {n : Nat} {w0 : World} {D : List Nat} {RO : List Chunk} {fn : Func} {R : Value → List Chunk → Prop} {E : Env} {L : List Chunk}
theorem aq_end {e : Exit} (he : e = .ret ∨ e = .normal) {v : Value} (hv : ∀ a w, Agr n E a → St ⟨P, n, w0, D, RO⟩ L w → (results fn a.tmps).run P w = .ok v w) (hR : RS R v L) :
    AQ ⟨P, n, w0, D, RO⟩ (BP P fn w0 D R) e E L := fun a w ha hw => by
  have : bodyPost P fn (fun e w' => ∃ v L', e = .returned v ∧ R v L' ∧ Has w' L' ∧ Ext D w0 w' ∧ ∀ x ∈ L', x.1 ∈ D ∨ w0.heap.size ≤ x.1) e a w := by
    obtain ⟨L', ⟨M, hp, hsb⟩, hR'⟩ := hR
    have hw' := (hw.perm hp).sub hsb
    rcases he with rfl | rfl <;> exact ⟨ha.defers, v, hv a w ha hw, v, L', rfl, hR', hw'.has, hw'.ext, hw'.own⟩
  exact this
theorem ret_0 {e : Exit} (he : e = .ret ∨ e = .normal) (hr : fn.results = #[]) (hR : RS R (.tuple #[]) L) : AQ ⟨P, n, w0, D, RO⟩ (BP P fn w0 D R) e E L :=
  aq_end he (fun a w _ _ => by simp [results, hr]) hR
theorem ret_1 {e : Exit} (he : e = .ret ∨ e = .normal) {k : Nat} {v : Value} (hr : fn.results = #[.tmp k]) (hv : lk E k = some v) (hR : RS R v L) : AQ ⟨P, n, w0, D, RO⟩ (BP P fn w0 D R) e E L :=
  aq_end he (fun a w ha _ => by have := ha.get k v hv; simp [results, hr, this]) hR
theorem ret_2 {e : Exit} (he : e = .ret ∨ e = .normal) {k j : Nat} {v u : Value} (hr : fn.results = #[.tmp k, .tmp j]) (hv : lk E k = some v) (hu : lk E j = some u) (hR : RS R (.tuple #[v, u]) L) :
    AQ ⟨P, n, w0, D, RO⟩ (BP P fn w0 D R) e E L :=
  aq_end he (fun a w ha _ => by have h1 := ha.get k v hv; have h2 := ha.get j u hu; simp [results, hr, h1, h2]) hR
theorem ret_3 {e : Exit} (he : e = .ret ∨ e = .normal) {k j i : Nat} {v u z : Value} (hr : fn.results = #[.tmp k, .tmp j, .tmp i]) (hv : lk E k = some v) (hu : lk E j = some u) (hz : lk E i = some z) (hR : RS R (.tuple #[v, u, z]) L) :
    AQ ⟨P, n, w0, D, RO⟩ (BP P fn w0 D R) e E L :=
  aq_end he (fun a w ha _ => by have h1 := ha.get k v hv; have h2 := ha.get j u hu; have h3 := ha.get i z hz; simp [results, hr, h1, h2, h3]) hR

/-- a result that lies in a block of its own -/
theorem load_agg {c : Cx} {a : Act} {w : World} {k s m b : Nat} {l vs : List Value} {ty : TypeId} {fr : Nat × Nat} (ha : Agr c.n E a) (hw : St c L w) (hk : lk E k = some (.pointer (some ⟨b, 0, none⟩)))
    (hm : InM b (.cells l.toArray ty fr) L c.RO) (hs : ∀ w, (isAgg s).run c.P w = .ok true w) (hn : ∀ w, (sizeOf s).run c.P w = .ok m w) (hv : slc l 0 m = some vs) :
    (results { fn with results := #[.cell k s] } a.tmps).run c.P w = .ok (.agg vs.toArray) w := by
  obtain ⟨h1, h2⟩ := slc_spec _ _ _ _ hv
  have hc := run_loadCells_list (P := c.P) w ⟨b, 0, none⟩ vs (fun j u hj => by rw [Addr.add_off, cell_of (hw.heap hm)]; exact h2 j u hj)
  rw [h1] at hc
  have hg := ha.get k _ hk
  simp [results, hg, asAddr, loadVar, hs, hn, hc]

theorem ret_c {e : Exit} (he : e = .ret ∨ e = .normal) {k s m b : Nat} {l vs : List Value} {ty : TypeId} {fr : Nat × Nat} (hr : fn.results = #[.cell k s]) (hk : lk E k = some (.pointer (some ⟨b, 0, none⟩)))
    [hm : InM b (.cells l.toArray ty fr) L RO] (hs : ∀ w, (isAgg s).run P w = .ok true w) (hn : ∀ w, (sizeOf s).run P w = .ok m w) (hv : slc l 0 m = some vs) (hR : RS R (.agg vs.toArray) L) :
    AQ ⟨P, n, w0, D, RO⟩ (BP P fn w0 D R) e E L :=
  aq_end he (fun a w ha hw => by
    obtain ⟨h1, h2⟩ := slc_spec _ _ _ _ hv
    have hc := run_loadCells_list (P := P) w ⟨b, 0, none⟩ vs (fun j u hj => by rw [Addr.add_off, cell_of (hw.heap hm)]; exact h2 j u hj)
    rw [h1] at hc
    have hg := ha.get k _ hk
    simp [results, hr, hg, asAddr, loadVar, hs, hn, hc]) hR
theorem ret_ct {e : Exit} (he : e = .ret ∨ e = .normal) {k s m b j : Nat} {u : Value} {l vs : List Value} {ty : TypeId} {fr : Nat × Nat} (hr : fn.results = #[.cell k s, .tmp j]) (hk : lk E k = some (.pointer (some ⟨b, 0, none⟩)))
    [hm : InM b (.cells l.toArray ty fr) L RO] (hs : ∀ w, (isAgg s).run P w = .ok true w) (hn : ∀ w, (sizeOf s).run P w = .ok m w) (hv : slc l 0 m = some vs) (hu : lk E j = some u) (hR : RS R (.tuple #[.agg vs.toArray, u]) L) :
    AQ ⟨P, n, w0, D, RO⟩ (BP P fn w0 D R) e E L :=
  aq_end he (fun a w ha hw => by
    obtain ⟨h1, h2⟩ := slc_spec _ _ _ _ hv
    have hc := run_loadCells_list (P := P) w ⟨b, 0, none⟩ vs (fun j u hj => by rw [Addr.add_off, cell_of (hw.heap hm)]; exact h2 j u hj)
    rw [h1] at hc
    have hg := ha.get k _ hk
    have hj := ha.get j _ hu
    simp [results, hr, hg, hj, asAddr, loadVar, hs, hn, hc]) hR
end

/-! Calls -/
section
variable {c : Cx} {Q : Post} {E : Env} {L : List Chunk} {d : Option Nat} {t : TypeId} {p : String} {af : Array Edge} {g : Option (Nat × Bool)}

/-- L is Lf (what the callee may write) and Lr (the rest), in some order -/
def CallK (Lr : List Chunk) (R : Value → List Chunk → Prop) (v : Value) (L' : List Chunk) : Prop := ∃ Lg, R v Lg ∧ L' = Lg ++ Lr
theorem e_call {f : FuncId} {args : List Operand} {vs : List Value} {ats : Array TypeId} {Lf Lr ROg : List Chunk} {R : Value → List Chunk → Prop} (hspec : Spec c.P f vs Lf ROg R)
    (hargs : lkA E args = some vs) (hent : ∀ as w, (callFunc f as).run c.P w = .ok (.enter f as) w) [hsp : Split Lf L Lr] [hsm : SubM ROg Lr c.RO] :
    OpE c E L ⟨d, .call { callee := .value (.func f), args := args.toArray, argTypes := ats }, t, p, af, g⟩ (CallK Lr R) := fun a w ha hw => by
  have hp := hsp.perm
  have hro := hsm.sub
  have hav : (args.toArray.map a.eval) = vs.toArray := by rw [List.map_toArray, lkA_eval ha _ _ hargs]
  have hrun : (execOp a.eval ⟨d, .call { callee := .value (.func f), args := args.toArray, argTypes := ats }, t, p, af, g⟩).run c.P w = .ok (.enter f vs.toArray) w := by
    simp only [execOp, resolve, hav, Act.eval, Deferred.ofValue, Sem.run_bind, Sem.run_pure, Result.andThen_ok, invoke]
    simpa using hent vs.toArray w
  rw [hrun]
  have hw' := hw.perm hp
  have hnd := hw'.has.nodup
  simp only [bks, List.map_append, List.nodup_append] at hnd
  obtain ⟨hnf, hnr, hdis⟩ := hnd
  have hf : Has w Lf := ⟨hnf, fun x hx => hw'.has.get x (by simp [hx])⟩
  have hbk : ∀ x ∈ Lr, x.1 ∉ bks Lf := fun x hx hm => hdis x.1 hm x.1 (List.mem_map.2 ⟨x, hx, rfl⟩) rfl
  have hroN : ∀ x ∈ c.RO, x.1 ∉ bks Lf := fun x hx hm => by
    obtain ⟨y, hy, e⟩ := List.mem_map.1 hm
    obtain ⟨h1, h2⟩ := hw.roD x hx
    rcases hw'.own y (by simp [hy]) with h3 | h3
    · exact h1 (e ▸ h3)
    · omega
  refine (hspec w hf (fun x hx => ?_)).mono fun e w' ⟨v, Lg, he, hR, hhas, hext, hown⟩ => ⟨v, Lg ++ Lr, he, ⟨Lg, hR, rfl⟩, ?_⟩
  · rcases hro x hx with h1 | h1
    · exact ⟨hw'.has.get x (by simp [h1]), hbk x h1⟩
    · exact ⟨hw.ro x h1, hroN x h1⟩
  · refine ⟨⟨?_, ?_⟩, ?_, ?_, ?_, hw.roD⟩
    · simp only [bks, List.map_append, List.nodup_append]
      refine ⟨hhas.nodup, hnr, fun k hk j hj e => ?_⟩
      subst e
      obtain ⟨x, hx, ex⟩ := List.mem_map.1 hk
      obtain ⟨y, hy, ey⟩ := List.mem_map.1 hj
      rcases hown x hx with h3 | h3
      · exact hbk y hy (by rw [ey, ← ex]; exact h3)
      · have := lt_of_get (hw'.has.get y (by simp [hy]))
        omega
    · intro x hx
      rcases List.mem_append.1 hx with h1 | h1
      · exact hhas.get x h1
      · have hg := hw'.has.get x (by simp [h1])
        rw [hext.block _ (lt_of_get hg) (hbk x h1)]; exact hg
    · refine hw.ext.trans' hext fun k hk => ?_
      obtain ⟨x, hx, ex⟩ := List.mem_map.1 hk
      exact ex ▸ hw'.own x (by simp [hx])
    · intro x hx
      rcases List.mem_append.1 hx with h1 | h1
      · rcases hown x h1 with h3 | h3
        · obtain ⟨y, hy, ey⟩ := List.mem_map.1 h3
          exact ey ▸ hw'.own y (by simp [hy])
        · exact .inr (Nat.le_trans hw.ext.size h3)
      · exact hw'.own x (by simp [h1])
    · intro x hx
      have hg := hw.ro x hx
      rw [hext.block _ (lt_of_get hg) (hroN x hx)]; exact hg
theorem app1 {x : Chunk} {l rest : List Oper} (h : GO c l Q rest E (x :: L)) : GO c l Q rest E ([x] ++ L) := h
theorem app2 {x y : Chunk} {l rest : List Oper} (h : GO c l Q rest E (x :: y :: L)) : GO c l Q rest E ([x, y] ++ L) := h
theorem app3 {x y z : Chunk} {l rest : List Oper} (h : GO c l Q rest E (x :: y :: z :: L)) : GO c l Q rest E ([x, y, z] ++ L) := h
/-- a call whose answer is one value, that leaves the blocks Lg -/
theorem s_callE {o : Oper} {l rest : List Oper} {Lr : List Chunk} {u : Value} (h : OpE c E L o (CallK Lr (fun v L' => v = u ∧ L' = []))) (hg : gd l E o.guard = some true) (hd : dstOk c.n o.dst = true)
    (k : GO c l Q rest (putE E o.dst u) Lr) : GO c l Q (o :: rest) E L :=
  se h hg hd fun v _ ⟨Lg, ⟨hv, hL'⟩, hL⟩ => by subst hL; subst hL'; subst hv; exact k
theorem s_call {o : Oper} {l rest : List Oper} {Lr : List Chunk} {R : Value → List Chunk → Prop} (h : OpE c E L o (CallK Lr R)) (hg : gd l E o.guard = some true) (hd : dstOk c.n o.dst = true)
    (k : ∀ v Lg, R v Lg → GO c l Q rest (putE E o.dst v) (Lg ++ Lr)) : GO c l Q (o :: rest) E L :=
  se h hg hd fun v _ ⟨Lg, hR, hL⟩ => by subst hL; exact k v Lg hR
end
end Go.LL
namespace Go.LL
/-! Regions that draw their order: a part in which what only reads is taken first, and a tail that waits for all of it -/
section
variable {P : Program} {ops : Array Oper} {Q : Post} {S : World → Prop} {T : Nat → Bool}

/-- whatever order is picked; behind each operation that is not of the tail, S holds -/
def wAny (P : Program) (ops : Array Oper) (Q : Post) (S : World → Prop) (T : Nat → Bool) : Nat → Array Bool → Act → World → Prop
  | 0, listed, a, w => Region.ready .any ops listed = [] ∧ Q .normal a w
  | f + 1, listed, a, w => (Region.ready .any ops listed = [] → Q .normal a w) ∧
    ∀ i ∈ Region.ready .any ops listed, wpOp P ops Q i (fun a' w' => (T i = false → S w') ∧ wAny P ops Q S T f (listed.setIfInBounds i true) a' w') a w

theorem wAny_any : ∀ (f : Nat) (listed : Array Bool) (a : Act) (w : World), wAny P ops Q S T f listed a w → wpAny P .any ops Q f listed a w
  | 0, _, _, _, h => h
  | f + 1, _, _, _, h => ⟨h.1, fun i hi => wpOp_mono (fun a' w' h' => wAny_any f _ a' w' h'.2) (h.2 i hi)⟩

/-- an operation that only reads may be taken first: the tail waits for it, all others keep S -/
theorem wAny_first {i : Nat} {oi : Oper} {v : Value} (hi : ops[i]? = some oi) (hsel : Region.noSelect ops = true) (hQ : ∀ c a w, ¬ Q (.panic c) a w)
    (hT : ∀ j oj, ops[j]? = some oj → T j = true → ∃ e ∈ oj.after, Region.binds .any e = true ∧ e.on = i) :
    ∀ (f : Nat) (listed : Array Bool) (a : Act) (w : World),
      (∀ j oj, ops[j]? = some oj → j ≠ i → listed.getD j true = false → (∀ e ∈ oj.after, Region.binds .any e = true → e.on ≠ i) → oi.apart ops oj = true) →
      i ∈ Region.ready .any ops listed → YieldsIf P ops S oi v a → S w →
      wAny P ops Q S T f (listed.setIfInBounds i true) (a.put oi.dst v) w → wAny P ops Q S T (f + 1) listed a w
  | 0, listed, a, w, _, hr, hy, hS, H => by
    refine ⟨fun h => (by rw [h] at hr; cases hr), fun j hj => ?_⟩
    by_cases hji : j = i
    · subst hji; exact hy.wpOp hi hS ⟨fun _ => hS, H⟩
    · have hm := ready_mono hj hji
      rw [H.1] at hm
      cases hm
  | f + 1, listed, a, w, hfree, hr, hy, hS, H => by
    refine ⟨fun h => (by rw [h] at hr; cases hr), fun j hj => ?_⟩
    by_cases hji : j = i
    · subst hji; exact hy.wpOp hi hS ⟨fun _ => hS, H⟩
    obtain ⟨hjun, oj, hoj, hall⟩ := mem_ready.1 hj
    have hiun := (mem_ready.1 hr).1
    have hnot : ∀ e ∈ oj.after, Region.binds .any e = true → e.on ≠ i := fun e he hb heq => by
      have h1 := hall e he hb
      rw [heq] at h1
      rcases Nat.lt_or_ge i listed.size with h' | h'
      · simp [h'] at hiun h1; rw [hiun] at h1; cases h1
      · simp [Array.getElem?_eq_none h'] at h1
    have hTj : T j = false := by
      cases hc : T j with
      | false => rfl
      | true =>
        obtain ⟨e, he, hb, ho⟩ := hT j oj hoj hc
        exact absurd ho (hnot e he hb)
    have h2 := wpOp_putIf hoj (hfree j oj hoj hji hjun hnot) (fun cs b => Region.noSelect_spec hsel i oi cs b hi) (fun cs b => Region.noSelect_spec hsel j oj cs b hoj)
      (fun c a w hq => absurd hq (hQ c _ w)) hy (H.2 j (ready_mono hj hji))
    refine wpOp_mono (fun a' w' h3 => ?_) h2
    obtain ⟨hy', hS', hrest⟩ := h3
    refine ⟨fun _ => hS' hTj, wAny_first hi hsel hQ hT f _ a' w' (fun k ok hk hki hun hno => ?_) (ready_mono hr (Ne.symm hji)) hy' (hS' hTj) ?_⟩
    · refine hfree k ok hk hki ?_ hno
      by_cases hjk : j = k
      · subst hjk; exact hjun
      · rw [getD_set_ne true hjk] at hun; exact hun
    · rw [Array.setIfInBounds_comm _ _ hji]
      exact hrest
end

def waits (ops : Array Oper) (t i : Nat) : Bool := match ops[t]? with
  | some o => o.after.any fun e => Region.binds .any e && Nat.beq e.on i
  | none => true
def okT (ops : Array Oper) : List Nat → Array Bool → Bool
  | [], listed => (Region.ready .any ops listed).isEmpty
  | i :: r, listed => (Region.ready .any ops listed == [i]) && okT ops r (listed.setIfInBounds i true)
def okO (ops : Array Oper) (tl : List Nat) : List (Nat × Bool) → Array Bool → Bool
  | [], listed => okT ops tl listed
  | (i, true) :: r, listed => tl.all (waits ops · i) && Region.free .any ops listed i && (Region.ready .any ops listed).contains i && okO ops tl r (listed.setIfInBounds i true)
  | (i, false) :: r, listed => !tl.contains i && (Region.ready .any ops listed == [i]) && okO ops tl r (listed.setIfInBounds i true)

/-- the tail -/
def GT (c : Cx) (l : List Oper) (Q : Post) (Ls : List Chunk) (T tl : List Nat) (E : Env) (L : List Chunk) : Prop :=
  ∀ listed a w, okT l.toArray tl listed = true → (∀ i ∈ tl, T.contains i = true) → Agr c.n E a → St c L w → wAny c.P l.toArray (NoPanic Q) (St c Ls) T.contains tl.length listed a w
def GX (c : Cx) (l : List Oper) (Q : Post) (Ls : List Chunk) (tl : List Nat) (ord : List (Nat × Bool)) (E : Env) (L : List Chunk) : Prop :=
  ∀ listed a w, Region.noSelect l.toArray = true → okO l.toArray tl ord listed = true → Agr c.n E a → St c L w → St c Ls w → wAny c.P l.toArray (NoPanic Q) (St c Ls) tl.contains (ord.length + tl.length) listed a w

section
variable {c : Cx} {Q : Post} {E : Env} {L Ls : List Chunk} {l : List Oper} {o : Oper} {v : Value} {i : Nat} {r : List (Nat × Bool)} {T tl : List Nat}

theorem gc_draw {id : Nat} {ord : List (Nat × Bool)} (tl : List Nat) (hm : c.P.follows .mixedOrders = true) (hk : okO l.toArray tl ord (Array.replicate l.toArray.size false) = true) (hlen : ord.length + tl.length = l.length)
    (hs : Region.noSelect l.toArray = true) (hsub : Ls.Sublist L) (h : GX c l Q Ls tl ord E L) : GC c Q (.region id l.toArray true) E L := fun a w ha hw => by
  refine wp_region_noPanic (wp_region_any hm (wAny_any (S := St c Ls) (T := tl.contains) _ _ _ _ ?_))
  have := h _ a w.drew hs hk ha hw.drew (hw.drew.sub hsub)
  rw [hlen] at this
  simpa using this

theorem gx_tail (h : GT c l Q Ls tl tl E L) : GX c l Q Ls tl [] E L := fun listed a w _ hk ha hw _ => by
  have := h listed a w (by simpa [okO] using hk) (fun i hi => by simpa using hi) ha hw
  simpa using this
theorem gt_nil (h : AQ c Q .normal E L) : GT c l Q Ls T [] E L := fun listed a w hk _ ha hw => by
  have : Region.ready .any l.toArray listed = [] := by simpa [okT] using hk
  exact ⟨this, NoPanic.normal (h a w ha hw)⟩
theorem gx_nil (h : AQ c Q .normal E L) : GX c l Q Ls [] [] E L := gx_tail (gt_nil h)

theorem gx_q (h : OpQ c E Ls o v) (hi : l[i]? = some o) (hg : gd l E o.guard = some true) (hd : dstOk c.n o.dst = true)
    (k : GX c l Q Ls tl r (putE E o.dst v) L) : GX c l Q Ls tl ((i, true) :: r) E L := fun listed a w hs hk ha hw hws => by
  simp only [okO, Bool.and_eq_true] at hk
  obtain ⟨⟨⟨ht, hf⟩, hr⟩, hk'⟩ := hk
  have hi' : l.toArray[i]? = some o := by simpa using hi
  have := wAny_first (S := St c Ls) (T := tl.contains) (Q := NoPanic Q) (oi := o) (v := v) (P := c.P) hi' hs (fun c a w hq => hq.elim) (fun j oj hj hT => ?_) (r.length + tl.length) listed a w
    (Region.free_spec hi' hf) (by simpa using hr) (.inl ⟨wanted_of_gd ha hg, fun w hw => h a w ha hw⟩) hws (k _ _ w hs hk' (ha.putE hd v) hw hws)
  · simpa [Nat.add_right_comm] using this
  · have hm : j ∈ tl := by simpa using hT
    have hw := (List.all_eq_true.1 ht) j hm
    simp only [waits, hj, Array.any_eq_true'] at hw
    obtain ⟨e, he, hb⟩ := hw
    simp only [Bool.and_eq_true] at hb
    exact ⟨e, he, hb.1, Nat.eq_of_beq_eq_true hb.2⟩
theorem gx_skip (hi : l[i]? = some o) (hg : gd l E o.guard = some false) (hd : dstOk c.n o.dst = true)
    (k : GX c l Q Ls tl r (putE E o.dst undef) L) : GX c l Q Ls tl ((i, true) :: r) E L := fun listed a w hs hk ha hw hws => by
  simp only [okO, Bool.and_eq_true] at hk
  obtain ⟨⟨⟨ht, hf⟩, hr⟩, hk'⟩ := hk
  have hi' : l.toArray[i]? = some o := by simpa using hi
  have := wAny_first (S := St c Ls) (T := tl.contains) (Q := NoPanic Q) (oi := o) (v := undef) (P := c.P) hi' hs (fun c a w hq => hq.elim) (fun j oj hj hT => ?_) (r.length + tl.length) listed a w
    (Region.free_spec hi' hf) (by simpa using hr) (.inr ⟨wanted_of_gd ha hg, rfl⟩) hws (k _ _ w hs hk' (ha.putE hd undef) hw hws)
  · simpa [Nat.add_right_comm] using this
  · have hm : j ∈ tl := by simpa using hT
    have hw := (List.all_eq_true.1 ht) j hm
    simp only [waits, hj, Array.any_eq_true'] at hw
    obtain ⟨e, he, hb⟩ := hw
    simp only [Bool.and_eq_true] at hb
    exact ⟨e, he, hb.1, Nat.eq_of_beq_eq_true hb.2⟩
theorem wAny_one {f : Nat} {listed : Array Bool} {a : Act} {w : World} {S : World → Prop} {T : Nat → Bool} {Q : Post} {P : Program} {ops : Array Oper} (hr : Region.ready .any ops listed = [i])
    (h : wpOp P ops Q i (fun a' w' => (T i = false → S w') ∧ wAny P ops Q S T f (listed.setIfInBounds i true) a' w') a w) : wAny P ops Q S T (f + 1) listed a w :=
  ⟨fun h0 => by rw [h0] at hr; simp at hr, fun j hj => by rw [hr] at hj; have : j = i := by simpa using hj
                                                          subst this; exact h⟩
theorem gx_e {K : Value → List Chunk → Prop} (h : OpE c E L o K) (hi : l[i]? = some o) (hg : gd l E o.guard = some true) (hd : dstOk c.n o.dst = true)
    (k : ∀ v L', K v L' → Ls.Sublist L' ∧ GX c l Q Ls tl r (putE E o.dst v) L') : GX c l Q Ls tl ((i, false) :: r) E L := fun listed a w hs hk ha hw hws => by
  simp only [okO, Bool.and_eq_true, beq_iff_eq] at hk
  obtain ⟨⟨_, hr⟩, hk'⟩ := hk
  have hi' : l.toArray[i]? = some o := by simpa using hi
  rw [show ((i, false) :: r).length + tl.length = (r.length + tl.length) + 1 by simp [Nat.add_right_comm]]
  refine wAny_one hr ?_
  unfold wpOp
  simp only [hi']
  rw [if_pos (wanted_of_gd ha hg)]
  refine .inl (h.upon hd ha hw fun v L' w' hK ha' hs' => ?_)
  obtain ⟨hsub, hk2⟩ := k v L' hK
  exact ⟨fun _ => hs'.sub hsub, hk2 _ _ w' hs hk' ha' hs' (hs'.sub hsub)⟩
theorem gx_eskip (hi : l[i]? = some o) (hg : gd l E o.guard = some false) (hd : dstOk c.n o.dst = true)
    (k : GX c l Q Ls tl r (putE E o.dst undef) L) : GX c l Q Ls tl ((i, false) :: r) E L := fun listed a w hs hk ha hw hws => by
  simp only [okO, Bool.and_eq_true, beq_iff_eq] at hk
  obtain ⟨⟨_, hr⟩, hk'⟩ := hk
  have hi' : l.toArray[i]? = some o := by simpa using hi
  rw [show ((i, false) :: r).length + tl.length = (r.length + tl.length) + 1 by simp [Nat.add_right_comm]]
  refine wAny_one hr ?_
  unfold wpOp
  simp only [hi']
  rw [if_neg (by rw [wanted_of_gd ha hg]; simp)]
  exact ⟨fun _ => hws, k _ _ w hs hk' (ha.putE hd undef) hw hws⟩
theorem gt_e {K : Value → List Chunk → Prop} {r : List Nat} (h : OpE c E L o K) (hi : l[i]? = some o) (hg : gd l E o.guard = some true) (hd : dstOk c.n o.dst = true)
    (k : ∀ v L', K v L' → GT c l Q Ls T r (putE E o.dst v) L') : GT c l Q Ls T (i :: r) E L := fun listed a w hk hT ha hw => by
  simp only [okT, Bool.and_eq_true, beq_iff_eq] at hk
  obtain ⟨hr, hk'⟩ := hk
  have hi' : l.toArray[i]? = some o := by simpa using hi
  refine wAny_one hr ?_
  unfold wpOp
  simp only [hi']
  rw [if_pos (wanted_of_gd ha hg)]
  have hTi := hT i (by simp)
  exact .inl (h.upon hd ha hw fun v L' w' hK ha' hs' => ⟨fun hf => by rw [hTi] at hf; simp at hf, k v L' hK _ _ w' hk' (fun j hj => hT j (by simp [hj])) ha' hs'⟩)
theorem gt_skip {r : List Nat} (hi : l[i]? = some o) (hg : gd l E o.guard = some false) (hd : dstOk c.n o.dst = true)
    (k : GT c l Q Ls T r (putE E o.dst undef) L) : GT c l Q Ls T (i :: r) E L := fun listed a w hk hT ha hw => by
  simp only [okT, Bool.and_eq_true, beq_iff_eq] at hk
  obtain ⟨hr, hk'⟩ := hk
  have hi' : l.toArray[i]? = some o := by simpa using hi
  refine wAny_one hr ?_
  unfold wpOp
  simp only [hi']
  rw [if_neg (by rw [wanted_of_gd ha hg]; simp)]
  have hTi := hT i (by simp)
  exact ⟨fun hf => by rw [hTi] at hf; simp at hf, k _ _ w hk' (fun j hj => hT j (by simp [hj])) (ha.putE hd undef) hw⟩

theorem x_new {zl : List Value} {s : TypeId} (h : OpE c E L o (NewK zl s L)) (hi : l[i]? = some o) (hg : gd l E o.guard = some true) (hd : dstOk c.n o.dst = true) (hsub : Ls.Sublist L)
    (k : ∀ b, GX c l Q Ls tl r (putE E o.dst (.pointer (some ⟨b, 0, none⟩))) ((b, .cells zl.toArray s (0, 0)) :: L)) : GX c l Q Ls tl ((i, false) :: r) E L :=
  gx_e h hi hg hd fun _ _ ⟨b, hv, hL⟩ => by subst hv; subst hL; exact ⟨hsub.cons _, k b⟩
theorem x_bsl {zl : List Value} {s n : Nat} (h : OpE c E L o (BslK zl s n L)) (hi : l[i]? = some o) (hg : gd l E o.guard = some true) (hd : dstOk c.n o.dst = true) (hsub : Ls.Sublist L)
    (k : ∀ b, GX c l Q Ls tl r (putE E o.dst (.slice (some ⟨b, 0, none⟩) n n)) ((b, .cells zl.toArray s (0, 0)) :: L)) : GX c l Q Ls tl ((i, false) :: r) E L :=
  gx_e h hi hg hd fun _ _ ⟨b, hv, hL⟩ => by subst hv; subst hL; exact ⟨hsub.cons _, k b⟩
theorem x_st {L' : List Chunk} (h : OpE c E L o (StK L')) (hi : l[i]? = some o) (hg : gd l E o.guard = some true) (hd : o.dst = none) (hsub : Ls.Sublist L')
    (k : GX c l Q Ls tl r E L') : GX c l Q Ls tl ((i, false) :: r) E L :=
  gx_e h hi hg (by rw [hd]; rfl) fun _ _ ⟨_, hL⟩ => by subst hL; rw [hd]; exact ⟨hsub, k⟩
theorem xapp1 {x : Chunk} (h : GX c l Q Ls tl r E (x :: L)) : GX c l Q Ls tl r E ([x] ++ L) := h
theorem xapp2 {x y : Chunk} (h : GX c l Q Ls tl r E (x :: y :: L)) : GX c l Q Ls tl r E ([x, y] ++ L) := h
theorem xapp3 {x y z : Chunk} (h : GX c l Q Ls tl r E (x :: y :: z :: L)) : GX c l Q Ls tl r E ([x, y, z] ++ L) := h
theorem x_callE {Lr : List Chunk} {u : Value} (h : OpE c E L o (CallK Lr (fun v L' => v = u ∧ L' = []))) (hi : l[i]? = some o) (hg : gd l E o.guard = some true) (hd : dstOk c.n o.dst = true) (hsub : Ls.Sublist Lr)
    (k : GX c l Q Ls tl r (putE E o.dst u) Lr) : GX c l Q Ls tl ((i, false) :: r) E L :=
  gx_e h hi hg hd fun v _ ⟨Lg, ⟨hv, hL'⟩, hL⟩ => by subst hL; subst hL'; subst hv; exact ⟨hsub, k⟩
theorem x_call {Lr : List Chunk} {R : Value → List Chunk → Prop} (h : OpE c E L o (CallK Lr R)) (hi : l[i]? = some o) (hg : gd l E o.guard = some true) (hd : dstOk c.n o.dst = true) (hsub : Ls.Sublist Lr)
    (k : ∀ v Lg, R v Lg → GX c l Q Ls tl r (putE E o.dst v) (Lg ++ Lr)) : GX c l Q Ls tl ((i, false) :: r) E L :=
  gx_e h hi hg hd fun v _ ⟨Lg, hR, hL⟩ => by subst hL; exact ⟨hsub.trans (List.sublist_append_right Lg Lr), k v Lg hR⟩
theorem t_new {zl : List Value} {s : TypeId} {r : List Nat} (h : OpE c E L o (NewK zl s L)) (hi : l[i]? = some o) (hg : gd l E o.guard = some true) (hd : dstOk c.n o.dst = true)
    (k : ∀ b, GT c l Q Ls T r (putE E o.dst (.pointer (some ⟨b, 0, none⟩))) ((b, .cells zl.toArray s (0, 0)) :: L)) : GT c l Q Ls T (i :: r) E L :=
  gt_e h hi hg hd fun _ _ ⟨b, hv, hL⟩ => by subst hv; subst hL; exact k b
theorem t_bsl {zl : List Value} {s n : Nat} {r : List Nat} (h : OpE c E L o (BslK zl s n L)) (hi : l[i]? = some o) (hg : gd l E o.guard = some true) (hd : dstOk c.n o.dst = true)
    (k : ∀ b, GT c l Q Ls T r (putE E o.dst (.slice (some ⟨b, 0, none⟩) n n)) ((b, .cells zl.toArray s (0, 0)) :: L)) : GT c l Q Ls T (i :: r) E L :=
  gt_e h hi hg hd fun _ _ ⟨b, hv, hL⟩ => by subst hv; subst hL; exact k b
theorem t_st {L' : List Chunk} {r : List Nat} (h : OpE c E L o (StK L')) (hi : l[i]? = some o) (hg : gd l E o.guard = some true) (hd : o.dst = none)
    (k : GT c l Q Ls T r E L') : GT c l Q Ls T (i :: r) E L :=
  gt_e h hi hg (by rw [hd]; rfl) fun _ _ ⟨_, hL⟩ => by subst hL; rw [hd]; exact k
theorem tapp1 {x : Chunk} {r : List Nat} (h : GT c l Q Ls T r E (x :: L)) : GT c l Q Ls T r E ([x] ++ L) := h
theorem tapp2 {x y : Chunk} {r : List Nat} (h : GT c l Q Ls T r E (x :: y :: L)) : GT c l Q Ls T r E ([x, y] ++ L) := h
theorem tapp3 {x y z : Chunk} {r : List Nat} (h : GT c l Q Ls T r E (x :: y :: z :: L)) : GT c l Q Ls T r E ([x, y, z] ++ L) := h
theorem t_callE {Lr : List Chunk} {u : Value} {r : List Nat} (h : OpE c E L o (CallK Lr (fun v L' => v = u ∧ L' = []))) (hi : l[i]? = some o) (hg : gd l E o.guard = some true) (hd : dstOk c.n o.dst = true)
    (k : GT c l Q Ls T r (putE E o.dst u) Lr) : GT c l Q Ls T (i :: r) E L :=
  gt_e h hi hg hd fun v _ ⟨Lg, ⟨hv, hL'⟩, hL⟩ => by subst hL; subst hL'; subst hv; exact k
theorem t_call {Lr : List Chunk} {R : Value → List Chunk → Prop} {r : List Nat} (h : OpE c E L o (CallK Lr R)) (hi : l[i]? = some o) (hg : gd l E o.guard = some true) (hd : dstOk c.n o.dst = true)
    (k : ∀ v Lg, R v Lg → GT c l Q Ls T r (putE E o.dst v) (Lg ++ Lr)) : GT c l Q Ls T (i :: r) E L :=
  gt_e h hi hg hd fun v _ ⟨Lg, hR, hL⟩ => by subst hL; exact k v Lg hR
theorem e_of_q {v : Value} (h : OpQ c E L o v) : OpE c E L o (fun u L' => u = v ∧ L' = L) := fun a w ha hw => by
  rw [h a w ha hw]; exact ⟨L, ⟨rfl, rfl⟩, hw⟩
theorem x_qe {v : Value} (h : OpQ c E L o v) (hi : l[i]? = some o) (hg : gd l E o.guard = some true) (hd : dstOk c.n o.dst = true) (hsub : Ls.Sublist L)
    (k : GX c l Q Ls tl r (putE E o.dst v) L) : GX c l Q Ls tl ((i, false) :: r) E L :=
  gx_e (e_of_q h) hi hg hd fun _ _ ⟨hv, hL⟩ => by subst hv; subst hL; exact ⟨hsub, k⟩
theorem t_q {v : Value} {r : List Nat} (h : OpQ c E L o v) (hi : l[i]? = some o) (hg : gd l E o.guard = some true) (hd : dstOk c.n o.dst = true)
    (k : GT c l Q Ls T r (putE E o.dst v) L) : GT c l Q Ls T (i :: r) E L :=
  gt_e (e_of_q h) hi hg hd fun _ _ ⟨hv, hL⟩ => by subst hv; subst hL; exact k
end
end Go.LL
namespace Go.LL
section
variable {c : Cx} {Q : Post} {E : Env} {L Ls : List Chunk} {l rest : List Oper} {o : Oper} {r : List (Nat × Bool)} {tl : List Nat}
/-- parting on a Bool that was just reckoned -/
theorem bsp {k : Nat} {b : Bool} (h1 : b = true → GO c l Q rest ((k, .bool true) :: E) L) (h2 : b = false → GO c l Q rest ((k, .bool false) :: E) L) : GO c l Q rest ((k, .bool b) :: E) L := by
  cases b
  · exact h2 rfl
  · exact h1 rfl
theorem xsp {k : Nat} {b : Bool} (h1 : b = true → GX c l Q Ls tl r ((k, .bool true) :: E) L) (h2 : b = false → GX c l Q Ls tl r ((k, .bool false) :: E) L) : GX c l Q Ls tl r ((k, .bool b) :: E) L := by
  cases b
  · exact h2 rfl
  · exact h1 rfl
theorem tsp {k : Nat} {b : Bool} {T r : List Nat} (h1 : b = true → GT c l Q Ls T r ((k, .bool true) :: E) L) (h2 : b = false → GT c l Q Ls T r ((k, .bool false) :: E) L) : GT c l Q Ls T r ((k, .bool b) :: E) L := by
  cases b
  · exact h2 rfl
  · exact h1 rfl
/-- forgetting -/
theorem go_weak {E' : Env} {L' : List Chunk} (hE : sub E E') (hp : ∃ M, L.Perm M ∧ L'.Sublist M) (h : GO c l Q rest E' L') : GO c l Q rest E L := fun a w ha hw => by
  obtain ⟨M, h1, h2⟩ := hp
  exact h a w (ha.mono (sub_lk hE)) ((hw.perm h1).sub h2)
theorem gc_weak {E' : Env} {L' : List Chunk} {code : Code} (hE : sub E E') (hp : ∃ M, L.Perm M ∧ L'.Sublist M) (h : GC c Q code E' L') : GC c Q code E L := fun a w ha hw => by
  obtain ⟨M, h1, h2⟩ := hp
  exact h a w (ha.mono (sub_lk hE)) ((hw.perm h1).sub h2)
theorem aq_weak {E' : Env} {L' : List Chunk} {e : Exit} (hE : sub E E') (hp : ∃ M, L.Perm M ∧ L'.Sublist M) (h : AQ c Q e E' L') : AQ c Q e E L := fun a w ha hw => by
  obtain ⟨M, h1, h2⟩ := hp
  exact h a w (ha.mono (sub_lk hE)) ((hw.perm h1).sub h2)

/-- loops -/
def RoundQ (c : Cx) {A : Type} (I : A → Prop) (Ef : A → Env) (Lf : A → List Chunk) (μ : A → Nat) (x : A) : Act → World → Prop :=
  fun a w => ∃ y, I y ∧ μ y < μ x ∧ Agr c.n (Ef y) a ∧ St c (Lf y) w
theorem gc_loop {A : Type} (I : A → Prop) (Ef : A → Env) (Lf : A → List Chunk) (μ : A → Nat) (x : A) {body : Code} (hx : I x) (hE : sub E (Ef x)) (hp : ∃ M, L.Perm M ∧ (Lf x).Sublist M)
    (h : ∀ x, I x → GC c (Exit.then (RoundQ c I Ef Lf μ x) Q) body (Ef x) (Lf x)) : GC c Q (.loop body) E L := fun a w ha hw => by
  obtain ⟨M, h1, h2⟩ := hp
  refine wp_loop_ghost (fun n a w => ∃ x, I x ∧ μ x = n ∧ Agr c.n (Ef x) a ∧ St c (Lf x) w) (μ x) ⟨x, hx, rfl, ha.mono (sub_lk hE), (hw.perm h1).sub h2⟩ ?_
  rintro n a w ⟨y, hy, rfl, ha, hw⟩
  refine wp_mono (h y hy a w ha hw) fun e a' w' q => ?_
  cases e with
  | normal => obtain ⟨z, hz, hlt, ha', hw'⟩ := q; exact ⟨μ z, hlt, z, hz, rfl, ha', hw'⟩
  | exit id => exact q
  | goto l => exact q
  | ret => exact q
  | panic ch => exact q
  | outgrown => exact q
theorem aq_round {A : Type} {I : A → Prop} {Ef : A → Env} {Lf : A → List Chunk} {μ : A → Nat} {x : A} (y : A) (hy : I y) (hμ : μ y < μ x) (hE : sub E (Ef y)) (hp : ∃ M, L.Perm M ∧ (Lf y).Sublist M) :
    AQ c (Exit.then (RoundQ c I Ef Lf μ x) Q) .normal E L := fun a w ha hw => by
  obtain ⟨M, h1, h2⟩ := hp
  exact ⟨y, hy, hμ, ha.mono (sub_lk hE), (hw.perm h1).sub h2⟩
end
end Go.LL
namespace Go.LL
theorem wrap64_id {n : Int} (h : -9223372036854775808 ≤ n ∧ n ≤ 9223372036854775807) : IntKind.i64.wrap n = n := by
  rw [IntKind.wrap_i64]; omega
theorem wrapU_id {n : Int} (h : 0 ≤ n ∧ n ≤ 18446744073709551615) : IntKind.u64.wrap n = n := by
  have h2 : (2 : Int) ^ IntKind.u64.bits = 18446744073709551616 := rfl
  unfold IntKind.wrap
  simp only [h2, IntKind.signed, Bool.false_and, Bool.false_eq_true, if_false]
  omega

section
variable {c : Cx} {E : Env} {L : List Chunk} {x y z : Operand} {d : Option Nat} {t : TypeId} {p : String} {af : Array Edge} {g : Option (Nat × Bool)} {v : Value} {k k' : IntKind} {m n o : Int} {s s' : TypeId}

/-- the same with a wrap that does nothing -/
theorem q_addi (hx : lkO E x = some (.int .i64 m)) (hy : lkO E y = some (.int .i64 n)) (h : -9223372036854775808 ≤ m + n ∧ m + n ≤ 9223372036854775807) : OpQ c E L ⟨d, .binOp .add s x y s', t, p, af, g⟩ (.int .i64 (m + n)) := by
  have := q_add (c := c) (L := L) (d := d) (t := t) (p := p) (af := af) (g := g) (s := s) (s' := s') hx hy
  rwa [wrap64_id h] at this
theorem q_subi (hx : lkO E x = some (.int .i64 m)) (hy : lkO E y = some (.int .i64 n)) (h : -9223372036854775808 ≤ m - n ∧ m - n ≤ 9223372036854775807) : OpQ c E L ⟨d, .binOp .sub s x y s', t, p, af, g⟩ (.int .i64 (m - n)) := by
  have := q_sub (c := c) (L := L) (d := d) (t := t) (p := p) (af := af) (g := g) (s := s) (s' := s') hx hy
  rwa [wrap64_id h] at this
theorem q_neg (hx : lkO E x = some (.int k m)) : OpQ c E L ⟨d, .unOp .neg s x, t, p, af, g⟩ (.int k (k.wrap (0 - m))) := fun a w ha _ => by
  simp only [execOp, ha.ev hx]; simp [Op.unary, Op.intArith]
theorem q_quo (hx : lkO E x = some (.int k m)) (hy : lkO E y = some (.int k n)) (h : n ≠ 0) : OpQ c E L ⟨d, .binOp .quo s x y s', t, p, af, g⟩ (.int k (k.wrap (m.tdiv n))) := fun a w ha _ => by
  simp only [execOp, ha.ev hx, ha.ev hy]; simp [eqGuard, binOp, Op.intDiv, h]
theorem q_rem (hx : lkO E x = some (.int k m)) (hy : lkO E y = some (.int k n)) (h : n ≠ 0) : OpQ c E L ⟨d, .binOp .rem s x y s', t, p, af, g⟩ (.int k (m.tmod n)) := fun a w ha _ => by
  simp only [execOp, ha.ev hx, ha.ev hy]; simp [eqGuard, binOp, Op.intDiv, h]
theorem q_shr (hx : lkO E x = some (.int k m)) (hy : lkO E y = some (.int k' n)) (h : 0 ≤ n) : OpQ c E L ⟨d, .binOp .shr s x y s', t, p, af, g⟩ (.int k (m.fdiv (2 ^ (min n.toNat k.bits)))) := fun a w ha _ => by
  simp only [execOp, ha.ev hx, ha.ev hy]; simp [eqGuard, binOp, Op.shift, show ¬ n < 0 by omega]
theorem q_shl (hx : lkO E x = some (.int k m)) (hy : lkO E y = some (.int k' n)) (h : 0 ≤ n) : OpQ c E L ⟨d, .binOp .shl s x y s', t, p, af, g⟩ (.int k (k.wrap (m * 2 ^ (min n.toNat k.bits)))) := fun a w ha _ => by
  simp only [execOp, ha.ev hx, ha.ev hy]; simp [eqGuard, binOp, Op.shift, show ¬ n < 0 by omega]
theorem ofIntU {m : Int} (hm : 0 ≤ m ∧ m ≤ 18446744073709551615) : (BitVec.ofInt 64 m).toNat = m.toNat := by
  rw [BitVec.toNat_ofInt]
  have : (2 : Nat) ^ 64 = 18446744073709551616 := rfl
  rw [this]
  omega
theorem q_and (hx : lkO E x = some (.int .u64 m)) (hy : lkO E y = some (.int .u64 n)) (h : (0 ≤ m ∧ m ≤ 18446744073709551615) ∧ 0 ≤ n ∧ n ≤ 18446744073709551615) :
    OpQ c E L ⟨d, .binOp .and s x y s', t, p, af, g⟩ (.int .u64 ((m.toNat &&& n.toNat : Nat) : Int)) := fun a w ha _ => by
  have hle : m.toNat &&& n.toNat ≤ m.toNat := Nat.and_le_left
  have hb : (BitVec.ofInt IntKind.u64.bits m &&& BitVec.ofInt IntKind.u64.bits n).toNat = m.toNat &&& n.toNat := by
    rw [BitVec.toNat_and]; exact congr (congrArg _ (ofIntU h.1)) (ofIntU h.2)
  simp only [execOp, ha.ev hx, ha.ev hy]
  simp only [eqGuard, binOp, Op.intBits, ne_eq, not_true_eq_false, if_false, hb]
  rw [wrapU_id (by omega)]
  rfl
theorem q_or (hx : lkO E x = some (.int .u64 m)) (hy : lkO E y = some (.int .u64 n)) (h : (0 ≤ m ∧ m ≤ 18446744073709551615) ∧ 0 ≤ n ∧ n ≤ 18446744073709551615) :
    OpQ c E L ⟨d, .binOp .or s x y s', t, p, af, g⟩ (.int .u64 ((m.toNat ||| n.toNat : Nat) : Int)) := fun a w ha _ => by
  have hle : m.toNat ||| n.toNat < 2 ^ 64 := Nat.or_lt_two_pow (by omega) (by omega)
  have hb : (BitVec.ofInt IntKind.u64.bits m ||| BitVec.ofInt IntKind.u64.bits n).toNat = m.toNat ||| n.toNat := by
    rw [BitVec.toNat_or]; exact congr (congrArg _ (ofIntU h.1)) (ofIntU h.2)
  simp only [execOp, ha.ev hx, ha.ev hy]
  simp only [eqGuard, binOp, Op.intBits, ne_eq, not_true_eq_false, if_false, hb]
  rw [wrapU_id (by have : (2 : Nat) ^ 64 = 18446744073709551616 := rfl; omega)]
  rfl
theorem q_andNot (hx : lkO E x = some (.int .u64 m)) (hy : lkO E y = some (.int .u64 n)) (h : (0 ≤ m ∧ m ≤ 18446744073709551615) ∧ 0 ≤ n ∧ n ≤ 18446744073709551615) :
    OpQ c E L ⟨d, .binOp .andNot s x y s', t, p, af, g⟩ (.int .u64 ((m.toNat ^^^ (m.toNat &&& n.toNat) : Nat) : Int)) := fun a w ha _ => by
  have hle : m.toNat ^^^ (m.toNat &&& n.toNat) < 2 ^ 64 := Nat.xor_lt_two_pow (by omega) (Nat.lt_of_le_of_lt Nat.and_le_left (by omega))
  have hb : (BitVec.ofInt IntKind.u64.bits m &&& ~~~ BitVec.ofInt IntKind.u64.bits n).toNat = m.toNat ^^^ (m.toNat &&& n.toNat) := by
    have e1 : ∀ (a b : BitVec 64), (a &&& ~~~ b) = a ^^^ (a &&& b) := by
      intro a b
      apply BitVec.eq_of_getLsbD_eq
      intro i hi
      simp only [BitVec.getLsbD_and, BitVec.getLsbD_not, BitVec.getLsbD_xor, hi, decide_true, Bool.true_and]
      cases a.getLsbD i <;> cases b.getLsbD i <;> rfl
    show (BitVec.ofInt 64 m &&& ~~~ BitVec.ofInt 64 n).toNat = _
    rw [e1, BitVec.toNat_xor, BitVec.toNat_and, ofIntU h.1, ofIntU h.2]
  simp only [execOp, ha.ev hx, ha.ev hy]
  simp only [eqGuard, binOp, Op.intBits, ne_eq, not_true_eq_false, if_false, hb]
  rw [wrapU_id (by have : (2 : Nat) ^ 64 = 18446744073709551616 := rfl; omega)]
  rfl
theorem q_conv (hu : ∀ w, (underlying s).run c.P w = .ok (.int k') w) (hv : ∀ w, (underlying s').run c.P w = .ok (.int k) w) (hx : lkO E x = some (.int k' m)) :
    OpQ c E L ⟨d, .convert s s' x, t, p, af, g⟩ (.int k (k.wrap m)) := fun a w ha _ => by
  simp only [execOp, ha.ev hx]; simp [convert, hu, hv, Conv.intToInt]
theorem q_lenS {a' : Option Addr} {ln cp : Nat} {e : TypeId} (hu : ∀ w, (underlying s).run c.P w = .ok (.slice e) w) (hx : lkO E x = some (.slice a' ln cp)) :
    OpQ c E L ⟨d, .call { callee := .builtin .len, args := #[x], argTypes := #[s] }, t, p, af, g⟩ (.int .i64 (ln : Int)) := fun a w ha _ => by
  simp only [execOp, resolve, invoke, List.map_toArray, List.map_cons, List.map_nil, ha.ev hx]
  simp [builtin, Builtin.len_, hu, goInt]
theorem q_max2 {ats : Array TypeId} (hx : lkO E x = some (.int k m)) (hy : lkO E y = some (.int k n)) :
    OpQ c E L ⟨d, .call { callee := .builtin .max, args := #[x, y], argTypes := ats }, t, p, af, g⟩ (.int k (max m n)) := fun a w ha _ => by
  simp only [execOp, resolve, invoke, List.map_toArray, List.map_cons, List.map_nil, ha.ev hx, ha.ev hy]
  simp [builtin, Builtin.max_, Builtin.max2, Int.max_def]
  split <;> split <;> first | rfl | omega
theorem q_max3 {ats : Array TypeId} (hx : lkO E x = some (.int k m)) (hy : lkO E y = some (.int k n)) (hz : lkO E z = some (.int k o)) :
    OpQ c E L ⟨d, .call { callee := .builtin .max, args := #[x, y, z], argTypes := ats }, t, p, af, g⟩ (.int k (max (max m n) o)) := fun a w ha _ => by
  simp only [execOp, resolve, invoke, List.map_toArray, List.map_cons, List.map_nil, ha.ev hx, ha.ev hy, ha.ev hz]
  have e : ∀ (a b : Int), (if a < b then b else a) = max a b := fun a b => by rw [Int.max_def]; split <;> split <;> omega
  simp [builtin, Builtin.max_, Builtin.max2, e]
theorem q_min2 {ats : Array TypeId} (hx : lkO E x = some (.int k m)) (hy : lkO E y = some (.int k n)) :
    OpQ c E L ⟨d, .call { callee := .builtin .min, args := #[x, y], argTypes := ats }, t, p, af, g⟩ (.int k (min m n)) := fun a w ha _ => by
  simp only [execOp, resolve, invoke, List.map_toArray, List.map_cons, List.map_nil, ha.ev hx, ha.ev hy]
  have e : ∀ (a b : Int), (if b < a then b else a) = min a b := fun a b => by rw [Int.min_def]; split <;> split <;> omega
  simp [builtin, Builtin.min_, Builtin.min2, e]
end
end Go.LL
