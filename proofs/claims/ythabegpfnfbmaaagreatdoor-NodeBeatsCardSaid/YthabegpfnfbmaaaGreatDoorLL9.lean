/- Part of a claim: contracts of the program's functions, walked op by op. -/
import Derived.Test.YthabegpfnfbmaaaGreatDoorLL
import Derived.Laws.AppendOwn
import Derived.Laws.StructEq
import Derived.Laws.Cover3
import Derived.Laws.Pointers
import Derived.WideLaws
set_option linter.unusedSimpArgs false
set_option linter.unusedVariables false
/- More operations: numbers that wrap under a name, 64 bits, places by number, slices, comparisons, append. -/
namespace Go.LL
@[irreducible] def w64 (n : Int) : Int := IntKind.i64.wrap n
theorem w64_def (n : Int) : IntKind.i64.wrap n = w64 n := by unfold w64; rfl
theorem w64_id {n : Int} (h : -9223372036854775808 ≤ n ∧ n ≤ 9223372036854775807) : w64 n = n := by rw [← w64_def]; exact wrap64_id h
abbrev uv (b : BitVec 64) : Value := .int .u64 (b.toNat : Int)

section
variable {c : Cx} {E : Env} {L : List Chunk} {x y z : Operand} {d : Option Nat} {t : TypeId} {p : String} {af : Array Edge} {g : Option (Nat × Bool)} {v : Value} {k k' : IntKind} {m n o : Int} {s s' : TypeId}
theorem OpQ.cast {o : Oper} {v u : Value} (h : OpQ c E L o v) (e : v = u) : OpQ c E L o u := e ▸ h

theorem q_addw (hx : lkO E x = some (.int .i64 m)) (hy : lkO E y = some (.int .i64 n)) : OpQ c E L ⟨d, .binOp .add s x y s', t, p, af, g⟩ (.int .i64 (w64 (m + n))) := (q_add hx hy).cast (by rw [w64_def])
theorem q_subw (hx : lkO E x = some (.int .i64 m)) (hy : lkO E y = some (.int .i64 n)) : OpQ c E L ⟨d, .binOp .sub s x y s', t, p, af, g⟩ (.int .i64 (w64 (m - n))) := (q_sub hx hy).cast (by rw [w64_def])
theorem q_mulw (hx : lkO E x = some (.int .i64 m)) (hy : lkO E y = some (.int .i64 n)) : OpQ c E L ⟨d, .binOp .mul s x y s', t, p, af, g⟩ (.int .i64 (w64 (m * n))) := (q_mul hx hy).cast (by rw [w64_def])
theorem q_quow (hx : lkO E x = some (.int .i64 m)) (hy : lkO E y = some (.int .i64 n)) (h : n ≠ 0) : OpQ c E L ⟨d, .binOp .quo s x y s', t, p, af, g⟩ (.int .i64 (w64 (m.tdiv n))) := (q_quo hx hy h).cast (by rw [w64_def])
theorem q_negw (hx : lkO E x = some (.int .i64 m)) : OpQ c E L ⟨d, .unOp .neg s x, t, p, af, g⟩ (.int .i64 (w64 (0 - m))) := (q_neg hx).cast (by rw [w64_def])

/-! 64 bits -/
theorem ofU (a : BitVec 64) : BitVec.ofInt IntKind.u64.bits (a.toNat : Int) = a := by
  show BitVec.ofInt 64 (a.toNat : Int) = a
  simp
theorem wrapB (a : BitVec 64) : IntKind.u64.wrap (a.toNat : Int) = (a.toNat : Int) := wrapU_id (by have := a.isLt; omega)
theorem wrapNat (n : Nat) : IntKind.u64.wrap (n : Int) = ((BitVec.ofNat 64 n).toNat : Int) := by
  have h2 : (2 : Int) ^ IntKind.u64.bits = 18446744073709551616 := rfl
  unfold IntKind.wrap
  simp only [h2, IntKind.signed, Bool.false_and, Bool.false_eq_true, if_false, BitVec.toNat_ofNat]
  omega
theorem shr_aux (A m : Nat) (hl : A < 2 ^ 64) : ((A : Int) / 2 ^ (min m 64)) = ((A / 2 ^ m : Nat) : Int) := by
  have key : ∀ k : Nat, ((A : Int) / 2 ^ k) = ((A / 2 ^ k : Nat) : Int) := fun k => by rw [Int.natCast_ediv, Int.natCast_pow]; rfl
  by_cases hc : m ≤ 64
  · rw [Nat.min_eq_left hc]; exact key m
  · rw [Nat.min_eq_right (by omega), key, Nat.div_eq_of_lt hl, Nat.div_eq_of_lt (Nat.lt_of_lt_of_le hl (Nat.pow_le_pow_right (by omega) (by omega)))]
variable {a b : BitVec 64}
theorem q_andU (hx : lkO E x = some (uv a)) (hy : lkO E y = some (uv b)) : OpQ c E L ⟨d, .binOp .and s x y s', t, p, af, g⟩ (uv (a &&& b)) := fun ac w ha _ => by
  simp only [execOp, ha.ev hx, ha.ev hy]
  simp only [eqGuard, binOp, Op.intBits, ne_eq, not_true_eq_false, if_false, ofU]
  show _ = Result.ok (Next.value (.int .u64 ((a &&& b).toNat : Int))) w
  rw [← wrapB]; rfl
theorem q_orU (hx : lkO E x = some (uv a)) (hy : lkO E y = some (uv b)) : OpQ c E L ⟨d, .binOp .or s x y s', t, p, af, g⟩ (uv (a ||| b)) := fun ac w ha _ => by
  simp only [execOp, ha.ev hx, ha.ev hy]
  simp only [eqGuard, binOp, Op.intBits, ne_eq, not_true_eq_false, if_false, ofU]
  show _ = Result.ok (Next.value (.int .u64 ((a ||| b).toNat : Int))) w
  rw [← wrapB]; rfl
theorem q_andNotU (hx : lkO E x = some (uv a)) (hy : lkO E y = some (uv b)) : OpQ c E L ⟨d, .binOp .andNot s x y s', t, p, af, g⟩ (uv (a &&& ~~~b)) := fun ac w ha _ => by
  simp only [execOp, ha.ev hx, ha.ev hy]
  simp only [eqGuard, binOp, Op.intBits, ne_eq, not_true_eq_false, if_false, ofU]
  show _ = Result.ok (Next.value (.int .u64 ((a &&& ~~~b).toNat : Int))) w
  rw [← wrapB]; rfl
theorem q_shlU (hx : lkO E x = some (uv a)) (hy : lkO E y = some (.int k n)) (h : 0 ≤ n) : OpQ c E L ⟨d, .binOp .shl s x y s', t, p, af, g⟩ (uv (a <<< n.toNat)) :=
  (q_shl hx hy h).cast (by
    have e : (a.toNat : Int) * 2 ^ (min n.toNat IntKind.u64.bits) = ((a.toNat * 2 ^ (min n.toNat 64) : Nat) : Int) := by
      have : IntKind.u64.bits = 64 := rfl
      rw [this]; push_cast; rfl
    rw [e, wrapNat]
    have : BitVec.ofNat 64 (a.toNat * 2 ^ min n.toNat 64) = a <<< n.toNat := by
      apply BitVec.eq_of_toNat_eq
      rw [BitVec.toNat_ofNat, BitVec.toNat_shiftLeft, Nat.shiftLeft_eq]
      by_cases hc : n.toNat ≤ 64
      · rw [Nat.min_eq_left hc]
      · rw [Nat.min_eq_right (by omega)]
        have h1 : a.toNat * 2 ^ 64 % 2 ^ 64 = 0 := Nat.mul_mod_left _ _
        have h2 : a.toNat * 2 ^ n.toNat % 2 ^ 64 = 0 := by
          rw [show n.toNat = (n.toNat - 64) + 64 by omega, Nat.pow_add, ← Nat.mul_assoc]
          exact Nat.mul_mod_left _ _
        rw [h1, h2]
    rw [this])
theorem q_shrU (hx : lkO E x = some (uv a)) (hy : lkO E y = some (.int k n)) (h : 0 ≤ n) : OpQ c E L ⟨d, .binOp .shr s x y s', t, p, af, g⟩ (uv (a >>> n.toNat)) :=
  (q_shr hx hy h).cast (by
    have : (a.toNat : Int).fdiv (2 ^ (min n.toNat IntKind.u64.bits)) = ((a >>> n.toNat).toNat : Int) := by
      have hb : IntKind.u64.bits = 64 := rfl
      rw [hb]
      generalize hm : n.toNat = m
      rw [BitVec.toNat_ushiftRight, Nat.shiftRight_eq_div_pow]
      rw [Int.fdiv_eq_ediv_of_nonneg _ (Int.le_of_lt (Int.pow_pos (by omega)))]
      exact shr_aux _ _ a.isLt
    rw [this])
theorem q_subU (hx : lkO E x = some (uv a)) (hy : lkO E y = some (uv b)) : OpQ c E L ⟨d, .binOp .sub s x y s', t, p, af, g⟩ (uv (a - b)) :=
  (q_sub hx hy).cast (by
    have : IntKind.u64.wrap ((a.toNat : Int) - b.toNat) = ((a - b).toNat : Int) := by
      have h2 : (2 : Int) ^ IntKind.u64.bits = 18446744073709551616 := rfl
      have hp : (2 : Nat) ^ 64 = 18446744073709551616 := rfl
      unfold IntKind.wrap
      simp only [h2, IntKind.signed, Bool.false_and, Bool.false_eq_true, if_false, BitVec.toNat_sub, hp]
      have := a.isLt
      have := b.isLt
      omega
    rw [this])
theorem q_addU (hx : lkO E x = some (uv a)) (hy : lkO E y = some (uv b)) : OpQ c E L ⟨d, .binOp .add s x y s', t, p, af, g⟩ (uv (a + b)) :=
  (q_add hx hy).cast (by
    have : IntKind.u64.wrap ((a.toNat : Int) + b.toNat) = ((a + b).toNat : Int) := by
      have h2 : (2 : Int) ^ IntKind.u64.bits = 18446744073709551616 := rfl
      have hp : (2 : Nat) ^ 64 = 18446744073709551616 := rfl
      unfold IntKind.wrap
      simp only [h2, IntKind.signed, Bool.false_and, Bool.false_eq_true, if_false, BitVec.toNat_add, hp]
      have := a.isLt
      have := b.isLt
      omega
    rw [this])
theorem q_negU (hx : lkO E x = some (uv a)) : OpQ c E L ⟨d, .unOp .neg s x, t, p, af, g⟩ (uv (-a)) :=
  (q_neg hx).cast (by
    have : IntKind.u64.wrap (0 - (a.toNat : Int)) = ((-a).toNat : Int) := by
      have h2 : (2 : Int) ^ IntKind.u64.bits = 18446744073709551616 := rfl
      have hp : (2 : Nat) ^ 64 = 18446744073709551616 := rfl
      unfold IntKind.wrap
      simp only [h2, IntKind.signed, Bool.false_and, Bool.false_eq_true, if_false, BitVec.toNat_neg, hp]
      have := a.isLt
      omega
    rw [this])
theorem q_mulU (hx : lkO E x = some (uv a)) (hy : lkO E y = some (uv b)) : OpQ c E L ⟨d, .binOp .mul s x y s', t, p, af, g⟩ (uv (a * b)) :=
  (q_mul hx hy).cast (by
    have e : (a.toNat : Int) * b.toNat = ((a.toNat * b.toNat : Nat) : Int) := by rw [Int.natCast_mul]
    have e2 : BitVec.ofNat 64 (a.toNat * b.toNat) = a * b := by
      apply BitVec.eq_of_toNat_eq
      rw [BitVec.toNat_ofNat, BitVec.toNat_mul]
    rw [e, wrapNat, e2])
theorem uv_eq : ((a.toNat : Int) = (b.toNat : Int)) ↔ a = b := by
  constructor
  · intro h; exact BitVec.eq_of_toNat_eq (by omega)
  · rintro rfl; rfl
theorem q_eqlU (hx : lkO E x = some (uv a)) (hy : lkO E y = some (uv b)) : OpQ c E L ⟨d, .binOp .eql s x y s', t, p, af, g⟩ (.bool (decide (a = b))) := (q_eql hx hy).cast (by simp only [uv_eq])
theorem q_neqU (hx : lkO E x = some (uv a)) (hy : lkO E y = some (uv b)) : OpQ c E L ⟨d, .binOp .neq s x y s', t, p, af, g⟩ (.bool (decide (a ≠ b))) := (q_neq hx hy).cast (by simp only [ne_eq, uv_eq])

/-! places by number -/
theorem q_iaA {len e b off size : Nat} (hx : lkO E x = some (.pointer (some ⟨b, off, none⟩))) (hy : lkO E y = some (.int k n)) (hu : ∀ w, (underlying s).run c.P w = .ok (.array len e) w)
    (hs : ∀ w, (sizeOf e).run c.P w = .ok size w) (h : 0 ≤ n ∧ n < len) : OpQ c E L ⟨d, .indexAddr s x y, t, p, af, g⟩ (.pointer (some ⟨b, off + n.toNat * size, none⟩)) := fun a w ha _ => by
  simp only [execOp, ha.ev hx, ha.ev hy]
  simp [Instr.indexAt, asIntOf, Instr.sureAddr, hu, h.1, h.2, hs, Addr.add_off]
theorem q_iaS {e b off size ln cp : Nat} (hx : lkO E x = some (.slice (some ⟨b, off, none⟩) ln cp)) (hy : lkO E y = some (.int k n)) (hu : ∀ w, (underlying s).run c.P w = .ok (.slice e) w)
    (hs : ∀ w, (sizeOf e).run c.P w = .ok size w) (h : 0 ≤ n ∧ n < ln) : OpQ c E L ⟨d, .indexAddr s x y, t, p, af, g⟩ (.pointer (some ⟨b, off + n.toNat * size, none⟩)) := fun a w ha _ => by
  simp only [execOp, ha.ev hx, ha.ev hy]
  simp [Instr.indexAt, asIntOf, hu, h.1, h.2, hs, Addr.add_off]
/-- reading where the place is not a numeral -/
theorem q_ldN {s b off : Nat} {l : List Value} {ty : TypeId} {fr : Nat × Nat} (hx : lkO E x = some (.pointer (some ⟨b, off, none⟩))) [hm : InM b (.cells l.toArray ty fr) L c.RO]
    (hs : ∀ w, (isAgg s).run c.P w = .ok false w) (hv : nth l off = some v) : OpQ c E L ⟨d, .load s x, t, p, af, g⟩ v := q_ld hx hs hv
/-- an element of an array that is a value -/
theorem q_ixs {len e size : Nat} {cs : List Value} (hx : lkO E x = some (.agg cs.toArray)) (hy : lkO E y = some (.int k n)) (hu : ∀ w, (underlying s).run c.P w = .ok (.array len e) w)
    (ha : ∀ w, (isAgg e).run c.P w = .ok false w) (hs : ∀ w, (sizeOf e).run c.P w = .ok size w) (h : 0 ≤ n ∧ n < len) (hv : nth cs (n.toNat * size) = some v) : OpQ c E L ⟨d, .index s x y, t, p, af, g⟩ v := fun ac w hac _ => by
  simp only [execOp, hac.ev hx, hac.ev hy]
  rw [nth_get] at hv
  simp [Instr.index, asIntOf, hu, h.1, h.2, hs, part, ha, hv]
theorem extract_slc {cs vs : List Value} {off n : Nat} (hv : slc cs off n = some vs) : cs.toArray.extract off (off + n) = vs.toArray := by
  obtain ⟨h1, h2⟩ := slc_spec _ _ _ _ hv
  apply Array.ext_getElem?
  intro j
  rw [Array.getElem?_extract]
  simp only [List.size_toArray, List.getElem?_toArray]
  by_cases hj : j < n
  · have hvj : vs[j]? = some vs[j] := List.getElem?_eq_getElem (by omega)
    have hc := h2 j _ hvj
    have hlt : off + j < cs.length := by
      rcases Nat.lt_or_ge (off + j) cs.length with h | h
      · exact h
      · rw [List.getElem?_eq_none h] at hc; simp at hc
    rw [if_pos (by omega), hc, hvj]
  · rw [if_neg (by omega), List.getElem?_eq_none (by omega)]
theorem q_ixa {len e size : Nat} {cs vs : List Value} (hx : lkO E x = some (.agg cs.toArray)) (hy : lkO E y = some (.int k n)) (hu : ∀ w, (underlying s).run c.P w = .ok (.array len e) w)
    (ha : ∀ w, (isAgg e).run c.P w = .ok true w) (hs : ∀ w, (sizeOf e).run c.P w = .ok size w) (h : 0 ≤ n ∧ n < len) (hv : slc cs (n.toNat * size) size = some vs) : OpQ c E L ⟨d, .index s x y, t, p, af, g⟩ (.agg vs.toArray) := fun ac w hac _ => by
  simp only [execOp, hac.ev hx, hac.ev hy]
  have := extract_slc hv
  have this' : List.take size (List.drop (n.toNat * size) cs) = vs := by simpa using congrArg Array.toList this
  simp [Instr.index, asIntOf, hu, h.1, h.2, hs, part, ha, this']

/-! comparisons -/
theorem q_cmp {op : BinOp} {u r : Value} (hx : lkO E x = some u) (hy : lkO E y = some v) (hg : ∀ w, (eqGuard op s x y u v).run c.P w = .ok () w) (hb : ∀ w, (binOp op s u v).run c.P w = .ok r w) :
    OpQ c E L ⟨d, .binOp op s x y s', t, p, af, g⟩ r := fun a w ha _ => by
  simp only [execOp, ha.ev hx, ha.ev hy]
  simp only [Sem.run_bind, hg, hb, Result.andThen_ok, Sem.run_pure]
theorem run_eql_slice_nil' {P : Program} (w : World) (t e : TypeId) (a : Option Addr) (l c : Nat) (h : P.underlying t = some (.slice e)) : (binOp .eql t (.slice a l c) (.slice none 0 0)).run P w = .ok (.bool a.isNone) w := by
  simp only [binOp]
  simp [run_equal_slice_nil w t e a l c h]
theorem q_slnil_eql {e ln cp : Nat} {ad : Option Addr} (hx : lkO E x = some (.slice ad ln cp)) (hy : lkO E y = some (.slice none 0 0)) (hu : c.P.underlying s = some (.slice e)) :
    OpQ c E L ⟨d, .binOp .eql s x y s', t, p, af, g⟩ (.bool ad.isNone) := q_cmp hx hy (fun _ => rfl) fun w => run_eql_slice_nil' w s e _ _ _ hu
theorem q_slnil_neq {e ln cp : Nat} {ad : Option Addr} (hx : lkO E x = some (.slice ad ln cp)) (hy : lkO E y = some (.slice none 0 0)) (hu : c.P.underlying s = some (.slice e)) :
    OpQ c E L ⟨d, .binOp .neq s x y s', t, p, af, g⟩ (.bool (!ad.isNone)) := q_cmp hx hy (fun _ => rfl) fun w => run_neq_slice_nil w s e _ _ _ hu
theorem q_pnil_eql {ad : Option Addr} (hx : lkO E x = some (.pointer ad)) (hy : lkO E y = some (.pointer none)) (hu : c.P.underlying s = some (.pointer (c.P.pointee s))) :
    OpQ c E L ⟨d, .binOp .eql s x y s', t, p, af, g⟩ (.bool ad.isNone) := q_cmp hx hy (fun _ => rfl) fun w => run_eql_pointer_nil w s _ hu
theorem q_pnil_neq {ad : Option Addr} (hx : lkO E x = some (.pointer ad)) (hy : lkO E y = some (.pointer none)) (hu : c.P.underlying s = some (.pointer (c.P.pointee s))) :
    OpQ c E L ⟨d, .binOp .neq s x y s', t, p, af, g⟩ (.bool (!ad.isNone)) := q_cmp hx hy (fun _ => rfl) fun w => run_neq_pointer_nil w s _ hu
/-- an error: nil, or a value that is held -/
abbrev errV : Option (Nat × Value) → Value
  | none => .nilIface
  | some (t, v) => .iface t v
theorem run_eql_errV {P : Program} (w : World) (t : TypeId) (o : Option (Nat × Value)) (h : P.underlying t = some (.interface (P.methodsAt t))) : (binOp .eql t (errV o) .nilIface).run P w = .ok (.bool (!o.isSome)) w := by
  cases o with
  | none => exact run_eql_nil_nil w t h
  | some q => exact run_eql_held_nil w t q.1 q.2 h
theorem run_neq_errV {P : Program} (w : World) (t : TypeId) (o : Option (Nat × Value)) (h : P.underlying t = some (.interface (P.methodsAt t))) : (binOp .neq t (errV o) .nilIface).run P w = .ok (.bool o.isSome) w := by
  cases o with
  | none =>
    simp only [errV, binOp]
    simp [run_equal_nil_nil w t h]
  | some q =>
    simp only [errV, binOp]
    simp [run_equal_held_nil w t q.1 q.2 h]
theorem guard_errV {P : Program} {op : BinOp} {t : TypeId} {u : Value} {o : Option (Nat × Value)} (hop : op = .eql ∨ op = .neq) (w : World) : (eqGuard op t x (.const u) (errV o) .nilIface).run P w = .ok () w := by
  rcases hop with rfl | rfl <;> cases o <;> first | rfl | (simp [eqGuard])
theorem q_inil_eql {u : Value} {q : Option (Nat × Value)} (hx : lkO E x = some (errV q)) (hy : lkO E (.const u) = some .nilIface) (hu : c.P.underlying s = some (.interface (c.P.methodsAt s))) :
    OpQ c E L ⟨d, .binOp .eql s x (.const u) s', t, p, af, g⟩ (.bool (!q.isSome)) := q_cmp hx hy (guard_errV (.inl rfl)) fun w => run_eql_errV w s q hu
theorem q_inil_neq {u : Value} {q : Option (Nat × Value)} (hx : lkO E x = some (errV q)) (hy : lkO E (.const u) = some .nilIface) (hu : c.P.underlying s = some (.interface (c.P.methodsAt s))) :
    OpQ c E L ⟨d, .binOp .neq s x (.const u) s', t, p, af, g⟩ (.bool q.isSome) := q_cmp hx hy (guard_errV (.inr rfl)) fun w => run_neq_errV w s q hu
/-- structs: hE from the prelude -/
theorem q_seql {xs ys : List Value} {b : Bool} (hx : lkO E x = some (.agg xs.toArray)) (hy : lkO E y = some (.agg ys.toArray)) (hm : c.P.eqGuardType c.P.depth s = false)
    (hE : ∀ w, (Op.equalIn 10000 s (.agg xs.toArray) (.agg ys.toArray)).run c.P w = .ok b w) : OpQ c E L ⟨d, .binOp .eql s x y s', t, p, af, g⟩ (.bool b) :=
  q_cmp hx hy (fun w => run_eqGuard_agg w _ s x y _ _ hm) fun w => by rw [run_eql_struct, hE]; rfl
theorem q_sneq {xs ys : List Value} {b : Bool} (hx : lkO E x = some (.agg xs.toArray)) (hy : lkO E y = some (.agg ys.toArray)) (hm : c.P.eqGuardType c.P.depth s = false)
    (hE : ∀ w, (Op.equalIn 10000 s (.agg xs.toArray) (.agg ys.toArray)).run c.P w = .ok b w) : OpQ c E L ⟨d, .binOp .neq s x y s', t, p, af, g⟩ (.bool (!b)) :=
  q_cmp hx hy (fun w => run_eqGuard_agg w _ s x y _ _ hm) fun w => by rw [run_neq_struct, hE]; rfl
end
end Go.LL
