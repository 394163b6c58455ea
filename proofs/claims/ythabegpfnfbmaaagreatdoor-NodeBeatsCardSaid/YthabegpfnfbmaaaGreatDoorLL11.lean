/- Part of a claim: contracts of the program's functions, walked op by op. -/
import Derived.Test.YthabegpfnfbmaaaGreatDoorLL10
import Derived.LoopN
set_option linter.unusedSimpArgs false
set_option linter.unusedVariables false
/- Loops unrolled; small numbers. -/
namespace Go.LL
def GR (c : Cx) (Q : Post) (body : Code) (n : Nat) (E : Env) (L : List Chunk) : Prop := ∀ a w, Agr c.n E a → St c L w → Code.rounds c.P body Q n a w
section
variable {c : Cx} {Q : Post} {E : Env} {L : List Chunk} {body : Code} {n : Nat}
theorem gc_unroll (n : Nat) (h : GR c Q body n E L) : GC c Q (.loop body) E L := fun a w ha hw => wp_loop_rounds n (h a w ha hw)
theorem gr_succ (h : GC c (Exit.then (Code.rounds c.P body Q n) Q) body E L) : GR c Q body (n + 1) E L := fun a w ha hw => by
  show Code.wp _ _ _ _ _
  exact h a w ha hw
theorem an_round (h : GR c Q body n E L) : AQ c (Exit.then (Code.rounds c.P body Q n) Q) .normal E L := fun a w ha hw => h a w ha hw
end
section
variable {c : Cx} {E : Env} {L : List Chunk} {x y z : Operand} {d : Option Nat} {t : TypeId} {p : String} {af : Array Edge} {g : Option (Nat × Bool)} {v : Value} {k k' : IntKind} {m n o : Int} {s s' : TypeId}
/-- a number of 8 bits, as an int -/
theorem q_convi (hu : ∀ w, (underlying s).run c.P w = .ok (.int k') w) (hv : ∀ w, (underlying s').run c.P w = .ok (.int .i64) w) (hx : lkO E x = some (.int k' m)) (h : -9223372036854775808 ≤ m ∧ m ≤ 9223372036854775807) :
    OpQ c E L ⟨d, .convert s s' x, t, p, af, g⟩ (.int .i64 m) := (q_conv hu hv hx).cast (by rw [wrap64_id h])
theorem q_shl8 (hx : lkO E x = some (.int .i64 m)) (hy : lkO E y = some (.int k' 8)) (h : 0 ≤ m ∧ m < 36028797018963968) : OpQ c E L ⟨d, .binOp .shl s x y s', t, p, af, g⟩ (.int .i64 (m * 256)) :=
  (q_shl hx hy (by omega)).cast (by
    have : (2 : Int) ^ (min (8 : Int).toNat IntKind.i64.bits) = 256 := by decide
    rw [this, wrap64_id (by omega)])
theorem q_or8 (hx : lkO E x = some (.int .i64 (m * 256))) (hy : lkO E y = some (.int .i64 n)) (h : (0 ≤ m ∧ m < 36028797018963968) ∧ 0 ≤ n ∧ n < 256) : OpQ c E L ⟨d, .binOp .or s x y s', t, p, af, g⟩ (.int .i64 (m * 256 + n)) := fun a w ha _ => by
  obtain ⟨⟨h1, h2⟩, h3, h4⟩ := h
  obtain ⟨M, rfl⟩ := Int.eq_ofNat_of_zero_le h1
  obtain ⟨N, rfl⟩ := Int.eq_ofNat_of_zero_le h3
  have hN : N < 2 ^ 8 := by omega
  have hb : (BitVec.ofInt IntKind.i64.bits ((M : Int) * 256) ||| BitVec.ofInt IntKind.i64.bits (N : Int)).toNat = M * 256 + N := by
    show (BitVec.ofInt 64 ((M : Int) * 256) ||| BitVec.ofInt 64 (N : Int)).toNat = M * 256 + N
    have e1 : BitVec.ofInt 64 ((M : Int) * 256) = BitVec.ofNat 64 (M * 256) := by
      apply BitVec.eq_of_toNat_eq
      rw [BitVec.toNat_ofInt, BitVec.toNat_ofNat]
      have : (2 : Nat) ^ 64 = 18446744073709551616 := rfl
      rw [this]; omega
    have e2 : BitVec.ofInt 64 (N : Int) = BitVec.ofNat 64 N := by
      apply BitVec.eq_of_toNat_eq
      rw [BitVec.toNat_ofInt, BitVec.toNat_ofNat]
      have : (2 : Nat) ^ 64 = 18446744073709551616 := rfl
      rw [this]; omega
    rw [e1, e2, BitVec.toNat_or, BitVec.toNat_ofNat, BitVec.toNat_ofNat]
    have : (2 : Nat) ^ 64 = 18446744073709551616 := rfl
    rw [this, Nat.mod_eq_of_lt (by omega), Nat.mod_eq_of_lt (by omega)]
    have := Nat.shiftLeft_add_eq_or_of_lt hN M
    rw [Nat.shiftLeft_eq] at this
    exact this.symm
  simp only [execOp, ha.ev hx, ha.ev hy]
  simp only [eqGuard, binOp, Op.intBits, ne_eq, not_true_eq_false, if_false, hb]
  show Result.ok (Next.value (.int .i64 (IntKind.i64.wrap ((M * 256 + N : Nat) : Int)))) w = _
  rw [wrap64_id (by omega)]
  congr 3
/-- a byte of a number -/
theorem q_byte (hu : ∀ w, (underlying s).run c.P w = .ok (.int k) w) (hv : ∀ w, (underlying s').run c.P w = .ok (.int .u8) w) (hx : lkO E x = some (.int k m)) :
    OpQ c E L ⟨d, .convert s s' x, t, p, af, g⟩ (.int .u8 (m % 256)) := (q_conv hu hv hx).cast (by
      have h2 : (2 : Int) ^ IntKind.u8.bits = 256 := rfl
      unfold IntKind.wrap
      simp only [h2, IntKind.signed, Bool.false_and, Bool.false_eq_true, if_false])
end
end Go.LL
