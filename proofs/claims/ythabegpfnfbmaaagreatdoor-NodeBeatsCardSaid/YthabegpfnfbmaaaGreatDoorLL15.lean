/- Part of a claim: contracts of the program's functions, walked op by op. -/
import Derived.Test.YthabegpfnfbmaaaGreatDoorLL14
set_option linter.unusedSimpArgs false
set_option linter.unusedVariables false
/- Longer lists handed back: (x :: A) ++ L as x :: (A ++ L); two segments. -/
namespace Go.LL
instance (priority := 600) Seg.none {e : Nat} {L RO : List Chunk} : Seg (Sli.L e Sli.none) L RO := ⟨by simp [Sli.L]⟩
section
variable {c : Cx} {Q : Post} {E : Env} {L Ls A : List Chunk} {x : Chunk}
theorem appc {l rest : List Oper} (h : GO c l Q rest E (x :: (A ++ L))) : GO c l Q rest E ((x :: A) ++ L) := h
theorem xappc {l : List Oper} {tl : List Nat} {r : List (Nat × Bool)} (h : GX c l Q Ls tl r E (x :: (A ++ L))) : GX c l Q Ls tl r E ((x :: A) ++ L) := h
theorem tappc {l : List Oper} {T r : List Nat} (h : GT c l Q Ls T r E (x :: (A ++ L))) : GT c l Q Ls T r E ((x :: A) ++ L) := h
theorem yappc {l : List Oper} {f : Nat} {listed : Array Bool} (h : GY c l Q Ls f listed E (x :: (A ++ L))) : GY c l Q Ls f listed E ((x :: A) ++ L) := h
theorem appn {l rest : List Oper} (h : GO c l Q rest E L) : GO c l Q rest E ([] ++ L) := h
theorem appa {B : List Chunk} {l rest : List Oper} (h : GO c l Q rest E (A ++ (B ++ L))) : GO c l Q rest E ((A ++ B) ++ L) := by rw [List.append_assoc]; exact h
end
section
variable {c : Cx} {E : Env} {L : List Chunk} {x y : Operand} {d : Option Nat} {s s' t : TypeId} {p : String} {af : Array Edge} {g : Option (Nat × Bool)} {a b : Bool}
theorem q_eqlB (hx : lkO E x = some (.bool a)) (hy : lkO E y = some (.bool b)) (hu : c.P.underlying s = some .bool) : OpQ c E L ⟨d, .binOp .eql s x y s', t, p, af, g⟩ (.bool (a == b)) := q_cmp hx hy (fun _ => rfl) fun w => run_eql_bool w s a b hu
theorem q_neqB (hx : lkO E x = some (.bool a)) (hy : lkO E y = some (.bool b)) (hu : c.P.underlying s = some .bool) : OpQ c E L ⟨d, .binOp .neq s x y s', t, p, af, g⟩ (.bool (!(a == b))) := q_cmp hx hy (fun _ => rfl) fun w => run_neq_bool w s a b hu
end
section
variable {c : Cx} {Q : Post} {E : Env} {L Ls A B : List Chunk}
theorem app4 {x0 x1 x2 x3 : Chunk} {l rest : List Oper} (h : GO c l Q rest E (x0 :: x1 :: x2 :: x3 :: L)) : GO c l Q rest E ([x0, x1, x2, x3] ++ L) := h
theorem tapp4 {x0 x1 x2 x3 : Chunk} {l : List Oper} {T r : List Nat} (h : GT c l Q Ls T r E (x0 :: x1 :: x2 :: x3 :: L)) : GT c l Q Ls T r E ([x0, x1, x2, x3] ++ L) := h
theorem app5 {x0 x1 x2 x3 x4 : Chunk} {l rest : List Oper} (h : GO c l Q rest E (x0 :: x1 :: x2 :: x3 :: x4 :: L)) : GO c l Q rest E ([x0, x1, x2, x3, x4] ++ L) := h
theorem tapp5 {x0 x1 x2 x3 x4 : Chunk} {l : List Oper} {T r : List Nat} (h : GT c l Q Ls T r E (x0 :: x1 :: x2 :: x3 :: x4 :: L)) : GT c l Q Ls T r E ([x0, x1, x2, x3, x4] ++ L) := h
theorem app6 {x0 x1 x2 x3 x4 x5 : Chunk} {l rest : List Oper} (h : GO c l Q rest E (x0 :: x1 :: x2 :: x3 :: x4 :: x5 :: L)) : GO c l Q rest E ([x0, x1, x2, x3, x4, x5] ++ L) := h
theorem tapp6 {x0 x1 x2 x3 x4 x5 : Chunk} {l : List Oper} {T r : List Nat} (h : GT c l Q Ls T r E (x0 :: x1 :: x2 :: x3 :: x4 :: x5 :: L)) : GT c l Q Ls T r E ([x0, x1, x2, x3, x4, x5] ++ L) := h
theorem app7 {x0 x1 x2 x3 x4 x5 x6 : Chunk} {l rest : List Oper} (h : GO c l Q rest E (x0 :: x1 :: x2 :: x3 :: x4 :: x5 :: x6 :: L)) : GO c l Q rest E ([x0, x1, x2, x3, x4, x5, x6] ++ L) := h
theorem tapp7 {x0 x1 x2 x3 x4 x5 x6 : Chunk} {l : List Oper} {T r : List Nat} (h : GT c l Q Ls T r E (x0 :: x1 :: x2 :: x3 :: x4 :: x5 :: x6 :: L)) : GT c l Q Ls T r E ([x0, x1, x2, x3, x4, x5, x6] ++ L) := h
theorem app8 {x0 x1 x2 x3 x4 x5 x6 x7 : Chunk} {l rest : List Oper} (h : GO c l Q rest E (x0 :: x1 :: x2 :: x3 :: x4 :: x5 :: x6 :: x7 :: L)) : GO c l Q rest E ([x0, x1, x2, x3, x4, x5, x6, x7] ++ L) := h
theorem tapp8 {x0 x1 x2 x3 x4 x5 x6 x7 : Chunk} {l : List Oper} {T r : List Nat} (h : GT c l Q Ls T r E (x0 :: x1 :: x2 :: x3 :: x4 :: x5 :: x6 :: x7 :: L)) : GT c l Q Ls T r E ([x0, x1, x2, x3, x4, x5, x6, x7] ++ L) := h
theorem app9 {x0 x1 x2 x3 x4 x5 x6 x7 x8 : Chunk} {l rest : List Oper} (h : GO c l Q rest E (x0 :: x1 :: x2 :: x3 :: x4 :: x5 :: x6 :: x7 :: x8 :: L)) : GO c l Q rest E ([x0, x1, x2, x3, x4, x5, x6, x7, x8] ++ L) := h
theorem tapp9 {x0 x1 x2 x3 x4 x5 x6 x7 x8 : Chunk} {l : List Oper} {T r : List Nat} (h : GT c l Q Ls T r E (x0 :: x1 :: x2 :: x3 :: x4 :: x5 :: x6 :: x7 :: x8 :: L)) : GT c l Q Ls T r E ([x0, x1, x2, x3, x4, x5, x6, x7, x8] ++ L) := h
theorem app10 {x0 x1 x2 x3 x4 x5 x6 x7 x8 x9 : Chunk} {l rest : List Oper} (h : GO c l Q rest E (x0 :: x1 :: x2 :: x3 :: x4 :: x5 :: x6 :: x7 :: x8 :: x9 :: L)) : GO c l Q rest E ([x0, x1, x2, x3, x4, x5, x6, x7, x8, x9] ++ L) := h
theorem tapp10 {x0 x1 x2 x3 x4 x5 x6 x7 x8 x9 : Chunk} {l : List Oper} {T r : List Nat} (h : GT c l Q Ls T r E (x0 :: x1 :: x2 :: x3 :: x4 :: x5 :: x6 :: x7 :: x8 :: x9 :: L)) : GT c l Q Ls T r E ([x0, x1, x2, x3, x4, x5, x6, x7, x8, x9] ++ L) := h
theorem app11 {x0 x1 x2 x3 x4 x5 x6 x7 x8 x9 x10 : Chunk} {l rest : List Oper} (h : GO c l Q rest E (x0 :: x1 :: x2 :: x3 :: x4 :: x5 :: x6 :: x7 :: x8 :: x9 :: x10 :: L)) : GO c l Q rest E ([x0, x1, x2, x3, x4, x5, x6, x7, x8, x9, x10] ++ L) := h
theorem tapp11 {x0 x1 x2 x3 x4 x5 x6 x7 x8 x9 x10 : Chunk} {l : List Oper} {T r : List Nat} (h : GT c l Q Ls T r E (x0 :: x1 :: x2 :: x3 :: x4 :: x5 :: x6 :: x7 :: x8 :: x9 :: x10 :: L)) : GT c l Q Ls T r E ([x0, x1, x2, x3, x4, x5, x6, x7, x8, x9, x10] ++ L) := h
theorem app12 {x0 x1 x2 x3 x4 x5 x6 x7 x8 x9 x10 x11 : Chunk} {l rest : List Oper} (h : GO c l Q rest E (x0 :: x1 :: x2 :: x3 :: x4 :: x5 :: x6 :: x7 :: x8 :: x9 :: x10 :: x11 :: L)) : GO c l Q rest E ([x0, x1, x2, x3, x4, x5, x6, x7, x8, x9, x10, x11] ++ L) := h
theorem tapp12 {x0 x1 x2 x3 x4 x5 x6 x7 x8 x9 x10 x11 : Chunk} {l : List Oper} {T r : List Nat} (h : GT c l Q Ls T r E (x0 :: x1 :: x2 :: x3 :: x4 :: x5 :: x6 :: x7 :: x8 :: x9 :: x10 :: x11 :: L)) : GT c l Q Ls T r E ([x0, x1, x2, x3, x4, x5, x6, x7, x8, x9, x10, x11] ++ L) := h
theorem app1s {x0 : Chunk} {l rest : List Oper} (h : GO c l Q rest E (x0 :: (A ++ (B ++ L)))) : GO c l Q rest E ((x0 :: (A ++ B)) ++ L) := by rw [← List.append_assoc] at h; exact h
theorem app1t {x0 : Chunk} {l rest : List Oper} (h : GO c l Q rest E (x0 :: (A ++ L))) : GO c l Q rest E ((x0 :: A) ++ L) := h
theorem app2s {x0 x1 : Chunk} {l rest : List Oper} (h : GO c l Q rest E (x0 :: x1 :: (A ++ (B ++ L)))) : GO c l Q rest E ((x0 :: x1 :: (A ++ B)) ++ L) := by rw [← List.append_assoc] at h; exact h
theorem app2t {x0 x1 : Chunk} {l rest : List Oper} (h : GO c l Q rest E (x0 :: x1 :: (A ++ L))) : GO c l Q rest E ((x0 :: x1 :: A) ++ L) := h
theorem app3s {x0 x1 x2 : Chunk} {l rest : List Oper} (h : GO c l Q rest E (x0 :: x1 :: x2 :: (A ++ (B ++ L)))) : GO c l Q rest E ((x0 :: x1 :: x2 :: (A ++ B)) ++ L) := by rw [← List.append_assoc] at h; exact h
theorem app3t {x0 x1 x2 : Chunk} {l rest : List Oper} (h : GO c l Q rest E (x0 :: x1 :: x2 :: (A ++ L))) : GO c l Q rest E ((x0 :: x1 :: x2 :: A) ++ L) := h
end
/-- two segments handed back -/
theorem rsZ {R : Value → List Chunk → Prop} {v : Value} {L A B L1 L2 Lm Lr : List Chunk} (bs : List Nat) [hp : PickS A L L1] [hq : PickS B L1 L2] [hs : Sel bs L2 Lm Lr] (h : R v (Lm ++ (A ++ B))) : RS R v L :=
  ⟨Lm ++ (A ++ B), ⟨Lm ++ (A ++ B) ++ Lr, by
    refine hp.perm.trans ((hq.perm.append_left A).trans (((hs.perm.append_left B).append_left A).trans ?_))
    rw [show A ++ (B ++ (Lm ++ Lr)) = (A ++ B) ++ Lm ++ Lr by simp [List.append_assoc]]
    exact (List.perm_append_comm).append_right Lr, List.sublist_append_left _ _⟩, h⟩
end Go.LL
