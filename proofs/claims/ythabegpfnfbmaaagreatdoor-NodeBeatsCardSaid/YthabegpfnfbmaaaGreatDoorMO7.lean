/- Part of a claim: contracts of the program's functions, walked op by op. -/
import Derived.Test.YthabegpfnfbmaaaGreatDoorMO6
set_option linter.unusedSimpArgs false
set_option linter.unusedVariables false
/- Contracts from the kit's words; function values. -/
namespace Go.LL
open Go.RowKit
theorem spec_below {P : Program} {f : FuncId} {args : List Value} {v : Value} {RO : List Chunk} (h : ∀ w, (∀ x ∈ RO, w.heap[x.1]? = some x.2) → Calls P f args.toArray w fun e w' => e = .returned v ∧ Below w.heap.size w w') : Spec P f args [] RO (fun u L => u = v ∧ L = []) := fun w _ hRO =>
  (h w fun x hx => (hRO x hx).1).mono fun _ w' ⟨he, hb⟩ => ⟨v, [], he, ⟨rfl, rfl⟩, ⟨by simp [bks], by simp⟩, ⟨hb.os, hb.tape, hb.output, hb.size, fun k hk _ => hb.block k hk⟩, by simp⟩
section
variable {c : Cx} {E : Env} {L : List Chunk} {x y z : Operand} {d : Option Nat} {t : TypeId} {p : String} {af : Array Edge} {g : Option (Nat × Bool)} {v : Value}
theorem q_mkf {fn : Fn} {as bs : List Operand} {us vs : List Value} (ha : lkA E as = some us) (hb : lkA E bs = some vs) : OpQ c E L ⟨d, .makeFunc fn as.toArray bs.toArray, t, p, af, g⟩ (.func fn us.toArray vs.toArray) := fun a w hac _ => by
  have h1 : as.toArray.map a.eval = us.toArray := by rw [List.map_toArray, lkA_eval hac _ _ ha]
  have h2 : bs.toArray.map a.eval = vs.toArray := by rw [List.map_toArray, lkA_eval hac _ _ hb]
  simp only [execOp, h1, h2, Instr.makeFunc]
  rfl
end
end Go.LL
