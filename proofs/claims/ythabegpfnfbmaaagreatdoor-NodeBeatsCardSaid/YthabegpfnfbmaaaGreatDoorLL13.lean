/- Part of a claim: contracts of the program's functions, walked op by op. -/
import Derived.Test.YthabegpfnfbmaaaGreatDoorLL12
set_option linter.unusedSimpArgs false
set_option linter.unusedVariables false
/- A place where ways meet again: what is known there, said once. -/
namespace Go.LL
def MidQ (c : Cx) {A : Type} (Ef : A → Env) (Lf : A → List Chunk) : Post := fun e a w => e = .normal ∧ ∃ x, Agr c.n (Ef x) a ∧ St c (Lf x) w
section
variable {c : Cx} {Q : Post} {E : Env} {L : List Chunk} {code : Code}
theorem gc_mid {A : Type} (Ef : A → Env) (Lf : A → List Chunk) (h1 : GC c (MidQ c Ef Lf) code E L) (h2 : ∀ x, AQ c Q .normal (Ef x) (Lf x)) : GC c Q code E L := fun a w ha hw =>
  Code.wp_mono (fun e a' w' q => by
    obtain ⟨rfl, x, h3, h4⟩ := q
    exact h2 x a' w' h3 h4) (h1 a w ha hw)
theorem aq_mid {A : Type} {Ef : A → Env} {Lf : A → List Chunk} (x : A) (hE : sub E (Ef x)) (hp : ∃ M, L.Perm M ∧ (Lf x).Sublist M) : AQ c (MidQ c Ef Lf) .normal E L := fun a w ha hw => by
  obtain ⟨M, h1, h2⟩ := hp
  exact ⟨rfl, x, ha.mono (sub_lk hE), (hw.perm h1).sub h2⟩
end
end Go.LL
