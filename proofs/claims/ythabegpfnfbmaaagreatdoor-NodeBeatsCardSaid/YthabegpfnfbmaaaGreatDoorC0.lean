/- Part of a claim: contracts of the program's functions, walked op by op. -/
import Derived.Test.YthabegpfnfbmaaaGreatDoorRows
import Derived.Test.YthabegpfnfbmaaaGreatDoorTie
import Derived.Test.YthabegpfnfbmaaaGreatDoorCards
import Derived.WalkKit
import Derived.ProofKit
import Derived.OpenShut
import Derived.LaidMore
import Derived.Stop.Joined
import Derived.Stop.LaidErr
import Derived.Lib.LaidTab
import Derived.SevenTiedAt
import Derived.Test.YthabegpfnfbmaaaGreatDoorA15
set_option linter.unusedSimpArgs false
set_option linter.unusedVariables false
/- What a start gives: the blocks of the variables that are listed; a law's contract turned to its row. -/
namespace Go.Proofs.YthabegpfnfbmaaaGreatDoor
open Go.ChangeShapes Go.WideShapes Go.ChangeAt Go.RowKit Go.LL

theorem own : ownKnob Tryz.prog.godebug = none := by kernel_rfl

theorem handed_shaped {H : Type} {enc : TypeId × Value → H} {a : Assume} {C : Checked} {os : Os} {f : FuncId} {fn : Func} {s : ChangeSpec} {conds : List PathCond} {apart fresh handsOn again : Bool} {X : World → Array Value → Prop}
    (hX : ∀ (w w' : World) (args : Array Value), w.heap = w'.heap → X w args → X w' args)
    (own : ownKnob C.prog.godebug = none) (started : os.Started) (noInit : C.prog.inits.idxOf? f = none) (hfn : C.prog.funcs[f]? = some fn)
    (witness : ∃ (w : World) (tape : Tape) (i : Input), w.os = os ∧ (w.forCall tape i).Shaped C.prog ∧ i.vars = [] ∧ Input.okWide C.prog (w.forCall tape i) .any w.heap.size f i ∧
      ((s.pre enc C.prog fn conds apart (w.forCall tape i).memory i.args ∧ X (w.forCall tape i).memory i.args) ∧ sizedMet enc C.prog fn (OpenSpec.ofChange s) apart (w.forCall tape i).memory i.args) ∧ a.holds C.prog (lone (Frame.enter C.prog f i.args .normal) [] (w.forCall tape i)))
    (contract : ∀ (W : World) (base : Nat) (args : Array Value) (ds gs : List (DataW H)) (before : List MemPlace),
      (∀ (j : Nat) t v, fn.params[j]? = some t → args[j]? = some v → Value.okWide C.prog W .any base t v) →
      DataW.Whole enc C.prog fn.params.toList s.vars apart W args.toList ds gs before →
      conds.all (PathCond.test C.prog ⟨fn.params.toList, ds, s.plain.varTypes C.prog, gs⟩) = true →
      (DataW.weightsEach C.prog (fn.params.toList ++ s.plain.varTypes C.prog) (ds ++ gs)).all (· ≤ reachBytes) = true → X W args → W.ShapedOpen C.prog →
      Calls C.prog f args W fun e W' => ∃ v, e = .returned v ∧ s.post enc C.prog fn apart fresh handsOn again W args v W') :
    ReturnsInHanded a C os f .any (fun w args => (s.pre enc C.prog fn conds apart w args ∧ X w args) ∧ sizedMet enc C.prog fn (OpenSpec.ofChange s) apart w args) (s.post enc C.prog fn apart fresh handsOn again) := by
  refine returnsInHanded_of_calls own started noInit witness ?_
  intro w tape i _ hsh _ hok hpre hholds
  obtain ⟨_, _, _, fn', hfn', _, _, _, _, hval⟩ := hok
  have e : fn' = fn := Option.some.inj (hfn'.symm.trans hfn)
  subst e
  obtain ⟨⟨⟨ds, gs, before, hw, hc⟩, hx⟩, hz⟩ := hpre
  have hw' := DataW.Whole.of_heap (w' := w.forCall tape i) (by rfl) hw
  refine (contract (w.forCall tape i) w.heap.size i.args ds gs before hval hw' hc (hz.weights hw) (hX _ _ _ (by rfl) hx) hsh).mono fun e W' ⟨v, he, hp⟩ => ?_
  subst he
  exact ChangeSpec.post_blind hp

/-- the block of a variable -/
theorem glob_block {P : Program} {W : World} (h : W.ShapedOpen P) {n : String} {g t : Nat} {zero cs : Array Value} (hg : P.globalNamed n = some g) (hlt : g < P.globals.size)
    (h0 : (((begin P (fun _ _ => 0) default).world.heap)[g]?).bind Obj.row? = some (zero, t)) (hv : W.var? P n = some cs) : W.heap[g]? = some (.cells cs t (0, 0)) := by
  obtain ⟨ds, h1, _⟩ := h.1 g zero t hlt h0
  have : W.var? P n = some ds := by simp [World.var?, hg, h1]
  rw [hv] at this
  rw [h1, Option.some.inj this]
theorem star : "*" ++ "errors.errorString" = "*errors.errorString" := by decide
theorem rowE (u : TypeId) (h : Tryz.prog.typeName? 3 u = some "*errors.errorString") : u = 434 :=
  typeName_ptr_named (nm := "errors.errorString") (by rw [star]; kernel_rfl) (by kernel_rfl) (by decide) u (by rw [star]; exact h)
theorem cells451 : Tryz.prog.cellsOf 451 = 1 := by kernel_rfl
theorem cells9 : Tryz.prog.cellsOf 9 = 1 := by kernel_rfl
/-- a sentinel's block -/
theorem err_block {W : World} (hS : W.ShapedOpen Tryz.prog) {n : String} {text : List UInt8} {r : List (String × DataW Unit)} {g : Nat} {zero : Array Value} (h : laidMet Tryz.prog ((n, .iface "*errors.errorString" (.ptr (.agg [.lit (.string text)]))) :: r) W)
    (hg : Tryz.prog.globalNamed n = some g) (hlt : g < Tryz.prog.globals.size) (ht : (Tryz.prog.globals[g]?).map (·.type) = some 47) (h0 : (((begin Tryz.prog (fun _ _ => 0) default).world.heap)[g]?).bind Obj.row? = some (zero, 47)) :
    ∃ v, W.heap[g]? = some (.cells #[errV (some (434, v))] 47 (0, 0)) := by
  obtain ⟨a, s, hv, _⟩ := laid_sentinel h hg ht Tryz.underlying47 rowE Tryz.underlying434 Tryz.underlying451 rfl rfl Tryz.underlying9 cells451 cells9
  exact ⟨_, glob_block hS hg hlt h0 hv⟩
end Go.Proofs.YthabegpfnfbmaaaGreatDoor
