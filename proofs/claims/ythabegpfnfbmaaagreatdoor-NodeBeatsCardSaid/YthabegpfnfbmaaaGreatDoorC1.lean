/- Part of a claim: contracts of the program's functions, walked op by op. -/
import Derived.Test.YthabegpfnfbmaaaGreatDoorC0
import Derived.Test.YthabegpfnfbmaaaGreatDoorA24
set_option linter.unusedSimpArgs false
set_option linter.unusedVariables false
/- The variables that are listed, as blocks; NodeBeats: its row, its card. -/
namespace Go.Proofs.YthabegpfnfbmaaaGreatDoor
open Go.ChangeShapes Go.WideShapes Go.ChangeAt Go.RowKit Go.Lib Go.LL

set_option maxRecDepth 100000
abbrev laidA : List (String × DataW Unit) := [("math/bits.deBruijn64tab", Rows.laid_math_bits_deBruijn64tab), ("paternoster/api.ErrRange", Rows.laid_paternoster_api_ErrRange), ("paternoster/api.ErrMany", Rows.laid_paternoster_api_ErrMany), ("paternoster/api.ErrPower", Rows.laid_paternoster_api_ErrPower), ("paternoster/api.ErrNone", Rows.laid_paternoster_api_ErrNone), ("paternoster/api.ErrKind", Rows.laid_paternoster_api_ErrKind), ("paternoster/api.ErrOrder", Rows.laid_paternoster_api_ErrOrder), ("paternoster/api.ErrTwice", Rows.laid_paternoster_api_ErrTwice)]
theorem db_tab : (Rows.laid_math_bits_deBruijn64tab : DataW Unit) = tabData .u8 (dbTab.map fun (n : Nat) => (n : Int)) := rfl
theorem gDb : Tryz.prog.globalNamed "math/bits.deBruijn64tab" = some 13 := by kernel_rfl
theorem tDb : (Tryz.prog.globals[13]?).map (·.type) = some 432 := by kernel_rfl
theorem gRange : Tryz.prog.globalNamed "paternoster/api.ErrRange" = some 0 := by kernel_rfl
theorem gKind : Tryz.prog.globalNamed "paternoster/api.ErrKind" = some 1 := by kernel_rfl
theorem gMany : Tryz.prog.globalNamed "paternoster/api.ErrMany" = some 2 := by kernel_rfl
theorem gTwice : Tryz.prog.globalNamed "paternoster/api.ErrTwice" = some 3 := by kernel_rfl
theorem gOrder : Tryz.prog.globalNamed "paternoster/api.ErrOrder" = some 4 := by kernel_rfl
theorem gPower : Tryz.prog.globalNamed "paternoster/api.ErrPower" = some 5 := by kernel_rfl
theorem gNone : Tryz.prog.globalNamed "paternoster/api.ErrNone" = some 6 := by kernel_rfl
theorem gSize : Tryz.prog.globals.size = 14 := by kernel_rfl
noncomputable def rowAt (g : Nat) : Option (Array Value × Nat) := (((begin Tryz.prog (fun _ _ => 0) default).world.heap)[g]?).bind Obj.row?
theorem err_row (g : Nat) (h : g < 7) : rowAt g = some (#[.nilIface], 47) ∧ (Tryz.prog.globals[g]?).map (·.type) = some 47 := by
  rcases (by omega : g = 0 ∨ g = 1 ∨ g = 2 ∨ g = 3 ∨ g = 4 ∨ g = 5 ∨ g = 6) with rfl | rfl | rfl | rfl | rfl | rfl | rfl <;> exact ⟨by kernel_rfl, by kernel_rfl⟩
theorem db_row : (rowAt 13).map (·.2) = some 432 := by kernel_rfl
theorem cells3u8 : Tryz.prog.cellsOf 5 = 1 := by kernel_rfl
theorem cells432 : Tryz.prog.cellsOf 432 = 64 := by kernel_rfl

/-- what a start gives a contract -/
theorem ro_of {W : World} (hS : W.ShapedOpen Tryz.prog) (hL : laidMetH Tryz.prog laidA W) : ∃ ε : Nat → Nat × Value, ∀ x ∈ ro ε, W.heap[x.1]? = some x.2 := by
  rw [MakeChecks.laidMetH_plain _ _ _ (by kernel_rfl)] at hL
  have E : ∀ {n : String} {text : List UInt8} {r : List (String × DataW Unit)} {g : Nat}, laidMet Tryz.prog ((n, .iface "*errors.errorString" (.ptr (.agg [.lit (.string text)]))) :: r) W → Tryz.prog.globalNamed n = some g → g < 7 → ∃ v, W.heap[g]? = some (.cells #[errV (some (434, v))] 47 (0, 0)) := fun h hg hlt =>
    err_block hS h hg (by rw [gSize]; omega) (err_row _ hlt).2 (err_row _ hlt).1
  obtain ⟨v0, h0⟩ := E hL.tail gRange (by decide)
  obtain ⟨v2, h2⟩ := E hL.tail.tail gMany (by decide)
  obtain ⟨v5, h5⟩ := E hL.tail.tail.tail gPower (by decide)
  obtain ⟨v6, h6⟩ := E hL.tail.tail.tail.tail gNone (by decide)
  obtain ⟨v1, h1⟩ := E hL.tail.tail.tail.tail.tail gKind (by decide)
  obtain ⟨v4, h4⟩ := E hL.tail.tail.tail.tail.tail.tail gOrder (by decide)
  obtain ⟨v3, h3⟩ := E hL.tail.tail.tail.tail.tail.tail.tail gTwice (by decide)
  have hT : TabIs Tryz.prog W "math/bits.deBruijn64tab" .u8 (dbTab.map fun (n : Nat) => (n : Int)) := by
    rw [show laidA = ("math/bits.deBruijn64tab", tabData .u8 (dbTab.map fun (n : Nat) => (n : Int))) :: laidA.tail from rfl] at hL
    exact tabIs_of_head gDb tDb Tryz.underlying432 Tryz.underlying5 cells3u8 cells432 hL
  have h13 : W.heap[13]? = some (.cells dbCells.toArray 432 (0, 0)) := by
    obtain ⟨z, hz⟩ : ∃ z, rowAt 13 = some (z, 432) := by
      have := db_row
      cases h : rowAt 13 with
      | none => rw [h] at this; simp at this
      | some q => rw [h] at this; exact ⟨q.1, by simp at this; rw [← this]⟩
    have hc : (List.map (fun z => Value.int .u8 z) (dbTab.map fun (n : Nat) => (n : Int))).toArray = dbCells.toArray := by simp [dbCells]
    have hv : W.var? Tryz.prog "math/bits.deBruijn64tab" = some dbCells.toArray := by rw [← hc]; exact hT
    exact glob_block hS gDb (by rw [gSize]; decide) hz hv
  refine ⟨fun k => (434, match k with | 0 => v0 | 1 => v1 | 2 => v2 | 3 => v3 | 4 => v4 | 5 => v5 | _ => v6), ?_⟩
  intro x hx
  simp only [ro, List.mem_cons, List.not_mem_nil, or_false] at hx
  rcases hx with rfl | rfl | rfl | rfl | rfl | rfl | rfl | rfl
  · exact h13
  · exact h0
  · exact h4
  · exact h5
  · exact h6
  · exact h1
  · exact h2
  · exact h3
theorem door_met (os : Os) (args : Array Value) : laidMetH Tryz.prog laidA ((World.doorLaid Tryz.prog 261 os).forCall (fun _ _ => 0) ⟨#[], args, []⟩).memory :=
  laidMetH_of_parts3 (fuel := 8) (laidMet_of_run' 8 (by kernel_rfl) (by kernel_rfl)) (by kernel_rfl) (by kernel_rfl)
/-- a law's contract, in the words of its row -/
theorem spec_calls {P : Program} {f : FuncId} {args : List Value} {RO : List Chunk} {R : Value → List Chunk → Prop} (h : Go.LL.Spec P f args [] RO R) {W : World} (hR : ∀ x ∈ RO, W.heap[x.1]? = some x.2) :
    Calls P f args.toArray W fun e W' => (∃ v L', e = .returned v ∧ R v L') ∧ Below W.heap.size W W' :=
  (h W ⟨by simp [bks], by simp⟩ fun x hx => ⟨hR x hx, by simp [bks]⟩).mono fun e W' ⟨v, L', he, hv, _, hx, _⟩ => ⟨⟨v, L', he, hv⟩, ⟨hx.os, hx.tape, hx.output, hx.size, fun k hk => hx.block k hk (by simp [bks])⟩⟩

/-! NodeBeats -/
theorem nodeBeats_lifted (os : Os) (started : os.Started) (H : Type) (enc : TypeId × Value → H) :
    ReturnsInHanded {} Tryz.checked os 3 .any (fun w args => (Rows.nodeBeatsSpec.pre enc Tryz.prog Tryz.f3 [] false w args ∧ laidMetH Tryz.prog laidA w) ∧ sizedMet enc Tryz.prog Tryz.f3 (OpenSpec.ofChange Rows.nodeBeatsSpec) false w args)
      (Rows.nodeBeatsSpec.post enc Tryz.prog Tryz.f3 false true false false) := by
  refine handed_shaped (C := Tryz.checked) (X := fun w _ => laidMetH Tryz.prog laidA w) (fun _ _ _ hh h => h.of_heap hh) own started (by kernel_rfl) Tryz.func3
    (ChangeSpec.witness_shaped (enc := enc) (C := Tryz.checked) (os := os) (X := fun w _ => laidMetH Tryz.prog laidA w) false (World.doorLaid Tryz.prog 261 os) #[.int .i64 0, .int .i64 0, .int .i64 0, .int .i64 0, .bool false] 8 rfl (World.shaped_of_RefB (by kernel_rfl) (by kernel_rfl)) (by kernel_rfl) (by kernel_rfl) (by kernel_rfl) (door_met os _)) ?_
  intro W base args ds gs before hval0 hW _ _ hL hS
  have hval : ∀ (j : Nat) t v, Tryz.f3.params[j]? = some t → args[j]? = some v → Value.okWide Tryz.prog W .any base t v := hval0
  have hW' := hW
  obtain ⟨p, q, hA0, hV, rfl, hfz, hnd⟩ := hW
  have hA : DataW.TrodAll enc Tryz.prog W 0 (fun _ => true) true Tryz.f3.params.toList args.toList ds p := hA0
  rw [Tryz.params3] at hA hval
  obtain ⟨v0, vs0, d0, ds0, p0, q0, hargs, rfl, rfl, h0, r0⟩ := trodAll_cons hA
  obtain ⟨v1, vs1, d1, ds1, p1, q1, rfl, rfl, rfl, h1, r1⟩ := trodAll_cons r0
  obtain ⟨v2, vs2, d2, ds2, p2, q2, rfl, rfl, rfl, h2, r2⟩ := trodAll_cons r1
  obtain ⟨v3, vs3, d3, ds3, p3, q3, rfl, rfl, rfl, h3, r3⟩ := trodAll_cons r2
  obtain ⟨v4, vs4, d4, ds4, p4, q4, rfl, rfl, rfl, h4, r4⟩ := trodAll_cons r3
  obtain ⟨rfl, rfl, rfl⟩ := trodAll_nil r4
  obtain rfl : args = #[v0, v1, v2, v3, v4] := by cases args; simp_all
  obtain ⟨rfl, rfl⟩ := trodVars_none hV
  obtain ⟨a0, rfl, rfl, rfl, w0⟩ := open_int Tryz.underlying3 (hval 0 3 v0 rfl rfl) h0
  obtain ⟨a1, rfl, rfl, rfl, w1⟩ := open_int Tryz.underlying3 (hval 1 3 v1 rfl rfl) h1
  obtain ⟨a2, rfl, rfl, rfl, w2⟩ := open_int Tryz.underlying3 (hval 2 3 v2 rfl rfl) h2
  obtain ⟨a3, rfl, rfl, rfl, w3⟩ := open_int Tryz.underlying2 (hval 3 2 v3 rfl rfl) h3
  obtain ⟨a4, rfl, rfl, rfl⟩ := open_bool Tryz.underlying4 (hval 4 4 v4 rfl rfl) h4
  clear hA0 hval0
  simp only [List.append_nil] at hW'
  obtain ⟨ε, hε⟩ := ro_of hS hL
  refine (spec_calls (nodeBeats_spec ε a0 a1 a2 a3 a4) hε).mono fun e W' ⟨⟨v, L', he, hv, _⟩, hb⟩ => ?_
  subst he; subst hv
  refine ⟨_, rfl, _, _, _, [], [], [], hW', ?_, ?_, ?_, hb.frame _, fun h => by cases h⟩
  · exact trodAll_cons_mk (shut_bool Tryz.underlying4 _) trodAll_mk0
  · exact trodAll_cons_mk (shut_int Tryz.underlying3 w0) (trodAll_cons_mk (shut_int Tryz.underlying3 w1) (trodAll_cons_mk (shut_int Tryz.underlying3 w2) (trodAll_cons_mk (shut_int Tryz.underlying2 w3) (trodAll_cons_mk (shut_bool Tryz.underlying4 _) trodAll_mk0))))
  · rfl

end Go.Proofs.YthabegpfnfbmaaaGreatDoor
