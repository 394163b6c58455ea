/- Part of a claim: contracts of the program's functions, walked op by op. -/
import Derived.Test.YthabegpfnfbmaaaGreatDoorMO3
set_option linter.unusedSimpArgs false
set_option linter.unusedVariables false
/- The functional model, fourth part: saving. -/
namespace Go.LL
instance (priority := 300) Seg.self {A RO : List Chunk} : Seg A A RO := ⟨fun _ h => .inl h⟩
theorem CellM.put_len (m : CellM) (i x : Int) : (m.put i x).1.bs.length = m.bs.length := by
  unfold CellM.put
  split
  · rw [CellM.gone_bs]
  · split
    · rw [CellM.gone_bs]
    · simp
theorem CellM.put_ok {m : CellM} (h : m.OK) {i x : Int} (hx : 0 ≤ x ∧ x < 256) : (m.put i x).1.OK := by
  unfold CellM.put CellM.OK
  split
  · rw [CellM.gone_bs]; exact h
  · split
    · rw [CellM.gone_bs]; exact h
    · intro y hy
      rcases List.mem_or_eq_of_mem_set hy with h1 | rfl
      · exact h y h1
      · exact hx
def saveF (m : CellM) (k : Int) : List Int → Int → CellM × Option Nat
  | [], _ => (m, none)
  | x :: xs, i => if (m.put (w64 (w64 (k * 13) + i)) x).2.isSome = true then m.put (w64 (w64 (k * 13) + i)) x else saveF (m.put (w64 (w64 (k * 13) + i)) x).1 k xs (i + 1)
def slotOf (st : StoreM) : Int := if st.at_ < 0 then 0 else w64 (1 - st.at_)
def recB (r : Rec) : List Int := 0 :: (bytes6 r.count ++ bytes6 r.life)
def saveM (m : CellM) (st : StoreM) (r : Rec) : CellM × StoreM × Option Nat :=
  if (badM st r).isSome = true then (m, st, badM st r)
  else if (saveF m (slotOf st) (recB r) 0).2.isSome = true then ((saveF m (slotOf st) (recB r) 0).1, st, (saveF m (slotOf st) (recB r) 0).2)
  else if ((saveF m (slotOf st) (recB r) 0).1.put (w64 (slotOf st * 13)) 1).2.isSome = true then
    (((saveF m (slotOf st) (recB r) 0).1.put (w64 (slotOf st * 13)) 1).1, st, ((saveF m (slotOf st) (recB r) 0).1.put (w64 (slotOf st * 13)) 1).2)
  else (((saveF m (slotOf st) (recB r) 0).1.put (w64 (slotOf st * 13)) 1).1, ⟨r.count, r.life, slotOf st⟩, none)
theorem recB_len (r : Rec) : (recB r).length = 13 := rfl
/-- the state of a save, i bytes done -/
def SaveI (m : CellM) (k : Int) (bs : List Int) (i : Int) (m' : CellM) : Prop := m'.bs.length = m.bs.length ∧ saveF m k bs 0 = saveF m' k (bs.drop i.toNat) i
theorem save_0 {m : CellM} {k : Int} {bs : List Int} : SaveI m k bs 0 m := ⟨rfl, rfl⟩
theorem save_step {m m' : CellM} {k i : Int} {bs : List Int} (h : SaveI m k bs i m') (h0 : 0 ≤ i) (hi : i.toNat < bs.length) (he : (m'.put (w64 (w64 (k * 13) + i)) (bs.getD i.toNat 0)).2.isSome = false) :
    SaveI m k bs (i + 1) (m'.put (w64 (w64 (k * 13) + i)) (bs.getD i.toNat 0)).1 := by
  refine ⟨by rw [CellM.put_len]; exact h.1, ?_⟩
  rw [h.2, show (i + 1).toNat = i.toNat + 1 by omega, List.drop_eq_getElem_cons hi]
  have e : bs.getD i.toNat 0 = bs[i.toNat] := by simp [hi]
  rw [e] at he ⊢
  rw [saveF, if_neg (by rw [he]; simp)]
theorem save_err {m m' : CellM} {k i : Int} {bs : List Int} (h : SaveI m k bs i m') (hi : i.toNat < bs.length) (he : (m'.put (w64 (w64 (k * 13) + i)) (bs.getD i.toNat 0)).2.isSome = true) :
    saveF m k bs 0 = m'.put (w64 (w64 (k * 13) + i)) (bs.getD i.toNat 0) := by
  rw [h.2, List.drop_eq_getElem_cons hi]
  have e : bs.getD i.toNat 0 = bs[i.toNat] := by simp [hi]
  rw [e] at he ⊢
  rw [saveF, if_pos he]
theorem save_end {m m' : CellM} {k i : Int} {bs : List Int} (h : SaveI m k bs i m') (hi : i.toNat = bs.length) : saveF m k bs 0 = (m', none) := by
  rw [h.2, hi, List.drop_length, saveF]
theorem map_lds {f : Int → Value} {xs : List Value} {l : List Int} (hx : xs = l.map f) (k : Nat) (h : k < l.length) : nth xs (k * 1) = some (f (l.getD k 0)) := by
  have := map_ld f l k h
  rw [Nat.zero_add] at this
  rw [hx]; exact this
end Go.LL
