/- Part of a claim: contracts of the program's functions, walked op by op. -/
import Derived.Test.YthabegpfnfbmaaaGreatDoorA21
import Derived.Test.YthabegpfnfbmaaaGreatDoorLL15
set_option linter.unusedSimpArgs false
set_option linter.unusedVariables false
namespace Go.LL
open Go.Proofs
theorem driveE_len (id : Int) (d : Deed) : (driveE id d).length ≤ 1 := by unfold driveE; split; simp; split <;> simp
theorem SlE.app0 {s s' : Sli} {l : List Ev} (h : SlE s l) (hk : s'.OK 9) (hn : s'.n = s.n + Sli.none.n) (hx : s'.xs = s.xs ++ Sli.none.xs) : SlE s' l := ⟨hk, by rw [hn, h.n]; rfl, by rw [hx, h.xs]; simp⟩
theorem SlB.app0 {s s' : Sli} {l : List Beat} (h : SlB s l) (hk : s'.OK 11) (hn : s'.n = s.n + Sli.none.n) (hx : s'.xs = s.xs ++ Sli.none.xs) : SlB s' l := ⟨hk, by rw [hn, h.n]; rfl, by rw [hx, h.xs]; simp⟩

set_option maxRecDepth 4000 in
set_option maxHeartbeats 2000000 in
theorem tickQ_spec (np : Nat) (p : NodeP) (nm : NodeM) (x : Tab) (g : GateM) (st : StoreM) (b : Nat) (rv : Value) (ob : Bool) (ra : Option Addr) (rn rc : Nat) (hm : nm.mem = .slice ra rn rc) (hd : nm.down = false) (hout : nm.out = false) (hno : (nm.c.tick nm.h (Stops.mk (ofF (insTo nm.ins 64) 0#64) 0#64 0#64) ob).2.opened = false) (hs : (Door.mk (nm.c.tick nm.h (Stops.mk (ofF (insTo nm.ins 64) 0#64) 0#64 0#64) ob).1.s.door (nm.c.tick nm.h (Stops.mk (ofF (insTo nm.ins 64) 0#64) 0#64 0#64) ob).1.held).stuck nm.h.dwell = false) (hc : 0 ≤ nm.h.cars ∧ nm.h.cars ≤ 16) (hf : w64 (nm.found + 1) ≤ 4 * nm.h.cars + 8) (hl : x.tick.alive.length ≤ 100) (hz0 : 0 < (setL (x.tick.alive ++ [nm.id])).length) (hz1 : (setL (x.tick.alive ++ [nm.id])).length ≤ 1000) :
    Spec Tryz.prog 13 [pt np, rv, .bool ob] [(np, NodeM.o 129 p nm), (p.l, Tab.o 163 x)] [(p.c, .cells #[.map none] 158 (0, 0)), (p.g, GateM.o 205 g), (p.s, StoreM.o 207 b st), (13, .cells dbCells.toArray 432 (0, 0))] (fun v L => ∃ s e : Sli, SlB s (beatsTo nm.id nm.life (seenN st x.tick g) nm.out nm.h.cars.toNat) ∧ SlE e (driveE nm.id (nm.c.tick nm.h (Stops.mk (ofF (insTo nm.ins 64) 0#64) 0#64 0#64) ob).2) ∧ v = .tuple #[s.v, e.v] ∧ L = (np, NodeM.o 129 p { nm with c := (nm.c.tick nm.h (Stops.mk (ofF (insTo nm.ins 64) 0#64) 0#64 0#64) ob).1, since := w64 (nm.since + 1), found := w64 (nm.found + 1) }) :: (p.l, Tab.o 163 x.tick) :: (s.L 41 ++ e.L 76)) := by
  refine spec_of Tryz.func13 rfl Tryz.ntmps13 (by simp) fun w0 hb => ?_
  refine gc_seq ?_
  refine gc_region ?_
  refine sq (q_as rfl) rfl rfl ?_
  refine sq (q_as rfl) rfl rfl ?_
  refine go_nil ?_
  refine tn ?_
  refine gc_seq ?_
  refine gc_seq ?_
  refine gc_region ?_
  refine sq (q_mv rfl) rfl rfl ?_
  refine sq (q_nc rfl) rfl rfl ?_
  refine sq (q_fa rfl Tryz.runUnderlying129 rfl Tryz.sizeOf4) rfl rfl ?_
  refine sq (q_ld rfl Tryz.isAgg4 rfl) rfl rfl ?_
  refine go_nil ?_
  refine tn ?_
  refine gc_if rfl (fun h1 => ?_) (fun h1 => ?_)
  · refine gc_seq ?_
    exfalso; simp_all
  · refine gc_skip ?_
    refine tn ?_
    refine gc_seq ?_
    refine gc_region ?_
    refine sq (q_mv rfl) rfl rfl ?_
    refine sq (q_mv rfl) rfl rfl ?_
    refine sq (q_mv rfl) rfl rfl ?_
    refine s_call (e_call (drive_spec np p nm rv ob hno) rfl en60) rfl rfl ?_
    rintro _ _ ⟨s2, hs2, rfl, rfl⟩
    have ok2 := hs2.ok
    have hse := hs2
    refine appc ?_
    refine sq (q_mv rfl) rfl rfl ?_
    refine s_callE (e_call (leaveNone_spec np p { nm with c := (nm.c.tick nm.h (Stops.mk (ofF (insTo nm.ins 64) 0#64) 0#64 0#64) ob).1 } hout hs) rfl en61) rfl rfl ?_
    refine s_app (e_appSl (sl := s2) (r := Sli.none) rfl ok2 rfl Sli.none_ok (by simp) Tryz.underlying31 ei76 (by have := hse.n; have := driveE_len nm.id ((nm.c.tick nm.h (Stops.mk (ofF (insTo nm.ins 64) 0#64) 0#64 0#64) ob)).2; first | omega | (simp only [maxLen]; omega)) (by have := hse.n; have := driveE_len nm.id ((nm.c.tick nm.h (Stops.mk (ofF (insTo nm.ins 64) 0#64) 0#64 0#64) ob)).2; first | omega | (simp only [maxLen]; omega))) rfl rfl fun s3 hok3 hn3 hx3 => ?_
    refine sq (q_as rfl) rfl rfl ?_
    refine go_nil ?_
    refine tn ?_
    refine gc_seq ?_
    refine gc_region ?_
    refine sq (q_mv rfl) rfl rfl ?_
    refine sq (q_nc rfl) rfl rfl ?_
    refine sq (q_fa rfl Tryz.runUnderlying129 rfl Tryz.sizeOf127) rfl rfl ?_
    refine sq (q_ld rfl Tryz.isAgg127 rfl) rfl rfl ?_
    refine s_call (e_call (ttick_spec p.l x) rfl en62) rfl rfl ?_
    rintro _ _ ⟨rfl, rfl⟩
    refine app1 ?_
    refine go_nil ?_
    refine tn ?_
    refine gc_seq ?_
    refine gc_region ?_
    refine sq (q_mv rfl) rfl rfl ?_
    refine sq (q_nc rfl) rfl rfl ?_
    refine sq (q_fa rfl Tryz.runUnderlying129 rfl Tryz.sizeOf3) rfl rfl ?_
    refine sq (q_ld rfl Tryz.isAgg3 rfl) rfl rfl ?_
    refine sq (q_addw rfl rfl) rfl rfl ?_
    refine sq (q_nc rfl) rfl rfl ?_
    refine sq (q_fa rfl Tryz.runUnderlying129 rfl Tryz.sizeOf3) rfl rfl ?_
    refine s_st (e_st rfl rfl Tryz.sizeOf3 rfl rfl rfl rfl) rfl rfl ?_
    refine go_nil ?_
    refine tn ?_
    refine gc_seq ?_
    refine gc_region ?_
    refine sq (q_mv rfl) rfl rfl ?_
    refine sq (q_nc rfl) rfl rfl ?_
    refine sq (q_fa rfl Tryz.runUnderlying129 rfl Tryz.sizeOf3) rfl rfl ?_
    refine sq (q_ld rfl Tryz.isAgg3 rfl) rfl rfl ?_
    refine sq (q_addw rfl rfl) rfl rfl ?_
    refine sq (q_nc rfl) rfl rfl ?_
    refine sq (q_fa rfl Tryz.runUnderlying129 rfl Tryz.sizeOf3) rfl rfl ?_
    refine s_st (e_st rfl rfl Tryz.sizeOf3 rfl rfl rfl rfl) rfl rfl ?_
    refine go_nil ?_
    refine tn ?_
    refine gc_seq ?_
    refine gc_region ?_
    refine sq (q_mv rfl) rfl rfl ?_
    refine s_call (e_call (beats_spec np p { nm with c := (nm.c.tick nm.h (Stops.mk (ofF (insTo nm.ins 64) 0#64) 0#64 0#64) ob).1, since := w64 (nm.since + 1), found := w64 (nm.found + 1) } x.tick g st b hc) rfl en63) rfl rfl ?_
    rintro _ _ ⟨s5, hs5, rfl, rfl⟩
    have ok5 := hs5.ok
    have hsb := hs5
    have hnb : s5.n ≤ 16 := by have h := hs5.n; rw [h]; exact Nat.le_trans (beats_len _ _ _ _ _) (by show nm.h.cars.toNat ≤ 16; omega)
    refine sq (q_as rfl) rfl rfl ?_
    refine go_nil ?_
    refine tn ?_
    refine gc_seq ?_
    refine gc_region ?_
    refine sq (q_mv rfl) rfl rfl ?_
    refine sq (q_mv rfl) rfl rfl ?_
    refine s_callE (e_call (foundsNo_spec np p { nm with c := (nm.c.tick nm.h (Stops.mk (ofF (insTo nm.ins 64) 0#64) 0#64 0#64) ob).1, since := w64 (nm.since + 1), found := w64 (nm.found + 1) } x.tick g st b rv ra rn rc hm hd hc hf hl hz0 hz1) rfl en64) rfl rfl ?_
    refine sq (q_mv rfl) rfl rfl ?_
    refine sq (q_ext rfl rfl) rfl rfl ?_
    refine sq (q_ext rfl rfl) rfl rfl ?_
    refine sq (q_as rfl) rfl rfl ?_
    refine sq (q_as rfl) rfl rfl ?_
    refine go_nil ?_
    refine tn ?_
    refine gc_seq ?_
    refine gc_region ?_
    refine sq (q_mv rfl) rfl rfl ?_
    refine sq (q_mv rfl) rfl rfl ?_
    refine s_app (e_appSl (sl := s5) (r := Sli.none) rfl ok5 rfl Sli.none_ok (by simp) Tryz.underlying30 ei41 (by first | omega | (simp only [maxLen]; omega)) (by first | omega | (simp only [maxLen]; omega))) rfl rfl fun s6 hok6 hn6 hx6 => ?_
    refine sq (q_mv rfl) rfl rfl ?_
    refine sq (q_mv rfl) rfl rfl ?_
    refine s_app (e_appSl (sl := s3) (r := Sli.none) rfl hok3 rfl Sli.none_ok (by simp) Tryz.underlying31 ei76 (by have := hse.n; have := driveE_len nm.id ((nm.c.tick nm.h (Stops.mk (ofF (insTo nm.ins 64) 0#64) 0#64 0#64) ob)).2; have hq := hn3; simp only [Sli.none] at hq; first | omega | (simp only [maxLen]; omega)) (by have := hse.n; have := driveE_len nm.id ((nm.c.tick nm.h (Stops.mk (ofF (insTo nm.ins 64) 0#64) 0#64 0#64) ob)).2; have hq := hn3; simp only [Sli.none] at hq; first | omega | (simp only [maxLen]; omega))) rfl rfl fun s7 hok7 hn7 hx7 => ?_
    refine sq (q_as rfl) rfl rfl ?_
    refine sq (q_as rfl) rfl rfl ?_
    refine go_nil ?_
    refine tn ?_
    refine gc_ret ?_
    refine ret_2 (.inl rfl) rfl rfl rfl ?_
    exact rsZ (A := Sli.L 41 s6) (B := Sli.L 76 s7) [np, p.l] ⟨s6, s7, hsb.app0 hok6 hn6 hx6, (hse.app0 hok3 hn3 hx3).app0 hok7 hn7 hx7, rfl, rfl⟩
end Go.LL
