/- Part of a claim: contracts of the program's functions, walked op by op. -/
import Derived.Test.YthabegpfnfbmaaaGreatDoorProg
import Derived.Test.YthabegpfnfbmaaaGreatDoorMO
import Derived.Tactics
import Derived.Tactics2
import Derived.Laws.Small
set_option linter.unusedSimpArgs false
set_option linter.unusedVariables false
namespace Go.LL
open Go.Proofs
theorem mixed : Tryz.prog.follows .mixedOrders = true := by kernel_rfl
theorem pl29 (w : World) : ((#[{ name := "Cars", type := 3, offset := 0, embedded := false, tag := "", pkgPath := "", byteOffset := 0 }, { name := "Floors", type := 3, offset := 1, embedded := false, tag := "", pkgPath := "", byteOffset := 8 }, { name := "Speed", type := 3, offset := 2, embedded := false, tag := "", pkgPath := "", byteOffset := 16 }, { name := "Dwell", type := 3, offset := 3, embedded := false, tag := "", pkgPath := "", byteOffset := 24 }] : Array Field).mapM fun f => do pure (f.offset, ← sizeOf f.type) : Sem (Array (Nat × Nat))).run Tryz.prog w = .ok #[(0, 1), (1, 1), (2, 1), (3, 1)] w := by kernel_rfl
theorem pl35 (w : World) : ((#[{ name := "Count", type := 2, offset := 0, embedded := false, tag := "", pkgPath := "", byteOffset := 0 }, { name := "Founder", type := 3, offset := 1, embedded := false, tag := "", pkgPath := "", byteOffset := 8 }] : Array Field).mapM fun f => do pure (f.offset, ← sizeOf f.type) : Sem (Array (Nat × Nat))).run Tryz.prog w = .ok #[(0, 1), (1, 1)] w := by kernel_rfl
theorem pl39 (w : World) : ((#[{ name := "Epoch", type := 35, offset := 0, embedded := false, tag := "", pkgPath := "", byteOffset := 0 }, { name := "Hop", type := 2, offset := 2, embedded := false, tag := "", pkgPath := "", byteOffset := 16 }, { name := "Members", type := 36, offset := 3, embedded := false, tag := "", pkgPath := "", byteOffset := 24 }, { name := "Entries", type := 37, offset := 4, embedded := false, tag := "", pkgPath := "", byteOffset := 48 }] : Array Field).mapM fun f => do pure (f.offset, ← sizeOf f.type) : Sem (Array (Nat × Nat))).run Tryz.prog w = .ok #[(0, 2), (2, 1), (3, 1), (4, 1)] w := by kernel_rfl
theorem pl41 (w : World) : ((#[{ name := "Kind", type := 3, offset := 0, embedded := false, tag := "", pkgPath := "", byteOffset := 0 }, { name := "From", type := 3, offset := 1, embedded := false, tag := "", pkgPath := "", byteOffset := 8 }, { name := "To", type := 3, offset := 2, embedded := false, tag := "", pkgPath := "", byteOffset := 16 }, { name := "Life", type := 2, offset := 3, embedded := false, tag := "", pkgPath := "", byteOffset := 24 }, { name := "Seen", type := 2, offset := 4, embedded := false, tag := "", pkgPath := "", byteOffset := 32 }, { name := "Out", type := 4, offset := 5, embedded := false, tag := "", pkgPath := "", byteOffset := 40 }, { name := "Ring", type := 39, offset := 6, embedded := false, tag := "", pkgPath := "", byteOffset := 48 }] : Array Field).mapM fun f => do pure (f.offset, ← sizeOf f.type) : Sem (Array (Nat × Nat))).run Tryz.prog w = .ok #[(0, 1), (1, 1), (2, 1), (3, 1), (4, 1), (5, 1), (6, 5)] w := by kernel_rfl
theorem pl62 (w : World) : ((#[{ name := "Pos", type := 3, offset := 0, embedded := false, tag := "", pkgPath := "", byteOffset := 0 }, { name := "Dir", type := 3, offset := 1, embedded := false, tag := "", pkgPath := "", byteOffset := 8 }, { name := "Door", type := 3, offset := 2, embedded := false, tag := "", pkgPath := "", byteOffset := 16 }, { name := "Relevel", type := 4, offset := 3, embedded := false, tag := "", pkgPath := "", byteOffset := 24 }] : Array Field).mapM fun f => do pure (f.offset, ← sizeOf f.type) : Sem (Array (Nat × Nat))).run Tryz.prog w = .ok #[(0, 1), (1, 1), (2, 1), (3, 1)] w := by kernel_rfl
theorem pl64 (w : World) : ((#[{ name := "State", type := 62, offset := 0, embedded := false, tag := "", pkgPath := "", byteOffset := 0 }, { name := "Held", type := 3, offset := 4, embedded := false, tag := "", pkgPath := "", byteOffset := 32 }] : Array Field).mapM fun f => do pure (f.offset, ← sizeOf f.type) : Sem (Array (Nat × Nat))).run Tryz.prog w = .ok #[(0, 4), (4, 1)] w := by kernel_rfl
theorem pl70 (w : World) : ((#[{ name := "Floor", type := 3, offset := 0, embedded := false, tag := "", pkgPath := "", byteOffset := 0 }, { name := "Dir", type := 3, offset := 1, embedded := false, tag := "", pkgPath := "", byteOffset := 8 }] : Array Field).mapM fun f => do pure (f.offset, ← sizeOf f.type) : Sem (Array (Nat × Nat))).run Tryz.prog w = .ok #[(0, 1), (1, 1)] w := by kernel_rfl
theorem pl72 (w : World) : ((#[{ name := "Call", type := 70, offset := 0, embedded := false, tag := "", pkgPath := "", byteOffset := 0 }, { name := "Gen", type := 3, offset := 2, embedded := false, tag := "", pkgPath := "", byteOffset := 16 }] : Array Field).mapM fun f => do pure (f.offset, ← sizeOf f.type) : Sem (Array (Nat × Nat))).run Tryz.prog w = .ok #[(0, 2), (2, 1)] w := by kernel_rfl
theorem pl76 (w : World) : ((#[{ name := "Kind", type := 3, offset := 0, embedded := false, tag := "", pkgPath := "", byteOffset := 0 }, { name := "Car", type := 3, offset := 1, embedded := false, tag := "", pkgPath := "", byteOffset := 8 }, { name := "Latch", type := 72, offset := 2, embedded := false, tag := "", pkgPath := "", byteOffset := 16 }, { name := "Epoch", type := 35, offset := 5, embedded := false, tag := "", pkgPath := "", byteOffset := 40 }, { name := "Floor", type := 3, offset := 7, embedded := false, tag := "", pkgPath := "", byteOffset := 56 }, { name := "Dir", type := 3, offset := 8, embedded := false, tag := "", pkgPath := "", byteOffset := 64 }] : Array Field).mapM fun f => do pure (f.offset, ← sizeOf f.type) : Sem (Array (Nat × Nat))).run Tryz.prog w = .ok #[(0, 1), (1, 1), (2, 3), (5, 2), (7, 1), (8, 1)] w := by kernel_rfl
theorem pl81 (w : World) : ((#[{ name := "Latch", type := 72, offset := 0, embedded := false, tag := "", pkgPath := "", byteOffset := 0 }, { name := "Bids", type := 79, offset := 3, embedded := false, tag := "", pkgPath := "", byteOffset := 24 }, { name := "Award", type := 3, offset := 4, embedded := false, tag := "", pkgPath := "", byteOffset := 48 }] : Array Field).mapM fun f => do pure (f.offset, ← sizeOf f.type) : Sem (Array (Nat × Nat))).run Tryz.prog w = .ok #[(0, 3), (3, 1), (4, 1)] w := by kernel_rfl
theorem pl83 (w : World) : ((#[{ name := "Car", type := 3, offset := 0, embedded := false, tag := "", pkgPath := "", byteOffset := 0 }, { name := "Ticks", type := 3, offset := 1, embedded := false, tag := "", pkgPath := "", byteOffset := 8 }] : Array Field).mapM fun f => do pure (f.offset, ← sizeOf f.type) : Sem (Array (Nat × Nat))).run Tryz.prog w = .ok #[(0, 1), (1, 1)] w := by kernel_rfl
theorem pl89 (w : World) : ((#[{ name := "B", type := 87, offset := 0, embedded := false, tag := "", pkgPath := "", byteOffset := 0 }, { name := "Left", type := 3, offset := 1, embedded := false, tag := "", pkgPath := "", byteOffset := 24 }, { name := "Writes", type := 3, offset := 2, embedded := false, tag := "", pkgPath := "", byteOffset := 32 }, { name := "Down", type := 4, offset := 3, embedded := false, tag := "", pkgPath := "", byteOffset := 40 }] : Array Field).mapM fun f => do pure (f.offset, ← sizeOf f.type) : Sem (Array (Nat × Nat))).run Tryz.prog w = .ok #[(0, 1), (1, 1), (2, 1), (3, 1)] w := by kernel_rfl
theorem pl101 (w : World) : ((#[{ name := "Floors", type := 3, offset := 0, embedded := false, tag := "", pkgPath := "", byteOffset := 0 }, { name := "Gens", type := 97, offset := 1, embedded := false, tag := "", pkgPath := "", byteOffset := 8 }, { name := "Is", type := 99, offset := 129, embedded := false, tag := "", pkgPath := "", byteOffset := 1032 }] : Array Field).mapM fun f => do pure (f.offset, ← sizeOf f.type) : Sem (Array (Nat × Nat))).run Tryz.prog w = .ok #[(0, 1), (1, 128), (129, 128)] w := by kernel_rfl
theorem pl109 (w : World) : ((#[{ name := "State", type := 62, offset := 0, embedded := false, tag := "", pkgPath := "", byteOffset := 0 }, { name := "Held", type := 3, offset := 4, embedded := false, tag := "", pkgPath := "", byteOffset := 32 }] : Array Field).mapM fun f => do pure (f.offset, ← sizeOf f.type) : Sem (Array (Nat × Nat))).run Tryz.prog w = .ok #[(0, 4), (4, 1)] w := by kernel_rfl
theorem pl117 (w : World) : ((#[{ name := "H", type := 29, offset := 0, embedded := false, tag := "", pkgPath := "", byteOffset := 0 }, { name := "ID", type := 3, offset := 4, embedded := false, tag := "", pkgPath := "", byteOffset := 32 }, { name := "S", type := 108, offset := 5, embedded := false, tag := "", pkgPath := "", byteOffset := 40 }, { name := "Life", type := 2, offset := 6, embedded := false, tag := "", pkgPath := "", byteOffset := 48 }, { name := "Car", type := 109, offset := 7, embedded := false, tag := "", pkgPath := "", byteOffset := 56 }, { name := "Live", type := 114, offset := 12, embedded := false, tag := "", pkgPath := "", byteOffset := 96 }, { name := "Gate", type := 115, offset := 93, embedded := false, tag := "", pkgPath := "", byteOffset := 408 }, { name := "Ring", type := 36, offset := 94, embedded := false, tag := "", pkgPath := "", byteOffset := 416 }, { name := "Claims", type := 58, offset := 95, embedded := false, tag := "", pkgPath := "", byteOffset := 440 }, { name := "Calls", type := 36, offset := 96, embedded := false, tag := "", pkgPath := "", byteOffset := 464 }, { name := "Since", type := 3, offset := 97, embedded := false, tag := "", pkgPath := "", byteOffset := 488 }, { name := "Found", type := 3, offset := 98, embedded := false, tag := "", pkgPath := "", byteOffset := 496 }, { name := "Out", type := 4, offset := 99, embedded := false, tag := "", pkgPath := "", byteOffset := 504 }, { name := "Down", type := 4, offset := 100, embedded := false, tag := "", pkgPath := "", byteOffset := 505 }] : Array Field).mapM fun f => do pure (f.offset, ← sizeOf f.type) : Sem (Array (Nat × Nat))).run Tryz.prog w = .ok #[(0, 4), (4, 1), (5, 1), (6, 1), (7, 5), (12, 81), (93, 1), (94, 1), (95, 1), (96, 1), (97, 1), (98, 1), (99, 1), (100, 1)] w := by kernel_rfl
theorem pl129 (w : World) : ((#[{ name := "h", type := 29, offset := 0, embedded := false, tag := "", pkgPath := "paternoster/node", byteOffset := 0 }, { name := "id", type := 3, offset := 4, embedded := false, tag := "", pkgPath := "paternoster/node", byteOffset := 32 }, { name := "s", type := 123, offset := 5, embedded := false, tag := "", pkgPath := "paternoster/node", byteOffset := 40 }, { name := "life", type := 2, offset := 6, embedded := false, tag := "", pkgPath := "paternoster/node", byteOffset := 48 }, { name := "c", type := 64, offset := 7, embedded := false, tag := "", pkgPath := "paternoster/node", byteOffset := 56 }, { name := "g", type := 124, offset := 12, embedded := false, tag := "", pkgPath := "paternoster/node", byteOffset := 96 }, { name := "members", type := 36, offset := 13, embedded := false, tag := "", pkgPath := "paternoster/node", byteOffset := 104 }, { name := "claims", type := 125, offset := 14, embedded := false, tag := "", pkgPath := "paternoster/node", byteOffset := 128 }, { name := "inside", type := 126, offset := 15, embedded := false, tag := "", pkgPath := "paternoster/node", byteOffset := 136 }, { name := "l", type := 127, offset := 79, embedded := false, tag := "", pkgPath := "paternoster/node", byteOffset := 200 }, { name := "out", type := 4, offset := 80, embedded := false, tag := "", pkgPath := "paternoster/node", byteOffset := 208 }, { name := "down", type := 4, offset := 81, embedded := false, tag := "", pkgPath := "paternoster/node", byteOffset := 209 }, { name := "since", type := 3, offset := 82, embedded := false, tag := "", pkgPath := "paternoster/node", byteOffset := 216 }, { name := "found", type := 3, offset := 83, embedded := false, tag := "", pkgPath := "paternoster/node", byteOffset := 224 }] : Array Field).mapM fun f => do pure (f.offset, ← sizeOf f.type) : Sem (Array (Nat × Nat))).run Tryz.prog w = .ok #[(0, 4), (4, 1), (5, 1), (6, 1), (7, 5), (12, 1), (13, 1), (14, 1), (15, 64), (79, 1), (80, 1), (81, 1), (82, 1), (83, 1)] w := by kernel_rfl
theorem pl134 (w : World) : ((#[{ name := "Count", type := 2, offset := 0, embedded := false, tag := "", pkgPath := "", byteOffset := 0 }, { name := "Life", type := 2, offset := 1, embedded := false, tag := "", pkgPath := "", byteOffset := 8 }] : Array Field).mapM fun f => do pure (f.offset, ← sizeOf f.type) : Sem (Array (Nat × Nat))).run Tryz.prog w = .ok #[(0, 1), (1, 1)] w := by kernel_rfl
theorem pl146 (w : World) : ((#[{ name := "b", type := 87, offset := 0, embedded := false, tag := "", pkgPath := "paternoster/cell", byteOffset := 0 }, { name := "fuse", type := 3, offset := 1, embedded := false, tag := "", pkgPath := "paternoster/cell", byteOffset := 24 }, { name := "down", type := 4, offset := 2, embedded := false, tag := "", pkgPath := "paternoster/cell", byteOffset := 32 }, { name := "writes", type := 3, offset := 3, embedded := false, tag := "", pkgPath := "paternoster/cell", byteOffset := 40 }] : Array Field).mapM fun f => do pure (f.offset, ← sizeOf f.type) : Sem (Array (Nat × Nat))).run Tryz.prog w = .ok #[(0, 1), (1, 1), (2, 1), (3, 1)] w := by kernel_rfl
theorem pl149 (w : World) : ((#[{ name := "floors", type := 3, offset := 0, embedded := false, tag := "", pkgPath := "paternoster/riser", byteOffset := 0 }, { name := "gen", type := 147, offset := 1, embedded := false, tag := "", pkgPath := "paternoster/riser", byteOffset := 8 }, { name := "lit", type := 147, offset := 2, embedded := false, tag := "", pkgPath := "paternoster/riser", byteOffset := 16 }] : Array Field).mapM fun f => do pure (f.offset, ← sizeOf f.type) : Sem (Array (Nat × Nat))).run Tryz.prog w = .ok #[(0, 1), (1, 1), (2, 1)] w := by kernel_rfl
theorem pl158 (w : World) : ((#[{ name := "l", type := 156, offset := 0, embedded := false, tag := "", pkgPath := "paternoster/calls", byteOffset := 0 }] : Array Field).mapM fun f => do pure (f.offset, ← sizeOf f.type) : Sem (Array (Nat × Nat))).run Tryz.prog w = .ok #[(0, 1)] w := by kernel_rfl
theorem pl160 (w : World) : ((#[{ name := "known", type := 4, offset := 0, embedded := false, tag := "", pkgPath := "paternoster/live", byteOffset := 0 }, { name := "heard", type := 4, offset := 1, embedded := false, tag := "", pkgPath := "paternoster/live", byteOffset := 1 }, { name := "out", type := 4, offset := 2, embedded := false, tag := "", pkgPath := "paternoster/live", byteOffset := 2 }, { name := "life", type := 2, offset := 3, embedded := false, tag := "", pkgPath := "paternoster/live", byteOffset := 8 }, { name := "age", type := 3, offset := 4, embedded := false, tag := "", pkgPath := "paternoster/live", byteOffset := 16 }] : Array Field).mapM fun f => do pure (f.offset, ← sizeOf f.type) : Sem (Array (Nat × Nat))).run Tryz.prog w = .ok #[(0, 1), (1, 1), (2, 1), (3, 1), (4, 1)] w := by kernel_rfl
theorem pl163 (w : World) : ((#[{ name := "l", type := 161, offset := 0, embedded := false, tag := "", pkgPath := "paternoster/live", byteOffset := 0 }, { name := "seen", type := 2, offset := 80, embedded := false, tag := "", pkgPath := "paternoster/live", byteOffset := 384 }] : Array Field).mapM fun f => do pure (f.offset, ← sizeOf f.type) : Sem (Array (Nat × Nat))).run Tryz.prog w = .ok #[(0, 80), (80, 1)] w := by kernel_rfl
theorem pl166 (w : World) : ((#[{ name := "Code", type := 3, offset := 0, embedded := false, tag := "", pkgPath := "", byteOffset := 0 }, { name := "Placed", type := 4, offset := 1, embedded := false, tag := "", pkgPath := "", byteOffset := 8 }, { name := "Pos", type := 3, offset := 2, embedded := false, tag := "", pkgPath := "", byteOffset := 16 }] : Array Field).mapM fun f => do pure (f.offset, ← sizeOf f.type) : Sem (Array (Nat × Nat))).run Tryz.prog w = .ok #[(0, 1), (1, 1), (2, 1)] w := by kernel_rfl
theorem pl173 (w : World) : ((#[{ name := "Count", type := 2, offset := 0, embedded := false, tag := "", pkgPath := "", byteOffset := 0 }, { name := "Life", type := 2, offset := 1, embedded := false, tag := "", pkgPath := "", byteOffset := 8 }] : Array Field).mapM fun f => do pure (f.offset, ← sizeOf f.type) : Sem (Array (Nat × Nat))).run Tryz.prog w = .ok #[(0, 1), (1, 1)] w := by kernel_rfl
theorem pl175 (w : World) : ((#[{ name := "C", type := 86, offset := 0, embedded := false, tag := "", pkgPath := "", byteOffset := 0 }, { name := "R", type := 173, offset := 1, embedded := false, tag := "", pkgPath := "", byteOffset := 8 }, { name := "Slot", type := 3, offset := 3, embedded := false, tag := "", pkgPath := "", byteOffset := 24 }] : Array Field).mapM fun f => do pure (f.offset, ← sizeOf f.type) : Sem (Array (Nat × Nat))).run Tryz.prog w = .ok #[(0, 1), (1, 2), (3, 1)] w := by kernel_rfl
theorem pl183 (w : World) : ((#[{ name := "Floor", type := 2, offset := 0, embedded := false, tag := "", pkgPath := "", byteOffset := 0 }, { name := "E", type := 35, offset := 1, embedded := false, tag := "", pkgPath := "", byteOffset := 8 }, { name := "Hop", type := 2, offset := 3, embedded := false, tag := "", pkgPath := "", byteOffset := 24 }] : Array Field).mapM fun f => do pure (f.offset, ← sizeOf f.type) : Sem (Array (Nat × Nat))).run Tryz.prog w = .ok #[(0, 1), (1, 2), (3, 1)] w := by kernel_rfl
theorem pl185 (w : World) : ((#[{ name := "Car", type := 3, offset := 0, embedded := false, tag := "", pkgPath := "", byteOffset := 0 }, { name := "Cars", type := 3, offset := 1, embedded := false, tag := "", pkgPath := "", byteOffset := 8 }, { name := "Out", type := 4, offset := 2, embedded := false, tag := "", pkgPath := "", byteOffset := 16 }, { name := "Any", type := 4, offset := 3, embedded := false, tag := "", pkgPath := "", byteOffset := 17 }, { name := "Alive", type := 36, offset := 4, embedded := false, tag := "", pkgPath := "", byteOffset := 24 }, { name := "Ring", type := 36, offset := 5, embedded := false, tag := "", pkgPath := "", byteOffset := 48 }, { name := "Since", type := 3, offset := 6, embedded := false, tag := "", pkgPath := "", byteOffset := 72 }, { name := "Found", type := 3, offset := 7, embedded := false, tag := "", pkgPath := "", byteOffset := 80 }] : Array Field).mapM fun f => do pure (f.offset, ← sizeOf f.type) : Sem (Array (Nat × Nat))).run Tryz.prog w = .ok #[(0, 1), (1, 1), (2, 1), (3, 1), (4, 1), (5, 1), (6, 1), (7, 1)] w := by kernel_rfl
theorem pl205 (w : World) : ((#[{ name := "e", type := 35, offset := 0, embedded := false, tag := "", pkgPath := "paternoster/gate", byteOffset := 0 }, { name := "hop", type := 2, offset := 2, embedded := false, tag := "", pkgPath := "paternoster/gate", byteOffset := 16 }, { name := "floor", type := 2, offset := 3, embedded := false, tag := "", pkgPath := "paternoster/gate", byteOffset := 24 }] : Array Field).mapM fun f => do pure (f.offset, ← sizeOf f.type) : Sem (Array (Nat × Nat))).run Tryz.prog w = .ok #[(0, 2), (2, 1), (3, 1)] w := by kernel_rfl
theorem pl207 (w : World) : ((#[{ name := "c", type := 45, offset := 0, embedded := false, tag := "", pkgPath := "paternoster/store", byteOffset := 0 }, { name := "r", type := 134, offset := 1, embedded := false, tag := "", pkgPath := "paternoster/store", byteOffset := 8 }, { name := "at", type := 3, offset := 3, embedded := false, tag := "", pkgPath := "paternoster/store", byteOffset := 24 }] : Array Field).mapM fun f => do pure (f.offset, ← sizeOf f.type) : Sem (Array (Nat × Nat))).run Tryz.prog w = .ok #[(0, 1), (1, 2), (3, 1)] w := by kernel_rfl
theorem pl213 (w : World) : ((#[{ name := "Car", type := 211, offset := 0, embedded := false, tag := "", pkgPath := "", byteOffset := 0 }, { name := "Up", type := 211, offset := 1, embedded := false, tag := "", pkgPath := "", byteOffset := 8 }, { name := "Down", type := 211, offset := 2, embedded := false, tag := "", pkgPath := "", byteOffset := 16 }] : Array Field).mapM fun f => do pure (f.offset, ← sizeOf f.type) : Sem (Array (Nat × Nat))).run Tryz.prog w = .ok #[(0, 1), (1, 1), (2, 1)] w := by kernel_rfl
theorem pl232 (w : World) : ((#[{ name := "Opened", type := 4, offset := 0, embedded := false, tag := "", pkgPath := "", byteOffset := 0 }, { name := "Closed", type := 4, offset := 1, embedded := false, tag := "", pkgPath := "", byteOffset := 1 }, { name := "Floor", type := 3, offset := 2, embedded := false, tag := "", pkgPath := "", byteOffset := 8 }, { name := "Lantern", type := 3, offset := 3, embedded := false, tag := "", pkgPath := "", byteOffset := 16 }, { name := "Moved", type := 3, offset := 4, embedded := false, tag := "", pkgPath := "", byteOffset := 24 }, { name := "Stops", type := 213, offset := 5, embedded := false, tag := "", pkgPath := "", byteOffset := 32 }] : Array Field).mapM fun f => do pure (f.offset, ← sizeOf f.type) : Sem (Array (Nat × Nat))).run Tryz.prog w = .ok #[(0, 1), (1, 1), (2, 1), (3, 1), (4, 1), (5, 3)] w := by kernel_rfl
theorem pl238 (w : World) : ((#[{ name := "Left", type := 3, offset := 0, embedded := false, tag := "", pkgPath := "", byteOffset := 0 }, { name := "Held", type := 3, offset := 1, embedded := false, tag := "", pkgPath := "", byteOffset := 8 }] : Array Field).mapM fun f => do pure (f.offset, ← sizeOf f.type) : Sem (Array (Nat × Nat))).run Tryz.prog w = .ok #[(0, 1), (1, 1)] w := by kernel_rfl
theorem pl242 (w : World) : ((#[{ name := "Car", type := 3, offset := 0, embedded := false, tag := "", pkgPath := "", byteOffset := 0 }, { name := "Cars", type := 3, offset := 1, embedded := false, tag := "", pkgPath := "", byteOffset := 8 }, { name := "Out", type := 4, offset := 2, embedded := false, tag := "", pkgPath := "", byteOffset := 16 }, { name := "Any", type := 4, offset := 3, embedded := false, tag := "", pkgPath := "", byteOffset := 17 }, { name := "Alive", type := 36, offset := 4, embedded := false, tag := "", pkgPath := "", byteOffset := 24 }, { name := "Ring", type := 36, offset := 5, embedded := false, tag := "", pkgPath := "", byteOffset := 48 }, { name := "Since", type := 3, offset := 6, embedded := false, tag := "", pkgPath := "", byteOffset := 72 }, { name := "Found", type := 3, offset := 7, embedded := false, tag := "", pkgPath := "", byteOffset := 80 }] : Array Field).mapM fun f => do pure (f.offset, ← sizeOf f.type) : Sem (Array (Nat × Nat))).run Tryz.prog w = .ok #[(0, 1), (1, 1), (2, 1), (3, 1), (4, 1), (5, 1), (6, 1), (7, 1)] w := by kernel_rfl
theorem pl261 (w : World) : ((#[{ name := "Car", type := 211, offset := 0, embedded := false, tag := "", pkgPath := "", byteOffset := 0 }, { name := "Up", type := 211, offset := 1, embedded := false, tag := "", pkgPath := "", byteOffset := 8 }, { name := "Down", type := 211, offset := 2, embedded := false, tag := "", pkgPath := "", byteOffset := 16 }] : Array Field).mapM fun f => do pure (f.offset, ← sizeOf f.type) : Sem (Array (Nat × Nat))).run Tryz.prog w = .ok #[(0, 1), (1, 1), (2, 1)] w := by kernel_rfl
theorem pl263 (w : World) : ((#[{ name := "Opened", type := 4, offset := 0, embedded := false, tag := "", pkgPath := "", byteOffset := 0 }, { name := "Closed", type := 4, offset := 1, embedded := false, tag := "", pkgPath := "", byteOffset := 1 }, { name := "Floor", type := 3, offset := 2, embedded := false, tag := "", pkgPath := "", byteOffset := 8 }, { name := "Lantern", type := 3, offset := 3, embedded := false, tag := "", pkgPath := "", byteOffset := 16 }, { name := "Moved", type := 3, offset := 4, embedded := false, tag := "", pkgPath := "", byteOffset := 24 }, { name := "Stops", type := 261, offset := 5, embedded := false, tag := "", pkgPath := "", byteOffset := 32 }] : Array Field).mapM fun f => do pure (f.offset, ← sizeOf f.type) : Sem (Array (Nat × Nat))).run Tryz.prog w = .ok #[(0, 1), (1, 1), (2, 1), (3, 1), (4, 1), (5, 3)] w := by kernel_rfl
theorem pl269 (w : World) : ((#[{ name := "Left", type := 3, offset := 0, embedded := false, tag := "", pkgPath := "", byteOffset := 0 }, { name := "Held", type := 3, offset := 1, embedded := false, tag := "", pkgPath := "", byteOffset := 8 }] : Array Field).mapM fun f => do pure (f.offset, ← sizeOf f.type) : Sem (Array (Nat × Nat))).run Tryz.prog w = .ok #[(0, 1), (1, 1)] w := by kernel_rfl
theorem pl306 (w : World) : ((#[{ name := "h", type := 29, offset := 0, embedded := false, tag := "", pkgPath := "paternoster/eta", byteOffset := 0 }, { name := "c", type := 64, offset := 4, embedded := false, tag := "", pkgPath := "paternoster/eta", byteOffset := 32 }, { name := "s", type := 213, offset := 9, embedded := false, tag := "", pkgPath := "paternoster/eta", byteOffset := 72 }, { name := "to", type := 70, offset := 12, embedded := false, tag := "", pkgPath := "paternoster/eta", byteOffset := 96 }, { name := "once", type := 301, offset := 14, embedded := false, tag := "", pkgPath := "paternoster/eta", byteOffset := 112 }, { name := "ticks", type := 3, offset := 17, embedded := false, tag := "", pkgPath := "paternoster/eta", byteOffset := 128 }, { name := "times", type := 304, offset := 18, embedded := false, tag := "", pkgPath := "paternoster/eta", byteOffset := 136 }] : Array Field).mapM fun f => do pure (f.offset, ← sizeOf f.type) : Sem (Array (Nat × Nat))).run Tryz.prog w = .ok #[(0, 4), (4, 5), (9, 3), (12, 2), (14, 3), (17, 1), (18, 1)] w := by kernel_rfl
theorem pl342 (w : World) : ((#[{ name := "Stop", type := 4, offset := 0, embedded := false, tag := "", pkgPath := "", byteOffset := 0 }, { name := "Dir", type := 3, offset := 1, embedded := false, tag := "", pkgPath := "", byteOffset := 8 }, { name := "Move", type := 3, offset := 2, embedded := false, tag := "", pkgPath := "", byteOffset := 16 }] : Array Field).mapM fun f => do pure (f.offset, ← sizeOf f.type) : Sem (Array (Nat × Nat))).run Tryz.prog w = .ok #[(0, 1), (1, 1), (2, 1)] w := by kernel_rfl
theorem pl368 (w : World) : ((#[{ name := "Stop", type := 4, offset := 0, embedded := false, tag := "", pkgPath := "", byteOffset := 0 }, { name := "Dir", type := 3, offset := 1, embedded := false, tag := "", pkgPath := "", byteOffset := 8 }, { name := "Move", type := 3, offset := 2, embedded := false, tag := "", pkgPath := "", byteOffset := 16 }] : Array Field).mapM fun f => do pure (f.offset, ← sizeOf f.type) : Sem (Array (Nat × Nat))).run Tryz.prog w = .ok #[(0, 1), (1, 1), (2, 1)] w := by kernel_rfl
theorem pl451 (w : World) : ((#[{ name := "s", type := 9, offset := 0, embedded := false, tag := "", pkgPath := "errors", byteOffset := 0 }] : Array Field).mapM fun f => do pure (f.offset, ← sizeOf f.type) : Sem (Array (Nat × Nat))).run Tryz.prog w = .ok #[(0, 1)] w := by kernel_rfl
theorem ei3 : eiOk Tryz.prog 3 1 8 = true := by kernel_rfl
theorem ei5 : eiOk Tryz.prog 5 1 1 = true := by kernel_rfl
theorem ei41 : eiOk Tryz.prog 41 11 120 = true := by kernel_rfl
theorem ei70 : eiOk Tryz.prog 70 2 16 = true := by kernel_rfl
theorem ei72 : eiOk Tryz.prog 72 3 24 = true := by kernel_rfl
theorem ei76 : eiOk Tryz.prog 76 9 72 = true := by kernel_rfl
theorem ei81 : eiOk Tryz.prog 81 5 56 = true := by kernel_rfl
theorem ei83 : eiOk Tryz.prog 83 2 16 = true := by kernel_rfl
theorem eg35 : Tryz.prog.eqGuardType Tryz.prog.depth 35 = false := by kernel_rfl
theorem sq35 (a0 a1 b0 b1 : Int) (w : World) : (Op.equalIn 10000 35 (.agg ([.int .i64 a0, .int .i64 a1] : List Value).toArray) (.agg ([.int .i64 b0, .int .i64 b1] : List Value).toArray)).run Tryz.prog w = .ok (decide (a0 = b0) && decide (a1 = b1)) w := by
  have hS : Tryz.prog.underlying 35 = some (.struct (Tryz.prog.fieldsOf 35)) := by kernel_rfl
  have hp : Tryz.prog.stoodInHeld 35 = false := by kernel_rfl
  rw [show (10000 : Nat) = 9999 + 1 from rfl, run_equalIn_agg w 9999 35 _ _ hS hp]
  simp only [Program.fieldsOf, Tryz.underlying35]
  have u2 := Tryz.underlying2; have v2 := Tryz.isAgg2; have z2 := Tryz.sizeOf2
  have u3 := Tryz.underlying3; have v3 := Tryz.isAgg3; have z3 := Tryz.sizeOf3
  go_simp
  by_cases h0 : a0 = b0 <;> by_cases h1 : a1 = b1 <;> simp [*]
theorem sq35d1 (a0 a1 b0 b1 : Int) (w : World) : (Op.equalIn 9999 35 (.agg ([.int .i64 a0, .int .i64 a1] : List Value).toArray) (.agg ([.int .i64 b0, .int .i64 b1] : List Value).toArray)).run Tryz.prog w = .ok (decide (a0 = b0) && decide (a1 = b1)) w := by
  have hS : Tryz.prog.underlying 35 = some (.struct (Tryz.prog.fieldsOf 35)) := by kernel_rfl
  have hp : Tryz.prog.stoodInHeld 35 = false := by kernel_rfl
  rw [show (9999 : Nat) = 9998 + 1 from rfl, run_equalIn_agg w 9998 35 _ _ hS hp]
  simp only [Program.fieldsOf, Tryz.underlying35]
  have u2 := Tryz.underlying2; have v2 := Tryz.isAgg2; have z2 := Tryz.sizeOf2
  have u3 := Tryz.underlying3; have v3 := Tryz.isAgg3; have z3 := Tryz.sizeOf3
  go_simp
  by_cases h0 : a0 = b0 <;> by_cases h1 : a1 = b1 <;> simp [*]
theorem sq35d2 (a0 a1 b0 b1 : Int) (w : World) : (Op.equalIn 9998 35 (.agg ([.int .i64 a0, .int .i64 a1] : List Value).toArray) (.agg ([.int .i64 b0, .int .i64 b1] : List Value).toArray)).run Tryz.prog w = .ok (decide (a0 = b0) && decide (a1 = b1)) w := by
  have hS : Tryz.prog.underlying 35 = some (.struct (Tryz.prog.fieldsOf 35)) := by kernel_rfl
  have hp : Tryz.prog.stoodInHeld 35 = false := by kernel_rfl
  rw [show (9998 : Nat) = 9997 + 1 from rfl, run_equalIn_agg w 9997 35 _ _ hS hp]
  simp only [Program.fieldsOf, Tryz.underlying35]
  have u2 := Tryz.underlying2; have v2 := Tryz.isAgg2; have z2 := Tryz.sizeOf2
  have u3 := Tryz.underlying3; have v3 := Tryz.isAgg3; have z3 := Tryz.sizeOf3
  go_simp
  by_cases h0 : a0 = b0 <;> by_cases h1 : a1 = b1 <;> simp [*]
theorem eg70 : Tryz.prog.eqGuardType Tryz.prog.depth 70 = false := by kernel_rfl
theorem sq70 (a0 a1 b0 b1 : Int) (w : World) : (Op.equalIn 10000 70 (.agg ([.int .i64 a0, .int .i64 a1] : List Value).toArray) (.agg ([.int .i64 b0, .int .i64 b1] : List Value).toArray)).run Tryz.prog w = .ok (decide (a0 = b0) && decide (a1 = b1)) w := by
  have hS : Tryz.prog.underlying 70 = some (.struct (Tryz.prog.fieldsOf 70)) := by kernel_rfl
  have hp : Tryz.prog.stoodInHeld 70 = false := by kernel_rfl
  rw [show (10000 : Nat) = 9999 + 1 from rfl, run_equalIn_agg w 9999 70 _ _ hS hp]
  simp only [Program.fieldsOf, Tryz.underlying70]
  have u3 := Tryz.underlying3; have v3 := Tryz.isAgg3; have z3 := Tryz.sizeOf3
  go_simp
  by_cases h0 : a0 = b0 <;> by_cases h1 : a1 = b1 <;> simp [*]
theorem sq70d1 (a0 a1 b0 b1 : Int) (w : World) : (Op.equalIn 9999 70 (.agg ([.int .i64 a0, .int .i64 a1] : List Value).toArray) (.agg ([.int .i64 b0, .int .i64 b1] : List Value).toArray)).run Tryz.prog w = .ok (decide (a0 = b0) && decide (a1 = b1)) w := by
  have hS : Tryz.prog.underlying 70 = some (.struct (Tryz.prog.fieldsOf 70)) := by kernel_rfl
  have hp : Tryz.prog.stoodInHeld 70 = false := by kernel_rfl
  rw [show (9999 : Nat) = 9998 + 1 from rfl, run_equalIn_agg w 9998 70 _ _ hS hp]
  simp only [Program.fieldsOf, Tryz.underlying70]
  have u3 := Tryz.underlying3; have v3 := Tryz.isAgg3; have z3 := Tryz.sizeOf3
  go_simp
  by_cases h0 : a0 = b0 <;> by_cases h1 : a1 = b1 <;> simp [*]
theorem sq70d2 (a0 a1 b0 b1 : Int) (w : World) : (Op.equalIn 9998 70 (.agg ([.int .i64 a0, .int .i64 a1] : List Value).toArray) (.agg ([.int .i64 b0, .int .i64 b1] : List Value).toArray)).run Tryz.prog w = .ok (decide (a0 = b0) && decide (a1 = b1)) w := by
  have hS : Tryz.prog.underlying 70 = some (.struct (Tryz.prog.fieldsOf 70)) := by kernel_rfl
  have hp : Tryz.prog.stoodInHeld 70 = false := by kernel_rfl
  rw [show (9998 : Nat) = 9997 + 1 from rfl, run_equalIn_agg w 9997 70 _ _ hS hp]
  simp only [Program.fieldsOf, Tryz.underlying70]
  have u3 := Tryz.underlying3; have v3 := Tryz.isAgg3; have z3 := Tryz.sizeOf3
  go_simp
  by_cases h0 : a0 = b0 <;> by_cases h1 : a1 = b1 <;> simp [*]
theorem eg72 : Tryz.prog.eqGuardType Tryz.prog.depth 72 = false := by kernel_rfl
theorem sq72 (a0 a1 a2 b0 b1 b2 : Int) (w : World) : (Op.equalIn 10000 72 (.agg ([.int .i64 a0, .int .i64 a1, .int .i64 a2] : List Value).toArray) (.agg ([.int .i64 b0, .int .i64 b1, .int .i64 b2] : List Value).toArray)).run Tryz.prog w = .ok (decide (a0 = b0) && decide (a1 = b1) && decide (a2 = b2)) w := by
  have hS : Tryz.prog.underlying 72 = some (.struct (Tryz.prog.fieldsOf 72)) := by kernel_rfl
  have hp : Tryz.prog.stoodInHeld 72 = false := by kernel_rfl
  rw [show (10000 : Nat) = 9999 + 1 from rfl, run_equalIn_agg w 9999 72 _ _ hS hp]
  simp only [Program.fieldsOf, Tryz.underlying72]
  have u3 := Tryz.underlying3; have v3 := Tryz.isAgg3; have z3 := Tryz.sizeOf3
  have u70 := Tryz.underlying70; have v70 := Tryz.isAgg70; have z70 := Tryz.sizeOf70
  have e70 := sq70d1
  go_simp
  by_cases h0 : a0 = b0 <;> by_cases h1 : a1 = b1 <;> by_cases h2 : a2 = b2 <;> simp [*]
theorem sq72d1 (a0 a1 a2 b0 b1 b2 : Int) (w : World) : (Op.equalIn 9999 72 (.agg ([.int .i64 a0, .int .i64 a1, .int .i64 a2] : List Value).toArray) (.agg ([.int .i64 b0, .int .i64 b1, .int .i64 b2] : List Value).toArray)).run Tryz.prog w = .ok (decide (a0 = b0) && decide (a1 = b1) && decide (a2 = b2)) w := by
  have hS : Tryz.prog.underlying 72 = some (.struct (Tryz.prog.fieldsOf 72)) := by kernel_rfl
  have hp : Tryz.prog.stoodInHeld 72 = false := by kernel_rfl
  rw [show (9999 : Nat) = 9998 + 1 from rfl, run_equalIn_agg w 9998 72 _ _ hS hp]
  simp only [Program.fieldsOf, Tryz.underlying72]
  have u3 := Tryz.underlying3; have v3 := Tryz.isAgg3; have z3 := Tryz.sizeOf3
  have u70 := Tryz.underlying70; have v70 := Tryz.isAgg70; have z70 := Tryz.sizeOf70
  have e70 := sq70d2
  go_simp
  by_cases h0 : a0 = b0 <;> by_cases h1 : a1 = b1 <;> by_cases h2 : a2 = b2 <;> simp [*]

theorem eg134 : Tryz.prog.eqGuardType Tryz.prog.depth 134 = false := by kernel_rfl
theorem sq134 (a0 a1 b0 b1 : Int) (w : World) : (Op.equalIn 10000 134 (.agg ([.int .i64 a0, .int .i64 a1] : List Value).toArray) (.agg ([.int .i64 b0, .int .i64 b1] : List Value).toArray)).run Tryz.prog w = .ok (decide (a0 = b0) && decide (a1 = b1)) w := by
  have hS : Tryz.prog.underlying 134 = some (.struct (Tryz.prog.fieldsOf 134)) := by kernel_rfl
  have hp : Tryz.prog.stoodInHeld 134 = false := by kernel_rfl
  rw [show (10000 : Nat) = 9999 + 1 from rfl, run_equalIn_agg w 9999 134 _ _ hS hp]
  simp only [Program.fieldsOf, Tryz.underlying134]
  have u2 := Tryz.underlying2; have v2 := Tryz.isAgg2; have z2 := Tryz.sizeOf2
  go_simp
  by_cases h0 : a0 = b0 <;> by_cases h1 : a1 = b1 <;> simp [*]
theorem sq134d1 (a0 a1 b0 b1 : Int) (w : World) : (Op.equalIn 9999 134 (.agg ([.int .i64 a0, .int .i64 a1] : List Value).toArray) (.agg ([.int .i64 b0, .int .i64 b1] : List Value).toArray)).run Tryz.prog w = .ok (decide (a0 = b0) && decide (a1 = b1)) w := by
  have hS : Tryz.prog.underlying 134 = some (.struct (Tryz.prog.fieldsOf 134)) := by kernel_rfl
  have hp : Tryz.prog.stoodInHeld 134 = false := by kernel_rfl
  rw [show (9999 : Nat) = 9998 + 1 from rfl, run_equalIn_agg w 9998 134 _ _ hS hp]
  simp only [Program.fieldsOf, Tryz.underlying134]
  have u2 := Tryz.underlying2; have v2 := Tryz.isAgg2; have z2 := Tryz.sizeOf2
  go_simp
  by_cases h0 : a0 = b0 <;> by_cases h1 : a1 = b1 <;> simp [*]
theorem sq134d2 (a0 a1 b0 b1 : Int) (w : World) : (Op.equalIn 9998 134 (.agg ([.int .i64 a0, .int .i64 a1] : List Value).toArray) (.agg ([.int .i64 b0, .int .i64 b1] : List Value).toArray)).run Tryz.prog w = .ok (decide (a0 = b0) && decide (a1 = b1)) w := by
  have hS : Tryz.prog.underlying 134 = some (.struct (Tryz.prog.fieldsOf 134)) := by kernel_rfl
  have hp : Tryz.prog.stoodInHeld 134 = false := by kernel_rfl
  rw [show (9998 : Nat) = 9997 + 1 from rfl, run_equalIn_agg w 9997 134 _ _ hS hp]
  simp only [Program.fieldsOf, Tryz.underlying134]
  have u2 := Tryz.underlying2; have v2 := Tryz.isAgg2; have z2 := Tryz.sizeOf2
  go_simp
  by_cases h0 : a0 = b0 <;> by_cases h1 : a1 = b1 <;> simp [*]
theorem en8 (xs : Array Value) (w : World) : (callFunc 8 xs).run Tryz.prog w = .ok (.enter 8 xs) w := by kernel_rfl
theorem en9 (xs : Array Value) (w : World) : (callFunc 9 xs).run Tryz.prog w = .ok (.enter 9 xs) w := by kernel_rfl
theorem en10 (xs : Array Value) (w : World) : (callFunc 10 xs).run Tryz.prog w = .ok (.enter 10 xs) w := by kernel_rfl
theorem en11 (xs : Array Value) (w : World) : (callFunc 11 xs).run Tryz.prog w = .ok (.enter 11 xs) w := by kernel_rfl
theorem en12 (xs : Array Value) (w : World) : (callFunc 12 xs).run Tryz.prog w = .ok (.enter 12 xs) w := by kernel_rfl
theorem en13 (xs : Array Value) (w : World) : (callFunc 13 xs).run Tryz.prog w = .ok (.enter 13 xs) w := by kernel_rfl
theorem en14 (xs : Array Value) (w : World) : (callFunc 14 xs).run Tryz.prog w = .ok (.enter 14 xs) w := by kernel_rfl
theorem en15 (xs : Array Value) (w : World) : (callFunc 15 xs).run Tryz.prog w = .ok (.enter 15 xs) w := by kernel_rfl
theorem en16 (xs : Array Value) (w : World) : (callFunc 16 xs).run Tryz.prog w = .ok (.enter 16 xs) w := by kernel_rfl
theorem en17 (xs : Array Value) (w : World) : (callFunc 17 xs).run Tryz.prog w = .ok (.enter 17 xs) w := by kernel_rfl
theorem en18 (xs : Array Value) (w : World) : (callFunc 18 xs).run Tryz.prog w = .ok (.enter 18 xs) w := by kernel_rfl
theorem en19 (xs : Array Value) (w : World) : (callFunc 19 xs).run Tryz.prog w = .ok (.enter 19 xs) w := by kernel_rfl
theorem en20 (xs : Array Value) (w : World) : (callFunc 20 xs).run Tryz.prog w = .ok (.enter 20 xs) w := by kernel_rfl
theorem en21 (xs : Array Value) (w : World) : (callFunc 21 xs).run Tryz.prog w = .ok (.enter 21 xs) w := by kernel_rfl
theorem en22 (xs : Array Value) (w : World) : (callFunc 22 xs).run Tryz.prog w = .ok (.enter 22 xs) w := by kernel_rfl
theorem en23 (xs : Array Value) (w : World) : (callFunc 23 xs).run Tryz.prog w = .ok (.enter 23 xs) w := by kernel_rfl
theorem en24 (xs : Array Value) (w : World) : (callFunc 24 xs).run Tryz.prog w = .ok (.enter 24 xs) w := by kernel_rfl
theorem en25 (xs : Array Value) (w : World) : (callFunc 25 xs).run Tryz.prog w = .ok (.enter 25 xs) w := by kernel_rfl
theorem en26 (xs : Array Value) (w : World) : (callFunc 26 xs).run Tryz.prog w = .ok (.enter 26 xs) w := by kernel_rfl
theorem en27 (xs : Array Value) (w : World) : (callFunc 27 xs).run Tryz.prog w = .ok (.enter 27 xs) w := by kernel_rfl
theorem en28 (xs : Array Value) (w : World) : (callFunc 28 xs).run Tryz.prog w = .ok (.enter 28 xs) w := by kernel_rfl
theorem en29 (xs : Array Value) (w : World) : (callFunc 29 xs).run Tryz.prog w = .ok (.enter 29 xs) w := by kernel_rfl
theorem en30 (xs : Array Value) (w : World) : (callFunc 30 xs).run Tryz.prog w = .ok (.enter 30 xs) w := by kernel_rfl
theorem en31 (xs : Array Value) (w : World) : (callFunc 31 xs).run Tryz.prog w = .ok (.enter 31 xs) w := by kernel_rfl
theorem en32 (xs : Array Value) (w : World) : (callFunc 32 xs).run Tryz.prog w = .ok (.enter 32 xs) w := by kernel_rfl
theorem en33 (xs : Array Value) (w : World) : (callFunc 33 xs).run Tryz.prog w = .ok (.enter 33 xs) w := by kernel_rfl
theorem en34 (xs : Array Value) (w : World) : (callFunc 34 xs).run Tryz.prog w = .ok (.enter 34 xs) w := by kernel_rfl
theorem en35 (xs : Array Value) (w : World) : (callFunc 35 xs).run Tryz.prog w = .ok (.enter 35 xs) w := by kernel_rfl
theorem en36 (xs : Array Value) (w : World) : (callFunc 36 xs).run Tryz.prog w = .ok (.enter 36 xs) w := by kernel_rfl
theorem en37 (xs : Array Value) (w : World) : (callFunc 37 xs).run Tryz.prog w = .ok (.enter 37 xs) w := by kernel_rfl
theorem en38 (xs : Array Value) (w : World) : (callFunc 38 xs).run Tryz.prog w = .ok (.enter 38 xs) w := by kernel_rfl
theorem en39 (xs : Array Value) (w : World) : (callFunc 39 xs).run Tryz.prog w = .ok (.enter 39 xs) w := by kernel_rfl
theorem en40 (xs : Array Value) (w : World) : (callFunc 40 xs).run Tryz.prog w = .ok (.enter 40 xs) w := by kernel_rfl
theorem en41 (xs : Array Value) (w : World) : (callFunc 41 xs).run Tryz.prog w = .ok (.enter 41 xs) w := by kernel_rfl
theorem en42 (xs : Array Value) (w : World) : (callFunc 42 xs).run Tryz.prog w = .ok (.enter 42 xs) w := by kernel_rfl
theorem en43 (xs : Array Value) (w : World) : (callFunc 43 xs).run Tryz.prog w = .ok (.enter 43 xs) w := by kernel_rfl
theorem en44 (xs : Array Value) (w : World) : (callFunc 44 xs).run Tryz.prog w = .ok (.enter 44 xs) w := by kernel_rfl
theorem en45 (xs : Array Value) (w : World) : (callFunc 45 xs).run Tryz.prog w = .ok (.enter 45 xs) w := by kernel_rfl
theorem en46 (xs : Array Value) (w : World) : (callFunc 46 xs).run Tryz.prog w = .ok (.enter 46 xs) w := by kernel_rfl
theorem en47 (xs : Array Value) (w : World) : (callFunc 47 xs).run Tryz.prog w = .ok (.enter 47 xs) w := by kernel_rfl
theorem en48 (xs : Array Value) (w : World) : (callFunc 48 xs).run Tryz.prog w = .ok (.enter 48 xs) w := by kernel_rfl
theorem en49 (xs : Array Value) (w : World) : (callFunc 49 xs).run Tryz.prog w = .ok (.enter 49 xs) w := by kernel_rfl
theorem en50 (xs : Array Value) (w : World) : (callFunc 50 xs).run Tryz.prog w = .ok (.enter 50 xs) w := by kernel_rfl
theorem en51 (xs : Array Value) (w : World) : (callFunc 51 xs).run Tryz.prog w = .ok (.enter 51 xs) w := by kernel_rfl
theorem en52 (xs : Array Value) (w : World) : (callFunc 52 xs).run Tryz.prog w = .ok (.enter 52 xs) w := by kernel_rfl
theorem en53 (xs : Array Value) (w : World) : (callFunc 53 xs).run Tryz.prog w = .ok (.enter 53 xs) w := by kernel_rfl
theorem en54 (xs : Array Value) (w : World) : (callFunc 54 xs).run Tryz.prog w = .ok (.enter 54 xs) w := by kernel_rfl
theorem en55 (xs : Array Value) (w : World) : (callFunc 55 xs).run Tryz.prog w = .ok (.enter 55 xs) w := by kernel_rfl
theorem en56 (xs : Array Value) (w : World) : (callFunc 56 xs).run Tryz.prog w = .ok (.enter 56 xs) w := by kernel_rfl
theorem en57 (xs : Array Value) (w : World) : (callFunc 57 xs).run Tryz.prog w = .ok (.enter 57 xs) w := by kernel_rfl
theorem en58 (xs : Array Value) (w : World) : (callFunc 58 xs).run Tryz.prog w = .ok (.enter 58 xs) w := by kernel_rfl
theorem en59 (xs : Array Value) (w : World) : (callFunc 59 xs).run Tryz.prog w = .ok (.enter 59 xs) w := by kernel_rfl
theorem en60 (xs : Array Value) (w : World) : (callFunc 60 xs).run Tryz.prog w = .ok (.enter 60 xs) w := by kernel_rfl
theorem en61 (xs : Array Value) (w : World) : (callFunc 61 xs).run Tryz.prog w = .ok (.enter 61 xs) w := by kernel_rfl
theorem en62 (xs : Array Value) (w : World) : (callFunc 62 xs).run Tryz.prog w = .ok (.enter 62 xs) w := by kernel_rfl
theorem en63 (xs : Array Value) (w : World) : (callFunc 63 xs).run Tryz.prog w = .ok (.enter 63 xs) w := by kernel_rfl
theorem en64 (xs : Array Value) (w : World) : (callFunc 64 xs).run Tryz.prog w = .ok (.enter 64 xs) w := by kernel_rfl
theorem en65 (xs : Array Value) (w : World) : (callFunc 65 xs).run Tryz.prog w = .ok (.enter 65 xs) w := by kernel_rfl
theorem en66 (xs : Array Value) (w : World) : (callFunc 66 xs).run Tryz.prog w = .ok (.enter 66 xs) w := by kernel_rfl
theorem en67 (xs : Array Value) (w : World) : (callFunc 67 xs).run Tryz.prog w = .ok (.enter 67 xs) w := by kernel_rfl
theorem en68 (xs : Array Value) (w : World) : (callFunc 68 xs).run Tryz.prog w = .ok (.enter 68 xs) w := by kernel_rfl
theorem en69 (xs : Array Value) (w : World) : (callFunc 69 xs).run Tryz.prog w = .ok (.enter 69 xs) w := by kernel_rfl
theorem en70 (xs : Array Value) (w : World) : (callFunc 70 xs).run Tryz.prog w = .ok (.enter 70 xs) w := by kernel_rfl
theorem en71 (xs : Array Value) (w : World) : (callFunc 71 xs).run Tryz.prog w = .ok (.enter 71 xs) w := by kernel_rfl
theorem en72 (xs : Array Value) (w : World) : (callFunc 72 xs).run Tryz.prog w = .ok (.enter 72 xs) w := by kernel_rfl
theorem en73 (xs : Array Value) (w : World) : (callFunc 73 xs).run Tryz.prog w = .ok (.enter 73 xs) w := by kernel_rfl
theorem en74 (xs : Array Value) (w : World) : (callFunc 74 xs).run Tryz.prog w = .ok (.enter 74 xs) w := by kernel_rfl
theorem en75 (xs : Array Value) (w : World) : (callFunc 75 xs).run Tryz.prog w = .ok (.enter 75 xs) w := by kernel_rfl
theorem en76 (xs : Array Value) (w : World) : (callFunc 76 xs).run Tryz.prog w = .ok (.enter 76 xs) w := by kernel_rfl
theorem en77 (xs : Array Value) (w : World) : (callFunc 77 xs).run Tryz.prog w = .ok (.enter 77 xs) w := by kernel_rfl
theorem en78 (xs : Array Value) (w : World) : (callFunc 78 xs).run Tryz.prog w = .ok (.enter 78 xs) w := by kernel_rfl
theorem en79 (xs : Array Value) (w : World) : (callFunc 79 xs).run Tryz.prog w = .ok (.enter 79 xs) w := by kernel_rfl
theorem en80 (xs : Array Value) (w : World) : (callFunc 80 xs).run Tryz.prog w = .ok (.enter 80 xs) w := by kernel_rfl
theorem en81 (xs : Array Value) (w : World) : (callFunc 81 xs).run Tryz.prog w = .ok (.enter 81 xs) w := by kernel_rfl
theorem en82 (xs : Array Value) (w : World) : (callFunc 82 xs).run Tryz.prog w = .ok (.enter 82 xs) w := by kernel_rfl
theorem en83 (xs : Array Value) (w : World) : (callFunc 83 xs).run Tryz.prog w = .ok (.enter 83 xs) w := by kernel_rfl
theorem en84 (xs : Array Value) (w : World) : (callFunc 84 xs).run Tryz.prog w = .ok (.enter 84 xs) w := by kernel_rfl
theorem en85 (xs : Array Value) (w : World) : (callFunc 85 xs).run Tryz.prog w = .ok (.enter 85 xs) w := by kernel_rfl
theorem en86 (xs : Array Value) (w : World) : (callFunc 86 xs).run Tryz.prog w = .ok (.enter 86 xs) w := by kernel_rfl
theorem en87 (xs : Array Value) (w : World) : (callFunc 87 xs).run Tryz.prog w = .ok (.enter 87 xs) w := by kernel_rfl
theorem en88 (xs : Array Value) (w : World) : (callFunc 88 xs).run Tryz.prog w = .ok (.enter 88 xs) w := by kernel_rfl
theorem en89 (xs : Array Value) (w : World) : (callFunc 89 xs).run Tryz.prog w = .ok (.enter 89 xs) w := by kernel_rfl
theorem en90 (xs : Array Value) (w : World) : (callFunc 90 xs).run Tryz.prog w = .ok (.enter 90 xs) w := by kernel_rfl
theorem en91 (xs : Array Value) (w : World) : (callFunc 91 xs).run Tryz.prog w = .ok (.enter 91 xs) w := by kernel_rfl
theorem en92 (xs : Array Value) (w : World) : (callFunc 92 xs).run Tryz.prog w = .ok (.enter 92 xs) w := by kernel_rfl
theorem en93 (xs : Array Value) (w : World) : (callFunc 93 xs).run Tryz.prog w = .ok (.enter 93 xs) w := by kernel_rfl
theorem en94 (xs : Array Value) (w : World) : (callFunc 94 xs).run Tryz.prog w = .ok (.enter 94 xs) w := by kernel_rfl
theorem en95 (xs : Array Value) (w : World) : (callFunc 95 xs).run Tryz.prog w = .ok (.enter 95 xs) w := by kernel_rfl
theorem en96 (xs : Array Value) (w : World) : (callFunc 96 xs).run Tryz.prog w = .ok (.enter 96 xs) w := by kernel_rfl
theorem en97 (xs : Array Value) (w : World) : (callFunc 97 xs).run Tryz.prog w = .ok (.enter 97 xs) w := by kernel_rfl
theorem en98 (xs : Array Value) (w : World) : (callFunc 98 xs).run Tryz.prog w = .ok (.enter 98 xs) w := by kernel_rfl
theorem en99 (xs : Array Value) (w : World) : (callFunc 99 xs).run Tryz.prog w = .ok (.enter 99 xs) w := by kernel_rfl
theorem en100 (xs : Array Value) (w : World) : (callFunc 100 xs).run Tryz.prog w = .ok (.enter 100 xs) w := by kernel_rfl
theorem en101 (xs : Array Value) (w : World) : (callFunc 101 xs).run Tryz.prog w = .ok (.enter 101 xs) w := by kernel_rfl
theorem en102 (xs : Array Value) (w : World) : (callFunc 102 xs).run Tryz.prog w = .ok (.enter 102 xs) w := by kernel_rfl
theorem en103 (xs : Array Value) (w : World) : (callFunc 103 xs).run Tryz.prog w = .ok (.enter 103 xs) w := by kernel_rfl
theorem en104 (xs : Array Value) (w : World) : (callFunc 104 xs).run Tryz.prog w = .ok (.enter 104 xs) w := by kernel_rfl
theorem en105 (xs : Array Value) (w : World) : (callFunc 105 xs).run Tryz.prog w = .ok (.enter 105 xs) w := by kernel_rfl
theorem en106 (xs : Array Value) (w : World) : (callFunc 106 xs).run Tryz.prog w = .ok (.enter 106 xs) w := by kernel_rfl
theorem en107 (xs : Array Value) (w : World) : (callFunc 107 xs).run Tryz.prog w = .ok (.enter 107 xs) w := by kernel_rfl
theorem en108 (xs : Array Value) (w : World) : (callFunc 108 xs).run Tryz.prog w = .ok (.enter 108 xs) w := by kernel_rfl
theorem en109 (xs : Array Value) (w : World) : (callFunc 109 xs).run Tryz.prog w = .ok (.enter 109 xs) w := by kernel_rfl
theorem en110 (xs : Array Value) (w : World) : (callFunc 110 xs).run Tryz.prog w = .ok (.enter 110 xs) w := by kernel_rfl
theorem en111 (xs : Array Value) (w : World) : (callFunc 111 xs).run Tryz.prog w = .ok (.enter 111 xs) w := by kernel_rfl
theorem en112 (xs : Array Value) (w : World) : (callFunc 112 xs).run Tryz.prog w = .ok (.enter 112 xs) w := by kernel_rfl
theorem en113 (xs : Array Value) (w : World) : (callFunc 113 xs).run Tryz.prog w = .ok (.enter 113 xs) w := by kernel_rfl
theorem en114 (xs : Array Value) (w : World) : (callFunc 114 xs).run Tryz.prog w = .ok (.enter 114 xs) w := by kernel_rfl
theorem en115 (xs : Array Value) (w : World) : (callFunc 115 xs).run Tryz.prog w = .ok (.enter 115 xs) w := by kernel_rfl
theorem en116 (xs : Array Value) (w : World) : (callFunc 116 xs).run Tryz.prog w = .ok (.enter 116 xs) w := by kernel_rfl
theorem en117 (xs : Array Value) (w : World) : (callFunc 117 xs).run Tryz.prog w = .ok (.enter 117 xs) w := by kernel_rfl
theorem en118 (xs : Array Value) (w : World) : (callFunc 118 xs).run Tryz.prog w = .ok (.enter 118 xs) w := by kernel_rfl
theorem en119 (xs : Array Value) (w : World) : (callFunc 119 xs).run Tryz.prog w = .ok (.enter 119 xs) w := by kernel_rfl
theorem en120 (xs : Array Value) (w : World) : (callFunc 120 xs).run Tryz.prog w = .ok (.enter 120 xs) w := by kernel_rfl
theorem en121 (xs : Array Value) (w : World) : (callFunc 121 xs).run Tryz.prog w = .ok (.enter 121 xs) w := by kernel_rfl
theorem en122 (xs : Array Value) (w : World) : (callFunc 122 xs).run Tryz.prog w = .ok (.enter 122 xs) w := by kernel_rfl
theorem en123 (xs : Array Value) (w : World) : (callFunc 123 xs).run Tryz.prog w = .ok (.enter 123 xs) w := by kernel_rfl
theorem en124 (xs : Array Value) (w : World) : (callFunc 124 xs).run Tryz.prog w = .ok (.enter 124 xs) w := by kernel_rfl
theorem en125 (xs : Array Value) (w : World) : (callFunc 125 xs).run Tryz.prog w = .ok (.enter 125 xs) w := by kernel_rfl
theorem en126 (xs : Array Value) (w : World) : (callFunc 126 xs).run Tryz.prog w = .ok (.enter 126 xs) w := by kernel_rfl
theorem en127 (xs : Array Value) (w : World) : (callFunc 127 xs).run Tryz.prog w = .ok (.enter 127 xs) w := by kernel_rfl
theorem en128 (xs : Array Value) (w : World) : (callFunc 128 xs).run Tryz.prog w = .ok (.enter 128 xs) w := by kernel_rfl
theorem en129 (xs : Array Value) (w : World) : (callFunc 129 xs).run Tryz.prog w = .ok (.enter 129 xs) w := by kernel_rfl
theorem en130 (xs : Array Value) (w : World) : (callFunc 130 xs).run Tryz.prog w = .ok (.enter 130 xs) w := by kernel_rfl
theorem en131 (xs : Array Value) (w : World) : (callFunc 131 xs).run Tryz.prog w = .ok (.enter 131 xs) w := by kernel_rfl
theorem en132 (xs : Array Value) (w : World) : (callFunc 132 xs).run Tryz.prog w = .ok (.enter 132 xs) w := by kernel_rfl
theorem en133 (xs : Array Value) (w : World) : (callFunc 133 xs).run Tryz.prog w = .ok (.enter 133 xs) w := by kernel_rfl
theorem en134 (xs : Array Value) (w : World) : (callFunc 134 xs).run Tryz.prog w = .ok (.enter 134 xs) w := by kernel_rfl
theorem en135 (xs : Array Value) (w : World) : (callFunc 135 xs).run Tryz.prog w = .ok (.enter 135 xs) w := by kernel_rfl
theorem en136 (xs : Array Value) (w : World) : (callFunc 136 xs).run Tryz.prog w = .ok (.enter 136 xs) w := by kernel_rfl
theorem en137 (xs : Array Value) (w : World) : (callFunc 137 xs).run Tryz.prog w = .ok (.enter 137 xs) w := by kernel_rfl
theorem en138 (xs : Array Value) (w : World) : (callFunc 138 xs).run Tryz.prog w = .ok (.enter 138 xs) w := by kernel_rfl
theorem en139 (xs : Array Value) (w : World) : (callFunc 139 xs).run Tryz.prog w = .ok (.enter 139 xs) w := by kernel_rfl
theorem en140 (xs : Array Value) (w : World) : (callFunc 140 xs).run Tryz.prog w = .ok (.enter 140 xs) w := by kernel_rfl
theorem en141 (xs : Array Value) (w : World) : (callFunc 141 xs).run Tryz.prog w = .ok (.enter 141 xs) w := by kernel_rfl
theorem en142 (xs : Array Value) (w : World) : (callFunc 142 xs).run Tryz.prog w = .ok (.enter 142 xs) w := by kernel_rfl
theorem en143 (xs : Array Value) (w : World) : (callFunc 143 xs).run Tryz.prog w = .ok (.enter 143 xs) w := by kernel_rfl
theorem en144 (xs : Array Value) (w : World) : (callFunc 144 xs).run Tryz.prog w = .ok (.enter 144 xs) w := by kernel_rfl
theorem en145 (xs : Array Value) (w : World) : (callFunc 145 xs).run Tryz.prog w = .ok (.enter 145 xs) w := by kernel_rfl
theorem en146 (xs : Array Value) (w : World) : (callFunc 146 xs).run Tryz.prog w = .ok (.enter 146 xs) w := by kernel_rfl
theorem en147 (xs : Array Value) (w : World) : (callFunc 147 xs).run Tryz.prog w = .ok (.enter 147 xs) w := by kernel_rfl
theorem en148 (xs : Array Value) (w : World) : (callFunc 148 xs).run Tryz.prog w = .ok (.enter 148 xs) w := by kernel_rfl
theorem en149 (xs : Array Value) (w : World) : (callFunc 149 xs).run Tryz.prog w = .ok (.enter 149 xs) w := by kernel_rfl
theorem en150 (xs : Array Value) (w : World) : (callFunc 150 xs).run Tryz.prog w = .ok (.enter 150 xs) w := by kernel_rfl
theorem en151 (xs : Array Value) (w : World) : (callFunc 151 xs).run Tryz.prog w = .ok (.enter 151 xs) w := by kernel_rfl
theorem en152 (xs : Array Value) (w : World) : (callFunc 152 xs).run Tryz.prog w = .ok (.enter 152 xs) w := by kernel_rfl
theorem en153 (xs : Array Value) (w : World) : (callFunc 153 xs).run Tryz.prog w = .ok (.enter 153 xs) w := by kernel_rfl
theorem en154 (xs : Array Value) (w : World) : (callFunc 154 xs).run Tryz.prog w = .ok (.enter 154 xs) w := by kernel_rfl
theorem en155 (xs : Array Value) (w : World) : (callFunc 155 xs).run Tryz.prog w = .ok (.enter 155 xs) w := by kernel_rfl
theorem en156 (xs : Array Value) (w : World) : (callFunc 156 xs).run Tryz.prog w = .ok (.enter 156 xs) w := by kernel_rfl
theorem en157 (xs : Array Value) (w : World) : (callFunc 157 xs).run Tryz.prog w = .ok (.enter 157 xs) w := by kernel_rfl
theorem en158 (xs : Array Value) (w : World) : (callFunc 158 xs).run Tryz.prog w = .ok (.enter 158 xs) w := by kernel_rfl
theorem en159 (xs : Array Value) (w : World) : (callFunc 159 xs).run Tryz.prog w = .ok (.enter 159 xs) w := by kernel_rfl
theorem en161 (xs : Array Value) (w : World) : (callFunc 161 xs).run Tryz.prog w = .ok (.enter 161 xs) w := by kernel_rfl
theorem en162 (xs : Array Value) (w : World) : (callFunc 162 xs).run Tryz.prog w = .ok (.enter 162 xs) w := by kernel_rfl
theorem en163 (xs : Array Value) (w : World) : (callFunc 163 xs).run Tryz.prog w = .ok (.enter 163 xs) w := by kernel_rfl
theorem en164 (xs : Array Value) (w : World) : (callFunc 164 xs).run Tryz.prog w = .ok (.enter 164 xs) w := by kernel_rfl
theorem en165 (xs : Array Value) (w : World) : (callFunc 165 xs).run Tryz.prog w = .ok (.enter 165 xs) w := by kernel_rfl
theorem en166 (xs : Array Value) (w : World) : (callFunc 166 xs).run Tryz.prog w = .ok (.enter 166 xs) w := by kernel_rfl
theorem en167 (xs : Array Value) (w : World) : (callFunc 167 xs).run Tryz.prog w = .ok (.enter 167 xs) w := by kernel_rfl
theorem en168 (xs : Array Value) (w : World) : (callFunc 168 xs).run Tryz.prog w = .ok (.enter 168 xs) w := by kernel_rfl
theorem en169 (xs : Array Value) (w : World) : (callFunc 169 xs).run Tryz.prog w = .ok (.enter 169 xs) w := by kernel_rfl
theorem en170 (xs : Array Value) (w : World) : (callFunc 170 xs).run Tryz.prog w = .ok (.enter 170 xs) w := by kernel_rfl
theorem en171 (xs : Array Value) (w : World) : (callFunc 171 xs).run Tryz.prog w = .ok (.enter 171 xs) w := by kernel_rfl
theorem en172 (xs : Array Value) (w : World) : (callFunc 172 xs).run Tryz.prog w = .ok (.enter 172 xs) w := by kernel_rfl
theorem en173 (xs : Array Value) (w : World) : (callFunc 173 xs).run Tryz.prog w = .ok (.enter 173 xs) w := by kernel_rfl
theorem en174 (xs : Array Value) (w : World) : (callFunc 174 xs).run Tryz.prog w = .ok (.enter 174 xs) w := by kernel_rfl
theorem en175 (xs : Array Value) (w : World) : (callFunc 175 xs).run Tryz.prog w = .ok (.enter 175 xs) w := by kernel_rfl
theorem en176 (xs : Array Value) (w : World) : (callFunc 176 xs).run Tryz.prog w = .ok (.enter 176 xs) w := by kernel_rfl
theorem en177 (xs : Array Value) (w : World) : (callFunc 177 xs).run Tryz.prog w = .ok (.enter 177 xs) w := by kernel_rfl
theorem en178 (xs : Array Value) (w : World) : (callFunc 178 xs).run Tryz.prog w = .ok (.enter 178 xs) w := by kernel_rfl
theorem en179 (xs : Array Value) (w : World) : (callFunc 179 xs).run Tryz.prog w = .ok (.enter 179 xs) w := by kernel_rfl
theorem en180 (xs : Array Value) (w : World) : (callFunc 180 xs).run Tryz.prog w = .ok (.enter 180 xs) w := by kernel_rfl
theorem en181 (xs : Array Value) (w : World) : (callFunc 181 xs).run Tryz.prog w = .ok (.enter 181 xs) w := by kernel_rfl
theorem en182 (xs : Array Value) (w : World) : (callFunc 182 xs).run Tryz.prog w = .ok (.enter 182 xs) w := by kernel_rfl
theorem en183 (xs : Array Value) (w : World) : (callFunc 183 xs).run Tryz.prog w = .ok (.enter 183 xs) w := by kernel_rfl
theorem en184 (xs : Array Value) (w : World) : (callFunc 184 xs).run Tryz.prog w = .ok (.enter 184 xs) w := by kernel_rfl
theorem en185 (xs : Array Value) (w : World) : (callFunc 185 xs).run Tryz.prog w = .ok (.enter 185 xs) w := by kernel_rfl
theorem en186 (xs : Array Value) (w : World) : (callFunc 186 xs).run Tryz.prog w = .ok (.enter 186 xs) w := by kernel_rfl
theorem en187 (xs : Array Value) (w : World) : (callFunc 187 xs).run Tryz.prog w = .ok (.enter 187 xs) w := by kernel_rfl
theorem en188 (xs : Array Value) (w : World) : (callFunc 188 xs).run Tryz.prog w = .ok (.enter 188 xs) w := by kernel_rfl
theorem en189 (xs : Array Value) (w : World) : (callFunc 189 xs).run Tryz.prog w = .ok (.enter 189 xs) w := by kernel_rfl
theorem en190 (xs : Array Value) (w : World) : (callFunc 190 xs).run Tryz.prog w = .ok (.enter 190 xs) w := by kernel_rfl
theorem en191 (xs : Array Value) (w : World) : (callFunc 191 xs).run Tryz.prog w = .ok (.enter 191 xs) w := by kernel_rfl
theorem en192 (xs : Array Value) (w : World) : (callFunc 192 xs).run Tryz.prog w = .ok (.enter 192 xs) w := by kernel_rfl
theorem en193 (xs : Array Value) (w : World) : (callFunc 193 xs).run Tryz.prog w = .ok (.enter 193 xs) w := by kernel_rfl
theorem en195 (xs : Array Value) (w : World) : (callFunc 195 xs).run Tryz.prog w = .ok (.enter 195 xs) w := by kernel_rfl
theorem en196 (xs : Array Value) (w : World) : (callFunc 196 xs).run Tryz.prog w = .ok (.enter 196 xs) w := by kernel_rfl
theorem en197 (xs : Array Value) (w : World) : (callFunc 197 xs).run Tryz.prog w = .ok (.enter 197 xs) w := by kernel_rfl
theorem en198 (xs : Array Value) (w : World) : (callFunc 198 xs).run Tryz.prog w = .ok (.enter 198 xs) w := by kernel_rfl
theorem en199 (xs : Array Value) (w : World) : (callFunc 199 xs).run Tryz.prog w = .ok (.enter 199 xs) w := by kernel_rfl
theorem en200 (xs : Array Value) (w : World) : (callFunc 200 xs).run Tryz.prog w = .ok (.enter 200 xs) w := by kernel_rfl
theorem en201 (xs : Array Value) (w : World) : (callFunc 201 xs).run Tryz.prog w = .ok (.enter 201 xs) w := by kernel_rfl
theorem en203 (xs : Array Value) (w : World) : (callFunc 203 xs).run Tryz.prog w = .ok (.enter 203 xs) w := by kernel_rfl
theorem en204 (xs : Array Value) (w : World) : (callFunc 204 xs).run Tryz.prog w = .ok (.enter 204 xs) w := by kernel_rfl
theorem en205 (xs : Array Value) (w : World) : (callFunc 205 xs).run Tryz.prog w = .ok (.enter 205 xs) w := by kernel_rfl
theorem en206 (xs : Array Value) (w : World) : (callFunc 206 xs).run Tryz.prog w = .ok (.enter 206 xs) w := by kernel_rfl
theorem en208 (xs : Array Value) (w : World) : (callFunc 208 xs).run Tryz.prog w = .ok (.enter 208 xs) w := by kernel_rfl
theorem en209 (xs : Array Value) (w : World) : (callFunc 209 xs).run Tryz.prog w = .ok (.enter 209 xs) w := by kernel_rfl
theorem en210 (xs : Array Value) (w : World) : (callFunc 210 xs).run Tryz.prog w = .ok (.enter 210 xs) w := by kernel_rfl
theorem en212 (xs : Array Value) (w : World) : (callFunc 212 xs).run Tryz.prog w = .ok (.enter 212 xs) w := by kernel_rfl
theorem en213 (xs : Array Value) (w : World) : (callFunc 213 xs).run Tryz.prog w = .ok (.enter 213 xs) w := by kernel_rfl
theorem en214 (xs : Array Value) (w : World) : (callFunc 214 xs).run Tryz.prog w = .ok (.enter 214 xs) w := by kernel_rfl
theorem en215 (xs : Array Value) (w : World) : (callFunc 215 xs).run Tryz.prog w = .ok (.enter 215 xs) w := by kernel_rfl
theorem en217 (xs : Array Value) (w : World) : (callFunc 217 xs).run Tryz.prog w = .ok (.enter 217 xs) w := by kernel_rfl
theorem en218 (xs : Array Value) (w : World) : (callFunc 218 xs).run Tryz.prog w = .ok (.enter 218 xs) w := by kernel_rfl
theorem en219 (xs : Array Value) (w : World) : (callFunc 219 xs).run Tryz.prog w = .ok (.enter 219 xs) w := by kernel_rfl
theorem en220 (xs : Array Value) (w : World) : (callFunc 220 xs).run Tryz.prog w = .ok (.enter 220 xs) w := by kernel_rfl
theorem en221 (xs : Array Value) (w : World) : (callFunc 221 xs).run Tryz.prog w = .ok (.enter 221 xs) w := by kernel_rfl
theorem en222 (xs : Array Value) (w : World) : (callFunc 222 xs).run Tryz.prog w = .ok (.enter 222 xs) w := by kernel_rfl
theorem en223 (xs : Array Value) (w : World) : (callFunc 223 xs).run Tryz.prog w = .ok (.enter 223 xs) w := by kernel_rfl
theorem en224 (xs : Array Value) (w : World) : (callFunc 224 xs).run Tryz.prog w = .ok (.enter 224 xs) w := by kernel_rfl
theorem en225 (xs : Array Value) (w : World) : (callFunc 225 xs).run Tryz.prog w = .ok (.enter 225 xs) w := by kernel_rfl
theorem en226 (xs : Array Value) (w : World) : (callFunc 226 xs).run Tryz.prog w = .ok (.enter 226 xs) w := by kernel_rfl
theorem en227 (xs : Array Value) (w : World) : (callFunc 227 xs).run Tryz.prog w = .ok (.enter 227 xs) w := by kernel_rfl
theorem en228 (xs : Array Value) (w : World) : (callFunc 228 xs).run Tryz.prog w = .ok (.enter 228 xs) w := by kernel_rfl
theorem en229 (xs : Array Value) (w : World) : (callFunc 229 xs).run Tryz.prog w = .ok (.enter 229 xs) w := by kernel_rfl
theorem en230 (xs : Array Value) (w : World) : (callFunc 230 xs).run Tryz.prog w = .ok (.enter 230 xs) w := by kernel_rfl
theorem en231 (xs : Array Value) (w : World) : (callFunc 231 xs).run Tryz.prog w = .ok (.enter 231 xs) w := by kernel_rfl
theorem en232 (xs : Array Value) (w : World) : (callFunc 232 xs).run Tryz.prog w = .ok (.enter 232 xs) w := by kernel_rfl
theorem en233 (xs : Array Value) (w : World) : (callFunc 233 xs).run Tryz.prog w = .ok (.enter 233 xs) w := by kernel_rfl
theorem en234 (xs : Array Value) (w : World) : (callFunc 234 xs).run Tryz.prog w = .ok (.enter 234 xs) w := by kernel_rfl
theorem en235 (xs : Array Value) (w : World) : (callFunc 235 xs).run Tryz.prog w = .ok (.enter 235 xs) w := by kernel_rfl
theorem en236 (xs : Array Value) (w : World) : (callFunc 236 xs).run Tryz.prog w = .ok (.enter 236 xs) w := by kernel_rfl
theorem en237 (xs : Array Value) (w : World) : (callFunc 237 xs).run Tryz.prog w = .ok (.enter 237 xs) w := by kernel_rfl
theorem en238 (xs : Array Value) (w : World) : (callFunc 238 xs).run Tryz.prog w = .ok (.enter 238 xs) w := by kernel_rfl
theorem en239 (xs : Array Value) (w : World) : (callFunc 239 xs).run Tryz.prog w = .ok (.enter 239 xs) w := by kernel_rfl
theorem en240 (xs : Array Value) (w : World) : (callFunc 240 xs).run Tryz.prog w = .ok (.enter 240 xs) w := by kernel_rfl
theorem en241 (xs : Array Value) (w : World) : (callFunc 241 xs).run Tryz.prog w = .ok (.enter 241 xs) w := by kernel_rfl
theorem en242 (xs : Array Value) (w : World) : (callFunc 242 xs).run Tryz.prog w = .ok (.enter 242 xs) w := by kernel_rfl
theorem en243 (xs : Array Value) (w : World) : (callFunc 243 xs).run Tryz.prog w = .ok (.enter 243 xs) w := by kernel_rfl
theorem en244 (xs : Array Value) (w : World) : (callFunc 244 xs).run Tryz.prog w = .ok (.enter 244 xs) w := by kernel_rfl
theorem en246 (xs : Array Value) (w : World) : (callFunc 246 xs).run Tryz.prog w = .ok (.enter 246 xs) w := by kernel_rfl
theorem en247 (xs : Array Value) (w : World) : (callFunc 247 xs).run Tryz.prog w = .ok (.enter 247 xs) w := by kernel_rfl
theorem en248 (xs : Array Value) (w : World) : (callFunc 248 xs).run Tryz.prog w = .ok (.enter 248 xs) w := by kernel_rfl
theorem en249 (xs : Array Value) (w : World) : (callFunc 249 xs).run Tryz.prog w = .ok (.enter 249 xs) w := by kernel_rfl
theorem en250 (xs : Array Value) (w : World) : (callFunc 250 xs).run Tryz.prog w = .ok (.enter 250 xs) w := by kernel_rfl
theorem en251 (xs : Array Value) (w : World) : (callFunc 251 xs).run Tryz.prog w = .ok (.enter 251 xs) w := by kernel_rfl
theorem en252 (xs : Array Value) (w : World) : (callFunc 252 xs).run Tryz.prog w = .ok (.enter 252 xs) w := by kernel_rfl
theorem en253 (xs : Array Value) (w : World) : (callFunc 253 xs).run Tryz.prog w = .ok (.enter 253 xs) w := by kernel_rfl
theorem en254 (xs : Array Value) (w : World) : (callFunc 254 xs).run Tryz.prog w = .ok (.enter 254 xs) w := by kernel_rfl
theorem en255 (xs : Array Value) (w : World) : (callFunc 255 xs).run Tryz.prog w = .ok (.enter 255 xs) w := by kernel_rfl
theorem en256 (xs : Array Value) (w : World) : (callFunc 256 xs).run Tryz.prog w = .ok (.enter 256 xs) w := by kernel_rfl
theorem en257 (xs : Array Value) (w : World) : (callFunc 257 xs).run Tryz.prog w = .ok (.enter 257 xs) w := by kernel_rfl
theorem en258 (xs : Array Value) (w : World) : (callFunc 258 xs).run Tryz.prog w = .ok (.enter 258 xs) w := by kernel_rfl
theorem en259 (xs : Array Value) (w : World) : (callFunc 259 xs).run Tryz.prog w = .ok (.enter 259 xs) w := by kernel_rfl
theorem en260 (xs : Array Value) (w : World) : (callFunc 260 xs).run Tryz.prog w = .ok (.enter 260 xs) w := by kernel_rfl
theorem en261 (xs : Array Value) (w : World) : (callFunc 261 xs).run Tryz.prog w = .ok (.enter 261 xs) w := by kernel_rfl
theorem en262 (xs : Array Value) (w : World) : (callFunc 262 xs).run Tryz.prog w = .ok (.enter 262 xs) w := by kernel_rfl
theorem en263 (xs : Array Value) (w : World) : (callFunc 263 xs).run Tryz.prog w = .ok (.enter 263 xs) w := by kernel_rfl
theorem en264 (xs : Array Value) (w : World) : (callFunc 264 xs).run Tryz.prog w = .ok (.enter 264 xs) w := by kernel_rfl
theorem en265 (xs : Array Value) (w : World) : (callFunc 265 xs).run Tryz.prog w = .ok (.enter 265 xs) w := by kernel_rfl
theorem en266 (xs : Array Value) (w : World) : (callFunc 266 xs).run Tryz.prog w = .ok (.enter 266 xs) w := by kernel_rfl
theorem en267 (xs : Array Value) (w : World) : (callFunc 267 xs).run Tryz.prog w = .ok (.enter 267 xs) w := by kernel_rfl
theorem en268 (xs : Array Value) (w : World) : (callFunc 268 xs).run Tryz.prog w = .ok (.enter 268 xs) w := by kernel_rfl
theorem en269 (xs : Array Value) (w : World) : (callFunc 269 xs).run Tryz.prog w = .ok (.enter 269 xs) w := by kernel_rfl
theorem en270 (xs : Array Value) (w : World) : (callFunc 270 xs).run Tryz.prog w = .ok (.enter 270 xs) w := by kernel_rfl
theorem en271 (xs : Array Value) (w : World) : (callFunc 271 xs).run Tryz.prog w = .ok (.enter 271 xs) w := by kernel_rfl
theorem en274 (xs : Array Value) (w : World) : (callFunc 274 xs).run Tryz.prog w = .ok (.enter 274 xs) w := by kernel_rfl
theorem en275 (xs : Array Value) (w : World) : (callFunc 275 xs).run Tryz.prog w = .ok (.enter 275 xs) w := by kernel_rfl
theorem en276 (xs : Array Value) (w : World) : (callFunc 276 xs).run Tryz.prog w = .ok (.enter 276 xs) w := by kernel_rfl
theorem en277 (xs : Array Value) (w : World) : (callFunc 277 xs).run Tryz.prog w = .ok (.enter 277 xs) w := by kernel_rfl
theorem en278 (xs : Array Value) (w : World) : (callFunc 278 xs).run Tryz.prog w = .ok (.enter 278 xs) w := by kernel_rfl
theorem en280 (xs : Array Value) (w : World) : (callFunc 280 xs).run Tryz.prog w = .ok (.enter 280 xs) w := by kernel_rfl
theorem en281 (xs : Array Value) (w : World) : (callFunc 281 xs).run Tryz.prog w = .ok (.enter 281 xs) w := by kernel_rfl
theorem en282 (xs : Array Value) (w : World) : (callFunc 282 xs).run Tryz.prog w = .ok (.enter 282 xs) w := by kernel_rfl
theorem en284 (xs : Array Value) (w : World) : (callFunc 284 xs).run Tryz.prog w = .ok (.enter 284 xs) w := by kernel_rfl
theorem en286 (xs : Array Value) (w : World) : (callFunc 286 xs).run Tryz.prog w = .ok (.enter 286 xs) w := by kernel_rfl
theorem en287 (xs : Array Value) (w : World) : (callFunc 287 xs).run Tryz.prog w = .ok (.enter 287 xs) w := by kernel_rfl
theorem en288 (xs : Array Value) (w : World) : (callFunc 288 xs).run Tryz.prog w = .ok (.enter 288 xs) w := by kernel_rfl
theorem en289 (xs : Array Value) (w : World) : (callFunc 289 xs).run Tryz.prog w = .ok (.enter 289 xs) w := by kernel_rfl
theorem en290 (xs : Array Value) (w : World) : (callFunc 290 xs).run Tryz.prog w = .ok (.enter 290 xs) w := by kernel_rfl
theorem en291 (xs : Array Value) (w : World) : (callFunc 291 xs).run Tryz.prog w = .ok (.enter 291 xs) w := by kernel_rfl
theorem en292 (xs : Array Value) (w : World) : (callFunc 292 xs).run Tryz.prog w = .ok (.enter 292 xs) w := by kernel_rfl
theorem en293 (xs : Array Value) (w : World) : (callFunc 293 xs).run Tryz.prog w = .ok (.enter 293 xs) w := by kernel_rfl
theorem en294 (xs : Array Value) (w : World) : (callFunc 294 xs).run Tryz.prog w = .ok (.enter 294 xs) w := by kernel_rfl
theorem en295 (xs : Array Value) (w : World) : (callFunc 295 xs).run Tryz.prog w = .ok (.enter 295 xs) w := by kernel_rfl
theorem en296 (xs : Array Value) (w : World) : (callFunc 296 xs).run Tryz.prog w = .ok (.enter 296 xs) w := by kernel_rfl
theorem en297 (xs : Array Value) (w : World) : (callFunc 297 xs).run Tryz.prog w = .ok (.enter 297 xs) w := by kernel_rfl
theorem en298 (xs : Array Value) (w : World) : (callFunc 298 xs).run Tryz.prog w = .ok (.enter 298 xs) w := by kernel_rfl
theorem en299 (xs : Array Value) (w : World) : (callFunc 299 xs).run Tryz.prog w = .ok (.enter 299 xs) w := by kernel_rfl
theorem en300 (xs : Array Value) (w : World) : (callFunc 300 xs).run Tryz.prog w = .ok (.enter 300 xs) w := by kernel_rfl
theorem en301 (xs : Array Value) (w : World) : (callFunc 301 xs).run Tryz.prog w = .ok (.enter 301 xs) w := by kernel_rfl
theorem en302 (xs : Array Value) (w : World) : (callFunc 302 xs).run Tryz.prog w = .ok (.enter 302 xs) w := by kernel_rfl
theorem en303 (xs : Array Value) (w : World) : (callFunc 303 xs).run Tryz.prog w = .ok (.enter 303 xs) w := by kernel_rfl
theorem en304 (xs : Array Value) (w : World) : (callFunc 304 xs).run Tryz.prog w = .ok (.enter 304 xs) w := by kernel_rfl
theorem en305 (xs : Array Value) (w : World) : (callFunc 305 xs).run Tryz.prog w = .ok (.enter 305 xs) w := by kernel_rfl
theorem en306 (xs : Array Value) (w : World) : (callFunc 306 xs).run Tryz.prog w = .ok (.enter 306 xs) w := by kernel_rfl
theorem en307 (xs : Array Value) (w : World) : (callFunc 307 xs).run Tryz.prog w = .ok (.enter 307 xs) w := by kernel_rfl
theorem en308 (xs : Array Value) (w : World) : (callFunc 308 xs).run Tryz.prog w = .ok (.enter 308 xs) w := by kernel_rfl
theorem en311 (xs : Array Value) (w : World) : (callFunc 311 xs).run Tryz.prog w = .ok (.enter 311 xs) w := by kernel_rfl
theorem en313 (xs : Array Value) (w : World) : (callFunc 313 xs).run Tryz.prog w = .ok (.enter 313 xs) w := by kernel_rfl
theorem en316 (xs : Array Value) (w : World) : (callFunc 316 xs).run Tryz.prog w = .ok (.enter 316 xs) w := by kernel_rfl
theorem en317 (xs : Array Value) (w : World) : (callFunc 317 xs).run Tryz.prog w = .ok (.enter 317 xs) w := by kernel_rfl
theorem en318 (xs : Array Value) (w : World) : (callFunc 318 xs).run Tryz.prog w = .ok (.enter 318 xs) w := by kernel_rfl
theorem en319 (xs : Array Value) (w : World) : (callFunc 319 xs).run Tryz.prog w = .ok (.enter 319 xs) w := by kernel_rfl
theorem en320 (xs : Array Value) (w : World) : (callFunc 320 xs).run Tryz.prog w = .ok (.enter 320 xs) w := by kernel_rfl
theorem en321 (xs : Array Value) (w : World) : (callFunc 321 xs).run Tryz.prog w = .ok (.enter 321 xs) w := by kernel_rfl
theorem en322 (xs : Array Value) (w : World) : (callFunc 322 xs).run Tryz.prog w = .ok (.enter 322 xs) w := by kernel_rfl
theorem en323 (xs : Array Value) (w : World) : (callFunc 323 xs).run Tryz.prog w = .ok (.enter 323 xs) w := by kernel_rfl
theorem en324 (xs : Array Value) (w : World) : (callFunc 324 xs).run Tryz.prog w = .ok (.enter 324 xs) w := by kernel_rfl
theorem en325 (xs : Array Value) (w : World) : (callFunc 325 xs).run Tryz.prog w = .ok (.enter 325 xs) w := by kernel_rfl
theorem en326 (xs : Array Value) (w : World) : (callFunc 326 xs).run Tryz.prog w = .ok (.enter 326 xs) w := by kernel_rfl
theorem en327 (xs : Array Value) (w : World) : (callFunc 327 xs).run Tryz.prog w = .ok (.enter 327 xs) w := by kernel_rfl
theorem en328 (xs : Array Value) (w : World) : (callFunc 328 xs).run Tryz.prog w = .ok (.enter 328 xs) w := by kernel_rfl
theorem en329 (xs : Array Value) (w : World) : (callFunc 329 xs).run Tryz.prog w = .ok (.enter 329 xs) w := by kernel_rfl
theorem en330 (xs : Array Value) (w : World) : (callFunc 330 xs).run Tryz.prog w = .ok (.enter 330 xs) w := by kernel_rfl
theorem en331 (xs : Array Value) (w : World) : (callFunc 331 xs).run Tryz.prog w = .ok (.enter 331 xs) w := by kernel_rfl
theorem en332 (xs : Array Value) (w : World) : (callFunc 332 xs).run Tryz.prog w = .ok (.enter 332 xs) w := by kernel_rfl
theorem en333 (xs : Array Value) (w : World) : (callFunc 333 xs).run Tryz.prog w = .ok (.enter 333 xs) w := by kernel_rfl
theorem en334 (xs : Array Value) (w : World) : (callFunc 334 xs).run Tryz.prog w = .ok (.enter 334 xs) w := by kernel_rfl
theorem en335 (xs : Array Value) (w : World) : (callFunc 335 xs).run Tryz.prog w = .ok (.enter 335 xs) w := by kernel_rfl
theorem en337 (xs : Array Value) (w : World) : (callFunc 337 xs).run Tryz.prog w = .ok (.enter 337 xs) w := by kernel_rfl
theorem en338 (xs : Array Value) (w : World) : (callFunc 338 xs).run Tryz.prog w = .ok (.enter 338 xs) w := by kernel_rfl
theorem en339 (xs : Array Value) (w : World) : (callFunc 339 xs).run Tryz.prog w = .ok (.enter 339 xs) w := by kernel_rfl
theorem en340 (xs : Array Value) (w : World) : (callFunc 340 xs).run Tryz.prog w = .ok (.enter 340 xs) w := by kernel_rfl
theorem en341 (xs : Array Value) (w : World) : (callFunc 341 xs).run Tryz.prog w = .ok (.enter 341 xs) w := by kernel_rfl
theorem en342 (xs : Array Value) (w : World) : (callFunc 342 xs).run Tryz.prog w = .ok (.enter 342 xs) w := by kernel_rfl
theorem en343 (xs : Array Value) (w : World) : (callFunc 343 xs).run Tryz.prog w = .ok (.enter 343 xs) w := by kernel_rfl
theorem en344 (xs : Array Value) (w : World) : (callFunc 344 xs).run Tryz.prog w = .ok (.enter 344 xs) w := by kernel_rfl
theorem en345 (xs : Array Value) (w : World) : (callFunc 345 xs).run Tryz.prog w = .ok (.enter 345 xs) w := by kernel_rfl
theorem en346 (xs : Array Value) (w : World) : (callFunc 346 xs).run Tryz.prog w = .ok (.enter 346 xs) w := by kernel_rfl
theorem en347 (xs : Array Value) (w : World) : (callFunc 347 xs).run Tryz.prog w = .ok (.enter 347 xs) w := by kernel_rfl
theorem en348 (xs : Array Value) (w : World) : (callFunc 348 xs).run Tryz.prog w = .ok (.enter 348 xs) w := by kernel_rfl
theorem en349 (xs : Array Value) (w : World) : (callFunc 349 xs).run Tryz.prog w = .ok (.enter 349 xs) w := by kernel_rfl
theorem en350 (xs : Array Value) (w : World) : (callFunc 350 xs).run Tryz.prog w = .ok (.enter 350 xs) w := by kernel_rfl
theorem en351 (xs : Array Value) (w : World) : (callFunc 351 xs).run Tryz.prog w = .ok (.enter 351 xs) w := by kernel_rfl
theorem en352 (xs : Array Value) (w : World) : (callFunc 352 xs).run Tryz.prog w = .ok (.enter 352 xs) w := by kernel_rfl
theorem en353 (xs : Array Value) (w : World) : (callFunc 353 xs).run Tryz.prog w = .ok (.enter 353 xs) w := by kernel_rfl
theorem en354 (xs : Array Value) (w : World) : (callFunc 354 xs).run Tryz.prog w = .ok (.enter 354 xs) w := by kernel_rfl
theorem en355 (xs : Array Value) (w : World) : (callFunc 355 xs).run Tryz.prog w = .ok (.enter 355 xs) w := by kernel_rfl
theorem en356 (xs : Array Value) (w : World) : (callFunc 356 xs).run Tryz.prog w = .ok (.enter 356 xs) w := by kernel_rfl
theorem en361 (xs : Array Value) (w : World) : (callFunc 361 xs).run Tryz.prog w = .ok (.enter 361 xs) w := by kernel_rfl
theorem en364 (xs : Array Value) (w : World) : (callFunc 364 xs).run Tryz.prog w = .ok (.enter 364 xs) w := by kernel_rfl
theorem en365 (xs : Array Value) (w : World) : (callFunc 365 xs).run Tryz.prog w = .ok (.enter 365 xs) w := by kernel_rfl
theorem en366 (xs : Array Value) (w : World) : (callFunc 366 xs).run Tryz.prog w = .ok (.enter 366 xs) w := by kernel_rfl
theorem en367 (xs : Array Value) (w : World) : (callFunc 367 xs).run Tryz.prog w = .ok (.enter 367 xs) w := by kernel_rfl
theorem en368 (xs : Array Value) (w : World) : (callFunc 368 xs).run Tryz.prog w = .ok (.enter 368 xs) w := by kernel_rfl
theorem en369 (xs : Array Value) (w : World) : (callFunc 369 xs).run Tryz.prog w = .ok (.enter 369 xs) w := by kernel_rfl
theorem en370 (xs : Array Value) (w : World) : (callFunc 370 xs).run Tryz.prog w = .ok (.enter 370 xs) w := by kernel_rfl
theorem en371 (xs : Array Value) (w : World) : (callFunc 371 xs).run Tryz.prog w = .ok (.enter 371 xs) w := by kernel_rfl
theorem en372 (xs : Array Value) (w : World) : (callFunc 372 xs).run Tryz.prog w = .ok (.enter 372 xs) w := by kernel_rfl
theorem en380 (xs : Array Value) (w : World) : (callFunc 380 xs).run Tryz.prog w = .ok (.enter 380 xs) w := by kernel_rfl
theorem en381 (xs : Array Value) (w : World) : (callFunc 381 xs).run Tryz.prog w = .ok (.enter 381 xs) w := by kernel_rfl
theorem en382 (xs : Array Value) (w : World) : (callFunc 382 xs).run Tryz.prog w = .ok (.enter 382 xs) w := by kernel_rfl
theorem en383 (xs : Array Value) (w : World) : (callFunc 383 xs).run Tryz.prog w = .ok (.enter 383 xs) w := by kernel_rfl
theorem en406 (xs : Array Value) (w : World) : (callFunc 406 xs).run Tryz.prog w = .ok (.enter 406 xs) w := by kernel_rfl
end Go.LL
