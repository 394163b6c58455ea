/-
  DERIVED: THE SHELF's CONTRACTS AT THIS DUMP, IN PLAIN WORDS (tools/lay-plain.mjs out of 'TryzShelf.lean', which tools/lay-shelf.mjs wrote): THE SAME DECLARATIONS UNDER THE SAME NAMES: 'import', 'namespace', 'open', 'def', 'theorem' AND NOTHING ELSE: no command of the shelf's: FOR A HAND-IN. Each laying: the table of numbers ('.._ren') and one theorem, a field a fact of the dump's own or the kernel's comparison; each contract: ONE APPLICATION.
-/
import Derived.Shelf.Small.Bits
import Derived.Shelf.Sort.Plain
import Derived.Ground.Names2Prog
import Derived.Shelf.Slices.In.SortNone
import Derived.Shelf.Slices.CompactI
import Derived.Shelf.Slices.Cells
import Derived.Test.YthabegpfnfbmaaaGreatDoorProg
set_option linter.unusedSimpArgs false
set_option linter.unusedVariables false
namespace Go.Proofs
open Go.Shelf
def Tryz.lays129_ren : Go.Shelf.Ren := ⟨fun | 129 => 326 | n => n, fun | 53 => 211 | 3 => 3 | 4 => 4 | 46 => 258 | 5 => 5 | 9 => 9 | n => n, fun | n => n⟩
theorem Tryz.lays129 : Go.Proofs.Lays.n129 Tryz.prog Tryz.lays129_ren := {
  mixed := by kernel_rfl
  f129 := Tryz.func326.trans (congrArg some (by kernel_rfl))
  t3 := Tryz.underlying3
  a3 := Tryz.isAgg3
  z3 := Tryz.sizeOf3
  v3 := Tryz.zeroValue3
  t4 := Tryz.underlying4
  a4 := Tryz.isAgg4
  z4 := Tryz.sizeOf4
  v4 := Tryz.zeroValue4
  t5 := Tryz.underlying5
  a5 := Tryz.isAgg5
  z5 := Tryz.sizeOf5
  v5 := Tryz.zeroValue5
  t9 := Tryz.underlying9
  a9 := Tryz.isAgg9
  z9 := Tryz.sizeOf9
  v9 := Tryz.zeroValue9
  t46 := Tryz.underlying258
  a46 := Tryz.isAgg258
  z46 := Tryz.sizeOf258
  v46 := Tryz.zeroValue258
  t53 := Tryz.underlying211
  a53 := Tryz.isAgg211
  z53 := Tryz.sizeOf211
  v53 := Tryz.zeroValue211 }
theorem Tryz.bits_Len64 (x : Int) (w : World) (h0 : 0 ≤ x) (h1 : x ≤ 18446744073709551615) :
    Calls Tryz.prog 326 #[.int .u64 x] w fun e w' => e = .returned (.int .i64 (Lib.bitLen x.toNat)) ∧ w' = w := Any.bits_Len64 Tryz.lays129 x w h0 h1
def Tryz.lays189_ren : Go.Shelf.Ren := ⟨fun | 189 => 293 | 125 => 299 | 257 => 317 | 128 => 325 | 129 => 326 | 294 => 340 | 295 => 341 | 296 => 342 | 297 => 343 | 298 => 344 | 299 => 345 | 216 => 346 | 300 => 347 | 301 => 348 | 328 => 369 | 329 => 350 | 330 => 351 | 331 => 370 | 332 => 371 | 215 => 271 | 343 => 383 | n => n, fun | 28 => 36 | 3 => 3 | 46 => 258 | 0 => 0 | 51 => 293 | 53 => 211 | 4 => 4 | 183 => 391 | 182 => 390 | 131 => 226 | 5 => 5 | 9 => 9 | 218 => 409 | 222 => 413 | 228 => 426 | 229 => 427 | n => n, fun | n => n⟩
theorem Tryz.lays189 : Go.Proofs.Lays.n189 Tryz.prog Tryz.lays189_ren := {
  mixed := by kernel_rfl
  f125 := Tryz.func299.trans (congrArg some (by kernel_rfl))
  f128 := Tryz.func325.trans (congrArg some (by kernel_rfl))
  f129 := Tryz.func326.trans (congrArg some (by kernel_rfl))
  f189 := Tryz.func293.trans (congrArg some (by kernel_rfl))
  f215 := Tryz.func271.trans (congrArg some (by kernel_rfl))
  f216 := Tryz.func346.trans (congrArg some (by kernel_rfl))
  f257 := Tryz.func317.trans (congrArg some (by kernel_rfl))
  f294 := Tryz.func340.trans (congrArg some (by kernel_rfl))
  f295 := Tryz.func341.trans (congrArg some (by kernel_rfl))
  f296 := Tryz.func342.trans (congrArg some (by kernel_rfl))
  f297 := Tryz.func343.trans (congrArg some (by kernel_rfl))
  f298 := Tryz.func344.trans (congrArg some (by kernel_rfl))
  f299 := Tryz.func345.trans (congrArg some (by kernel_rfl))
  f300 := Tryz.func347.trans (congrArg some (by kernel_rfl))
  f301 := Tryz.func348.trans (congrArg some (by kernel_rfl))
  f328 := Tryz.func369.trans (congrArg some (by kernel_rfl))
  f329 := Tryz.func350.trans (congrArg some (by kernel_rfl))
  f330 := Tryz.func351.trans (congrArg some (by kernel_rfl))
  f331 := Tryz.func370.trans (congrArg some (by kernel_rfl))
  f332 := Tryz.func371.trans (congrArg some (by kernel_rfl))
  f343 := Tryz.func383.trans (congrArg some (by kernel_rfl))
  t0 := Tryz.underlying0
  a0 := Tryz.isAgg0
  z0 := Tryz.sizeOf0
  v0 := Tryz.zeroValue0
  t3 := Tryz.underlying3
  a3 := Tryz.isAgg3
  z3 := Tryz.sizeOf3
  v3 := Tryz.zeroValue3
  t4 := Tryz.underlying4
  a4 := Tryz.isAgg4
  z4 := Tryz.sizeOf4
  v4 := Tryz.zeroValue4
  t5 := Tryz.underlying5
  a5 := Tryz.isAgg5
  z5 := Tryz.sizeOf5
  v5 := Tryz.zeroValue5
  t9 := Tryz.underlying9
  a9 := Tryz.isAgg9
  z9 := Tryz.sizeOf9
  v9 := Tryz.zeroValue9
  t28 := Tryz.underlying36
  a28 := Tryz.isAgg36
  z28 := Tryz.sizeOf36
  v28 := Tryz.zeroValue36
  t46 := Tryz.underlying258
  a46 := Tryz.isAgg258
  z46 := Tryz.sizeOf258
  v46 := Tryz.zeroValue258
  t51 := Tryz.underlying293
  a51 := Tryz.isAgg293
  z51 := Tryz.sizeOf293
  v51 := Tryz.zeroValue293
  t53 := Tryz.underlying211
  a53 := Tryz.isAgg211
  z53 := Tryz.sizeOf211
  v53 := Tryz.zeroValue211
  t131 := Tryz.underlying226
  a131 := Tryz.isAgg226
  z131 := Tryz.sizeOf226
  v131 := Tryz.zeroValue226
  t182 := Tryz.underlying390
  a182 := Tryz.isAgg390
  z182 := Tryz.sizeOf390
  v182 := Tryz.zeroValue390
  t183 := Tryz.underlying391
  a183 := Tryz.isAgg391
  z183 := Tryz.sizeOf391
  v183 := Tryz.zeroValue391
  t218 := Tryz.underlying409
  a218 := Tryz.isAgg409
  z218 := Tryz.sizeOf409
  v218 := Tryz.zeroValue409
  t222 := Tryz.underlying413
  a222 := Tryz.isAgg413
  z222 := Tryz.sizeOf413
  v222 := Tryz.zeroValue413
  t228 := Tryz.underlying426
  a228 := Tryz.isAgg426
  z228 := Tryz.sizeOf426
  v228 := Tryz.zeroValue426
  t229 := Tryz.underlying427
  a229 := Tryz.isAgg427
  z229 := Tryz.sizeOf427
  v229 := Tryz.zeroValue427 }
open Go.Sort Go.RowKit in
theorem Tryz.slices_Sort_int (blk off cap : Nat) (zs : List Int) (w : World) (hH : Holds (Value.int .i64) w blk off zs.toArray) (hblk : blk < w.heap.size) (hsz : zs.length < 4611686018427387904) :
    Calls Tryz.prog 293 #[.slice (some ⟨blk, off, none⟩) zs.length cap] w fun e w' =>
      e = .returned (.tuple #[]) ∧ ∃ n os, w' = grow (putRow (Value.int .i64) (Sort.ahead w n) blk off (zs.mergeSort fun x y => decide (x ≤ y)).toArray) os := Any.slices_Sort_int Tryz.lays189 blk off cap zs w hH hblk hsz
theorem Tryz.slices_Sort_int_none (p : Option Addr) (cap : Nat) (w : World) :
    Calls Tryz.prog 293 #[.slice p 0 cap] w fun e w' => e = .returned (.tuple #[]) ∧ w' = w := Any.slices_Sort_int_none Tryz.lays189 p cap w
def Tryz.laysNm220_ren : Go.Shelf.Ren := ⟨fun | 20 => 294 | n => n, fun | 22 => 36 | 3 => 3 | 4 => 4 | 0 => 0 | n => n, fun | n => n⟩
theorem Tryz.laysNm220 : Go.Proofs.Lays2.n20 Tryz.prog Tryz.laysNm220_ren := {
  mixed := by kernel_rfl
  f20 := Tryz.func294.trans (congrArg some (by kernel_rfl))
  t0 := Tryz.underlying0
  a0 := Tryz.isAgg0
  z0 := Tryz.sizeOf0
  v0 := Tryz.zeroValue0
  t3 := Tryz.underlying3
  a3 := Tryz.isAgg3
  z3 := Tryz.sizeOf3
  v3 := Tryz.zeroValue3
  t4 := Tryz.underlying4
  a4 := Tryz.isAgg4
  z4 := Tryz.sizeOf4
  v4 := Tryz.zeroValue4
  t22 := Tryz.underlying36
  a22 := Tryz.isAgg36
  z22 := Tryz.sizeOf36
  v22 := Tryz.zeroValue36
  i3 := by kernel_rfl }
open Go.RowKit Go.Lib Go.Sort in
theorem Tryz.slices_Compact_int (blk off cap : Nat) (zs : List Int) (w : World) (hH : Holds (Value.int .i64) w blk off zs.toArray) (hsz : zs.length ≤ 9223372036854775807) (hcap : zs.length ≤ cap) :
    Calls Tryz.prog 294 #[.slice (some ⟨blk, off, none⟩) zs.length cap] w fun e w' => e = .returned (.slice (some ⟨blk, off, none⟩) (Lib.compact zs).length cap) ∧ ∃ q, w' = putRow (Value.int .i64) (Sort.ahead w q) blk off (Lib.compact zs ++ List.replicate (zs.length - (Lib.compact zs).length) 0).toArray := Any.slices_Compact_int Tryz.laysNm220 blk off cap zs w hH hsz hcap
theorem Tryz.slices_Compact_int_empty (a : Option Addr) (cap : Nat) (w : World) :
    Calls Tryz.prog 294 #[.slice a 0 cap] w fun e w' => e = .returned (.slice a 0 cap) ∧ w' = w := Any.slices_Compact_int_empty Tryz.laysNm220 a cap w
end Go.Proofs
