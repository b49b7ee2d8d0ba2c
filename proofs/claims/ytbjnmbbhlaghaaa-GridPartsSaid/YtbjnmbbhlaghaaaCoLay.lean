/-
  DERIVED: THE SHELF's CONTRACTS AT THIS DUMP, IN PLAIN WORDS (tools/lay-plain.mjs out of 'TryShelf.lean', which tools/lay-shelf.mjs wrote): THE SAME DECLARATIONS UNDER THE SAME NAMES: 'import', 'namespace', 'open', 'def', 'theorem' AND NOTHING ELSE: no command of the shelf's: FOR A HAND-IN. Each laying: the table of numbers ('.._ren') and one theorem, a field a fact of the dump's own or the kernel's comparison; each contract: ONE APPLICATION.
-/
import Derived.Shelf.Sort.Plain
import Derived.Ground.Names2Prog
import Derived.Shelf.Slices.CompactI
import Derived.Shelf.Slices.In.SortNone
import Derived.Test.YtbjnmbbhlaghaaaProg
namespace Go.Proofs
open Go.Shelf
def Try.lays189_ren : Go.Shelf.Ren := ⟨fun | 189 => 144 | 125 => 172 | 257 => 171 | 128 => 188 | 129 => 189 | 294 => 179 | 295 => 180 | 296 => 181 | 297 => 182 | 298 => 183 | 299 => 184 | 216 => 185 | 300 => 186 | 301 => 187 | 328 => 192 | 329 => 193 | 330 => 194 | 331 => 195 | 332 => 196 | 215 => 197 | 343 => 199 | n => n, fun | 28 => 34 | 3 => 3 | 46 => 193 | 0 => 0 | 51 => 220 | 53 => 90 | 4 => 4 | 183 => 214 | 182 => 213 | 131 => 95 | 5 => 5 | 9 => 9 | 218 => 223 | 222 => 227 | 228 => 229 | 229 => 122 | n => n, fun | n => n⟩
theorem Try.lays189 : Go.Proofs.Lays.n189 Try.prog Try.lays189_ren := {
  mixed := by kernel_rfl
  f125 := Try.func172.trans (congrArg some (by kernel_rfl))
  f128 := Try.func188.trans (congrArg some (by kernel_rfl))
  f129 := Try.func189.trans (congrArg some (by kernel_rfl))
  f189 := Try.func144.trans (congrArg some (by kernel_rfl))
  f215 := Try.func197.trans (congrArg some (by kernel_rfl))
  f216 := Try.func185.trans (congrArg some (by kernel_rfl))
  f257 := Try.func171.trans (congrArg some (by kernel_rfl))
  f294 := Try.func179.trans (congrArg some (by kernel_rfl))
  f295 := Try.func180.trans (congrArg some (by kernel_rfl))
  f296 := Try.func181.trans (congrArg some (by kernel_rfl))
  f297 := Try.func182.trans (congrArg some (by kernel_rfl))
  f298 := Try.func183.trans (congrArg some (by kernel_rfl))
  f299 := Try.func184.trans (congrArg some (by kernel_rfl))
  f300 := Try.func186.trans (congrArg some (by kernel_rfl))
  f301 := Try.func187.trans (congrArg some (by kernel_rfl))
  f328 := Try.func192.trans (congrArg some (by kernel_rfl))
  f329 := Try.func193.trans (congrArg some (by kernel_rfl))
  f330 := Try.func194.trans (congrArg some (by kernel_rfl))
  f331 := Try.func195.trans (congrArg some (by kernel_rfl))
  f332 := Try.func196.trans (congrArg some (by kernel_rfl))
  f343 := Try.func199.trans (congrArg some (by kernel_rfl))
  t0 := Try.underlying0
  a0 := Try.isAgg0
  z0 := Try.sizeOf0
  v0 := Try.zeroValue0
  t3 := Try.underlying3
  a3 := Try.isAgg3
  z3 := Try.sizeOf3
  v3 := Try.zeroValue3
  t4 := Try.underlying4
  a4 := Try.isAgg4
  z4 := Try.sizeOf4
  v4 := Try.zeroValue4
  t5 := Try.underlying5
  a5 := Try.isAgg5
  z5 := Try.sizeOf5
  v5 := Try.zeroValue5
  t9 := Try.underlying9
  a9 := Try.isAgg9
  z9 := Try.sizeOf9
  v9 := Try.zeroValue9
  t28 := Try.underlying34
  a28 := Try.isAgg34
  z28 := Try.sizeOf34
  v28 := Try.zeroValue34
  t46 := Try.underlying193
  a46 := Try.isAgg193
  z46 := Try.sizeOf193
  v46 := Try.zeroValue193
  t51 := Try.underlying220
  a51 := Try.isAgg220
  z51 := Try.sizeOf220
  v51 := Try.zeroValue220
  t53 := Try.underlying90
  a53 := Try.isAgg90
  z53 := Try.sizeOf90
  v53 := Try.zeroValue90
  t131 := Try.underlying95
  a131 := Try.isAgg95
  z131 := Try.sizeOf95
  v131 := Try.zeroValue95
  t182 := Try.underlying213
  a182 := Try.isAgg213
  z182 := Try.sizeOf213
  v182 := Try.zeroValue213
  t183 := Try.underlying214
  a183 := Try.isAgg214
  z183 := Try.sizeOf214
  v183 := Try.zeroValue214
  t218 := Try.underlying223
  a218 := Try.isAgg223
  z218 := Try.sizeOf223
  v218 := Try.zeroValue223
  t222 := Try.underlying227
  a222 := Try.isAgg227
  z222 := Try.sizeOf227
  v222 := Try.zeroValue227
  t228 := Try.underlying229
  a228 := Try.isAgg229
  z228 := Try.sizeOf229
  v228 := Try.zeroValue229
  t229 := Try.underlying122
  a229 := Try.isAgg122
  z229 := Try.sizeOf122
  v229 := Try.zeroValue122 }
open Go.Sort Go.RowKit in
theorem Try.slices_Sort_int (blk off cap : Nat) (zs : List Int) (w : World) (hH : Holds (Value.int .i64) w blk off zs.toArray) (hblk : blk < w.heap.size) (hsz : zs.length < 4611686018427387904) :
    Calls Try.prog 144 #[.slice (some ⟨blk, off, none⟩) zs.length cap] w fun e w' =>
      e = .returned (.tuple #[]) ∧ ∃ n os, w' = grow (putRow (Value.int .i64) (Sort.ahead w n) blk off (zs.mergeSort fun x y => decide (x ≤ y)).toArray) os := Any.slices_Sort_int Try.lays189 blk off cap zs w hH hblk hsz
def Try.laysNm220_ren : Go.Shelf.Ren := ⟨fun | 20 => 145 | n => n, fun | 22 => 34 | 3 => 3 | 4 => 4 | 0 => 0 | n => n, fun | n => n⟩
theorem Try.laysNm220 : Go.Proofs.Lays2.n20 Try.prog Try.laysNm220_ren := {
  mixed := by kernel_rfl
  f20 := Try.func145.trans (congrArg some (by kernel_rfl))
  t0 := Try.underlying0
  a0 := Try.isAgg0
  z0 := Try.sizeOf0
  v0 := Try.zeroValue0
  t3 := Try.underlying3
  a3 := Try.isAgg3
  z3 := Try.sizeOf3
  v3 := Try.zeroValue3
  t4 := Try.underlying4
  a4 := Try.isAgg4
  z4 := Try.sizeOf4
  v4 := Try.zeroValue4
  t22 := Try.underlying34
  a22 := Try.isAgg34
  z22 := Try.sizeOf34
  v22 := Try.zeroValue34
  i3 := by kernel_rfl }
open Go.RowKit Go.Lib Go.Sort in
open Go.RowKit Go.Lib Go.Sort in
theorem Try.slices_Compact_int (blk off cap : Nat) (zs : List Int) (w : World) (hH : Holds (Value.int .i64) w blk off zs.toArray) (hsz : zs.length ≤ 9223372036854775807) (hcap : zs.length ≤ cap) :
    Calls Try.prog 145 #[.slice (some ⟨blk, off, none⟩) zs.length cap] w fun e w' => e = .returned (.slice (some ⟨blk, off, none⟩) (Lib.compact zs).length cap) ∧ ∃ q, w' = putRow (Value.int .i64) (Sort.ahead w q) blk off (Lib.compact zs ++ List.replicate (zs.length - (Lib.compact zs).length) 0).toArray := Any.slices_Compact_int Try.laysNm220 blk off cap zs w hH hsz hcap
open Go.RowKit Go.Lib Go.Sort in
theorem Try.slices_Compact_int_empty (a : Option Addr) (cap : Nat) (w : World) :
    Calls Try.prog 145 #[.slice a 0 cap] w fun e w' => e = .returned (.slice a 0 cap) ∧ w' = w := Any.slices_Compact_int_empty Try.laysNm220 a cap w
open Go.RowKit Go.Sort in
theorem Try.slices_Sort_int_none (p : Option Addr) (cap : Nat) (w : World) :
    Calls Try.prog 144 #[.slice p 0 cap] w fun e w' => e = .returned (.tuple #[]) ∧ w' = w := Any.slices_Sort_int_none Try.lays189 p cap w
end Go.Proofs
