/-
  DERIVED: THE SHELF's CONTRACTS AT THIS DUMP, IN PLAIN WORDS (tools/lay-plain.mjs out of 'YtopjffgmpphdbaaDoorShelf.lean', which tools/lay-shelf.mjs wrote): THE SAME DECLARATIONS UNDER THE SAME NAMES: 'import', 'namespace', 'open', 'def', 'theorem' AND NOTHING ELSE: no command of the shelf's: FOR A HAND-IN. Each laying: the table of numbers ('.._ren') and one theorem, a field a fact of the dump's own or the kernel's comparison; each contract: ONE APPLICATION.
-/
import Derived.Shelf.Small.Bits
import Derived.Shelf.Strconv.Itoa0
import Derived.Shelf.Sort.Plain
import Derived.Shelf.Slices.In.SortNone
import Derived.Ground.SlgnProg
import Derived.Shelf.SlicesE.Equal
import Derived.Test.YtopjffgmpphdbaaDoorProg
namespace Go.Proofs
open Go.Shelf
def Tryd.lays189_ren : Go.Shelf.Ren := ⟨fun | 189 => 62 | 125 => 66 | 257 => 65 | 128 => 76 | 129 => 77 | 294 => 67 | 295 => 68 | 296 => 69 | 297 => 70 | 298 => 71 | 299 => 72 | 216 => 73 | 300 => 74 | 301 => 75 | 328 => 78 | 329 => 79 | 330 => 80 | 331 => 81 | 332 => 82 | 215 => 83 | 343 => 84 | n => n, fun | 28 => 23 | 3 => 3 | 46 => 62 | 0 => 0 | 51 => 106 | 53 => 61 | 4 => 4 | 183 => 99 | 182 => 98 | 131 => 103 | 5 => 5 | 9 => 9 | 218 => 107 | 222 => 111 | 228 => 113 | 229 => 114 | n => n, fun | n => n⟩
theorem Tryd.lays189 : Go.Proofs.Lays.n189 Tryd.prog Tryd.lays189_ren := {
  mixed := by kernel_rfl
  f125 := Tryd.func66.trans (congrArg some (by kernel_rfl))
  f128 := Tryd.func76.trans (congrArg some (by kernel_rfl))
  f129 := Tryd.func77.trans (congrArg some (by kernel_rfl))
  f189 := Tryd.func62.trans (congrArg some (by kernel_rfl))
  f215 := Tryd.func83.trans (congrArg some (by kernel_rfl))
  f216 := Tryd.func73.trans (congrArg some (by kernel_rfl))
  f257 := Tryd.func65.trans (congrArg some (by kernel_rfl))
  f294 := Tryd.func67.trans (congrArg some (by kernel_rfl))
  f295 := Tryd.func68.trans (congrArg some (by kernel_rfl))
  f296 := Tryd.func69.trans (congrArg some (by kernel_rfl))
  f297 := Tryd.func70.trans (congrArg some (by kernel_rfl))
  f298 := Tryd.func71.trans (congrArg some (by kernel_rfl))
  f299 := Tryd.func72.trans (congrArg some (by kernel_rfl))
  f300 := Tryd.func74.trans (congrArg some (by kernel_rfl))
  f301 := Tryd.func75.trans (congrArg some (by kernel_rfl))
  f328 := Tryd.func78.trans (congrArg some (by kernel_rfl))
  f329 := Tryd.func79.trans (congrArg some (by kernel_rfl))
  f330 := Tryd.func80.trans (congrArg some (by kernel_rfl))
  f331 := Tryd.func81.trans (congrArg some (by kernel_rfl))
  f332 := Tryd.func82.trans (congrArg some (by kernel_rfl))
  f343 := Tryd.func84.trans (congrArg some (by kernel_rfl))
  t0 := Tryd.underlying0
  a0 := Tryd.isAgg0
  z0 := Tryd.sizeOf0
  v0 := Tryd.zeroValue0
  t3 := Tryd.underlying3
  a3 := Tryd.isAgg3
  z3 := Tryd.sizeOf3
  v3 := Tryd.zeroValue3
  t4 := Tryd.underlying4
  a4 := Tryd.isAgg4
  z4 := Tryd.sizeOf4
  v4 := Tryd.zeroValue4
  t5 := Tryd.underlying5
  a5 := Tryd.isAgg5
  z5 := Tryd.sizeOf5
  v5 := Tryd.zeroValue5
  t9 := Tryd.underlying9
  a9 := Tryd.isAgg9
  z9 := Tryd.sizeOf9
  v9 := Tryd.zeroValue9
  t28 := Tryd.underlying23
  a28 := Tryd.isAgg23
  z28 := Tryd.sizeOf23
  v28 := Tryd.zeroValue23
  t46 := Tryd.underlying62
  a46 := Tryd.isAgg62
  z46 := Tryd.sizeOf62
  v46 := Tryd.zeroValue62
  t51 := Tryd.underlying106
  a51 := Tryd.isAgg106
  z51 := Tryd.sizeOf106
  v51 := Tryd.zeroValue106
  t53 := Tryd.underlying61
  a53 := Tryd.isAgg61
  z53 := Tryd.sizeOf61
  v53 := Tryd.zeroValue61
  t131 := Tryd.underlying103
  a131 := Tryd.isAgg103
  z131 := Tryd.sizeOf103
  v131 := Tryd.zeroValue103
  t182 := Tryd.underlying98
  a182 := Tryd.isAgg98
  z182 := Tryd.sizeOf98
  v182 := Tryd.zeroValue98
  t183 := Tryd.underlying99
  a183 := Tryd.isAgg99
  z183 := Tryd.sizeOf99
  v183 := Tryd.zeroValue99
  t218 := Tryd.underlying107
  a218 := Tryd.isAgg107
  z218 := Tryd.sizeOf107
  v218 := Tryd.zeroValue107
  t222 := Tryd.underlying111
  a222 := Tryd.isAgg111
  z222 := Tryd.sizeOf111
  v222 := Tryd.zeroValue111
  t228 := Tryd.underlying113
  a228 := Tryd.isAgg113
  z228 := Tryd.sizeOf113
  v228 := Tryd.zeroValue113
  t229 := Tryd.underlying114
  a229 := Tryd.isAgg114
  z229 := Tryd.sizeOf114
  v229 := Tryd.zeroValue114 }
open Go.Sort Go.RowKit in
theorem Tryd.slices_Sort_int (blk off cap : Nat) (zs : List Int) (w : World) (hH : Holds (Value.int .i64) w blk off zs.toArray) (hblk : blk < w.heap.size) (hsz : zs.length < 4611686018427387904) :
    Calls Tryd.prog 62 #[.slice (some ⟨blk, off, none⟩) zs.length cap] w fun e w' =>
      e = .returned (.tuple #[]) ∧ ∃ n os, w' = grow (putRow (Value.int .i64) (Sort.ahead w n) blk off (zs.mergeSort fun x y => decide (x ≤ y)).toArray) os := Any.slices_Sort_int Tryd.lays189 blk off cap zs w hH hblk hsz
open Go.RowKit Go.Sort in
/-- .. and plain. (LAID: no walk: one application.) -/
theorem Tryd.slices_Sort_int_none (p : Option Addr) (cap : Nat) (w : World) :
    Calls Tryd.prog 62 #[.slice p 0 cap] w fun e w' => e = .returned (.tuple #[]) ∧ w' = w := Any.slices_Sort_int_none Tryd.lays189 p cap w
end Go.Proofs
