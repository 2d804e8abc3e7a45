/-
  Contracts of the library off the shelf, laid at this program (written by the kit's tools).
-/
import Derived.Shelf.LaysM
import Derived.Shelf.Sort.Plain
import Derived.Shelf.Slices.In.SortNone
import Derived.Test.YtomklacppmaljaaProg
namespace Go.Proofs
open Go.Shelf
def Try.lays190_ren : Go.Shelf.Ren := ⟨fun | 190 => 109 | 125 => 129 | 258 => 146 | 128 => 172 | 129 => 173 | 302 => 181 | 303 => 182 | 304 => 183 | 305 => 184 | 306 => 185 | 307 => 186 | 308 => 187 | 309 => 188 | 310 => 189 | 333 => 204 | 329 => 199 | 330 => 200 | 334 => 205 | 335 => 206 | 336 => 130 | 344 => 210 | n => n, fun | 31 => 34 | 9 => 9 | 3 => 3 | 46 => 84 | 0 => 0 | 51 => 209 | 53 => 211 | 4 => 4 | 183 => 203 | 182 => 202 | 131 => 146 | 5 => 5 | 218 => 222 | 222 => 226 | 228 => 232 | 229 => 190 | n => n, fun | n => n⟩
theorem Try.lays190 : Go.Proofs.Lays.n190 Try.prog Try.lays190_ren := {
  mixed := by kernel_rfl
  f125 := Try.func129.trans (congrArg some (by kernel_rfl))
  f128 := Try.func172.trans (congrArg some (by kernel_rfl))
  f129 := Try.func173.trans (congrArg some (by kernel_rfl))
  f190 := Try.func109.trans (congrArg some (by kernel_rfl))
  f258 := Try.func146.trans (congrArg some (by kernel_rfl))
  f302 := Try.func181.trans (congrArg some (by kernel_rfl))
  f303 := Try.func182.trans (congrArg some (by kernel_rfl))
  f304 := Try.func183.trans (congrArg some (by kernel_rfl))
  f305 := Try.func184.trans (congrArg some (by kernel_rfl))
  f306 := Try.func185.trans (congrArg some (by kernel_rfl))
  f307 := Try.func186.trans (congrArg some (by kernel_rfl))
  f308 := Try.func187.trans (congrArg some (by kernel_rfl))
  f309 := Try.func188.trans (congrArg some (by kernel_rfl))
  f310 := Try.func189.trans (congrArg some (by kernel_rfl))
  f329 := Try.func199.trans (congrArg some (by kernel_rfl))
  f330 := Try.func200.trans (congrArg some (by kernel_rfl))
  f333 := Try.func204.trans (congrArg some (by kernel_rfl))
  f334 := Try.func205.trans (congrArg some (by kernel_rfl))
  f335 := Try.func206.trans (congrArg some (by kernel_rfl))
  f336 := Try.func130.trans (congrArg some (by kernel_rfl))
  f344 := Try.func210.trans (congrArg some (by kernel_rfl))
  t0 := Try.underlying0
  a0 := Try.isAgg0
  z0 := Try.sizeOf0
  v0 := Try.zeroValue0
  t3 := Try.underlying3
  a3 := Try.isAgg3
  z3 := Try.sizeOf3
  v3 := Try.zeroValue3
  t4 := Try.underlying4
  a4 := Try.isAgg4
  z4 := Try.sizeOf4
  v4 := Try.zeroValue4
  t5 := Try.underlying5
  a5 := Try.isAgg5
  z5 := Try.sizeOf5
  v5 := Try.zeroValue5
  t9 := Try.underlying9
  a9 := Try.isAgg9
  z9 := Try.sizeOf9
  v9 := Try.zeroValue9
  t31 := Try.underlying34
  a31 := Try.isAgg34
  z31 := Try.sizeOf34
  v31 := Try.zeroValue34
  t46 := Try.underlying84
  a46 := Try.isAgg84
  z46 := Try.sizeOf84
  v46 := Try.zeroValue84
  t51 := Try.underlying209
  a51 := Try.isAgg209
  z51 := Try.sizeOf209
  v51 := Try.zeroValue209
  t53 := Try.underlying211
  a53 := Try.isAgg211
  z53 := Try.sizeOf211
  v53 := Try.zeroValue211
  t131 := Try.underlying146
  a131 := Try.isAgg146
  z131 := Try.sizeOf146
  v131 := Try.zeroValue146
  t182 := Try.underlying202
  a182 := Try.isAgg202
  z182 := Try.sizeOf202
  v182 := Try.zeroValue202
  t183 := Try.underlying203
  a183 := Try.isAgg203
  z183 := Try.sizeOf203
  v183 := Try.zeroValue203
  t218 := Try.underlying222
  a218 := Try.isAgg222
  z218 := Try.sizeOf222
  v218 := Try.zeroValue222
  t222 := Try.underlying226
  a222 := Try.isAgg226
  z222 := Try.sizeOf226
  v222 := Try.zeroValue226
  t228 := Try.underlying232
  a228 := Try.isAgg232
  z228 := Try.sizeOf232
  v228 := Try.zeroValue232
  t229 := Try.underlying190
  a229 := Try.isAgg190
  z229 := Try.sizeOf190
  v229 := Try.zeroValue190 }
open Go.Sort Go.RowKit in
theorem Try.slices_Sort_string (blk off cap : Nat) (ss : List (List UInt8)) (w : World) (hH : Holds encStr w blk off ss.toArray) (hblk : blk < w.heap.size) (hsz : ss.length < 4611686018427387904) :
    Calls Try.prog 109 #[.slice (some ⟨blk, off, none⟩) ss.length cap] w fun e w' =>
      e = .returned (.tuple #[]) ∧ ∃ n os, w' = grow (putRow encStr (Sort.ahead w n) blk off (ss.mergeSort fun x y => decide (x ≤ y)).toArray) os := Any.slices_Sort_string Try.lays190 blk off cap ss w hH hblk hsz
open Go.RowKit Go.Sort in
theorem Try.slices_Sort_string_none (p : Option Addr) (cap : Nat) (w : World) :
    Calls Try.prog 109 #[.slice p 0 cap] w fun e w' => e = .returned (.tuple #[]) ∧ w' = w := Any.slices_Sort_string_none Try.lays190 p cap w
end Go.Proofs
