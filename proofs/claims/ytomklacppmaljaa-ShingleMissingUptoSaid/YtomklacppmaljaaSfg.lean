/-
  The contract of slices.SortFunc at this program (laid by the kit's own tool, in plain words).
-/
import Derived.Shelf.SlSortCmp.NoneTotal
import Derived.Test.YtomklacppmaljaaProg
namespace Go.Proofs
open Go.Shelf
def Try.sortGram_ren : Go.Shelf.Ren := ⟨fun | 6 => 90 | 15 => 129 | 14 => 128 | 28 => 172 | 29 => 173 | 20 => 164 | 21 => 165 | 22 => 166 | 23 => 167 | 24 => 168 | 25 => 169 | 26 => 170 | 27 => 171 | 46 => 198 | 47 => 199 | 48 => 200 | 49 => 201 | 50 => 202 | 57 => 209 | n => n, fun | 22 => 67 | 24 => 72 | 25 => 136 | 3 => 3 | 39 => 84 | 0 => 0 | 53 => 209 | 55 => 211 | 4 => 4 | 46 => 203 | 45 => 202 | 50 => 146 | 5 => 5 | 9 => 9 | 66 => 222 | 70 => 226 | 76 => 232 | 77 => 190 | n => n, fun | n => n⟩
theorem Try.sortGram : Go.Proofs.SlLaysF0.n6 Try.prog Try.sortGram_ren := {
  mixed := by kernel_rfl
  f6 := ⟨Try.f90.name, by decide, Try.func90.trans (congrArg some (by kernel_rfl))⟩
  f14 := ⟨Try.f128.name, by decide, Try.func128.trans (congrArg some (by kernel_rfl))⟩
  f15 := Try.func129.trans (congrArg some (by kernel_rfl))
  f20 := ⟨Try.f164.name, by decide, Try.func164.trans (congrArg some (by kernel_rfl))⟩
  f21 := ⟨Try.f165.name, by decide, Try.func165.trans (congrArg some (by kernel_rfl))⟩
  f22 := ⟨Try.f166.name, by decide, Try.func166.trans (congrArg some (by kernel_rfl))⟩
  f23 := ⟨Try.f167.name, by decide, Try.func167.trans (congrArg some (by kernel_rfl))⟩
  f24 := ⟨Try.f168.name, by decide, Try.func168.trans (congrArg some (by kernel_rfl))⟩
  f25 := ⟨Try.f169.name, by decide, Try.func169.trans (congrArg some (by kernel_rfl))⟩
  f26 := ⟨Try.f170.name, by decide, Try.func170.trans (congrArg some (by kernel_rfl))⟩
  f27 := ⟨Try.f171.name, by decide, Try.func171.trans (congrArg some (by kernel_rfl))⟩
  f28 := Try.func172.trans (congrArg some (by kernel_rfl))
  f29 := Try.func173.trans (congrArg some (by kernel_rfl))
  f46 := ⟨Try.f198.name, by decide, Try.func198.trans (congrArg some (by kernel_rfl))⟩
  f47 := Try.func199.trans (congrArg some (by kernel_rfl))
  f48 := Try.func200.trans (congrArg some (by kernel_rfl))
  f49 := ⟨Try.f201.name, by decide, Try.func201.trans (congrArg some (by kernel_rfl))⟩
  f50 := ⟨Try.f202.name, by decide, Try.func202.trans (congrArg some (by kernel_rfl))⟩
  f57 := ⟨Try.f209.name, by decide, Try.func209.trans (congrArg some (by kernel_rfl))⟩
  t0 := Try.underlying0
  a0 := Try.isAgg0
  z0 := Try.sizeOf0
  v0 := Try.zeroValue0
  t3 := Try.underlying3
  a3 := Try.isAgg3
  z3 := Try.sizeOf3
  v3 := Try.zeroValue3
  t4 := Try.underlying4
  a4 := Try.isAgg4
  z4 := Try.sizeOf4
  v4 := Try.zeroValue4
  t5 := Try.underlying5
  a5 := Try.isAgg5
  z5 := Try.sizeOf5
  v5 := Try.zeroValue5
  t9 := Try.underlying9
  a9 := Try.isAgg9
  z9 := Try.sizeOf9
  v9 := Try.zeroValue9
  t22 := Try.underlying67
  a22 := Try.isAgg67
  z22 := Try.sizeOf67
  v22 := Try.zeroValue67
  t25 := Try.underlying136
  a25 := Try.isAgg136
  z25 := Try.sizeOf136
  v25 := Try.zeroValue136
  t39 := Try.underlying84
  a39 := Try.isAgg84
  z39 := Try.sizeOf84
  v39 := Try.zeroValue84
  t45 := Try.underlying202
  a45 := Try.isAgg202
  z45 := Try.sizeOf202
  v45 := Try.zeroValue202
  t46 := Try.underlying203
  a46 := Try.isAgg203
  z46 := Try.sizeOf203
  v46 := Try.zeroValue203
  t50 := Try.underlying146
  a50 := Try.isAgg146
  z50 := Try.sizeOf146
  v50 := Try.zeroValue146
  t53 := Try.underlying209
  a53 := Try.isAgg209
  z53 := Try.sizeOf209
  v53 := Try.zeroValue209
  t55 := Try.underlying211
  a55 := Try.isAgg211
  z55 := Try.sizeOf211
  v55 := Try.zeroValue211
  t66 := Try.underlying222
  a66 := Try.isAgg222
  z66 := Try.sizeOf222
  v66 := Try.zeroValue222
  t70 := Try.underlying226
  a70 := Try.isAgg226
  z70 := Try.sizeOf226
  v70 := Try.zeroValue226
  t76 := Try.underlying232
  a76 := Try.isAgg232
  z76 := Try.sizeOf232
  v76 := Try.zeroValue232
  t77 := Try.underlying190
  a77 := Try.isAgg190
  z77 := Try.sizeOf190
  v77 := Try.zeroValue190 }
end Go.Proofs
