/-
  Contracts of the library off the shelf, laid at this program (written by the kit's tools).
-/
import Derived.Shelf.SlIter.Nil
import Derived.Shelf.SortM.Plain
import Derived.Shelf.SortM.SortNone
import Derived.Ground.GgzProg
import Derived.Ground.SlgmProg
import Derived.Test.YtomklacppmaljaaProg
namespace Go.Proofs
open Go.RowKit Go.Maps Go.Sort Go.Shelf
def Try.keys115_ren : Go.Shelf.Ren := ⟨fun | 7 => 115 | 10 => 150 | n => n, fun | 23 => 107 | 26 => 9 | 3 => 106 | 28 => 168 | 0 => 0 | 27 => 167 | 33 => 59 | 4 => 4 | n => n, fun | n => n⟩
theorem Try.keys115 : Go.Proofs.SlLaysZ.n7 Try.prog Try.keys115_ren := {
  mixed := by kernel_rfl
  f7 := ⟨Try.f115.name, by decide, Try.func115.trans (congrArg some (by kernel_rfl))⟩
  f10 := ⟨Try.f150.name, by decide, Try.func150.trans (congrArg some (by kernel_rfl))⟩
  t0 := Try.underlying0
  a0 := Try.isAgg0
  z0 := Try.sizeOf0
  v0 := Try.zeroValue0
  t4 := Try.underlying4
  a4 := Try.isAgg4
  z4 := Try.sizeOf4
  v4 := Try.zeroValue4
  t23 := Try.underlying107
  a23 := Try.isAgg107
  z23 := Try.sizeOf107
  v23 := Try.zeroValue107
  t26 := Try.underlying9
  a26 := Try.isAgg9
  z26 := Try.sizeOf9
  v26 := Try.zeroValue9
  t27 := Try.underlying167
  a27 := Try.isAgg167
  z27 := Try.sizeOf167
  v27 := Try.zeroValue167
  t28 := Try.underlying168
  a28 := Try.isAgg168
  z28 := Try.sizeOf168
  v28 := Try.zeroValue168
  t33 := Try.underlying59
  a33 := Try.isAgg59
  z33 := Try.sizeOf59
  v33 := Try.zeroValue59 }
def Try.sorted114_ren : Go.Shelf.Ren := ⟨fun | 6 => 114 | 8 => 149 | 9 => 109 | 11 => 192 | 13 => 129 | 12 => 146 | 23 => 172 | 24 => 173 | 14 => 181 | 15 => 182 | 16 => 183 | 17 => 184 | 18 => 185 | 19 => 186 | 20 => 187 | 21 => 188 | 22 => 189 | 25 => 204 | 26 => 199 | 27 => 200 | 28 => 205 | 29 => 206 | 30 => 130 | 31 => 210 | n => n, fun | 26 => 9 | 28 => 168 | 24 => 34 | 0 => 0 | 3 => 3 | 37 => 84 | 48 => 209 | 50 => 211 | 4 => 4 | 40 => 203 | 39 => 202 | 45 => 146 | 5 => 5 | 9 => 9 | 51 => 222 | 55 => 226 | 57 => 232 | 58 => 190 | 33 => 59 | n => n, fun | n => n⟩
theorem Try.sorted114 : Go.Proofs.SlLaysZ.n6 Try.prog Try.sorted114_ren := {
  mixed := by kernel_rfl
  f6 := ⟨Try.f114.name, by decide, Try.func114.trans (congrArg some (by kernel_rfl))⟩
  f8 := ⟨Try.f149.name, by decide, Try.func149.trans (congrArg some (by kernel_rfl))⟩
  f11 := ⟨Try.f192.name, by decide, Try.func192.trans (congrArg some (by kernel_rfl))⟩
  t0 := Try.underlying0
  a0 := Try.isAgg0
  z0 := Try.sizeOf0
  v0 := Try.zeroValue0
  t24 := Try.underlying34
  a24 := Try.isAgg34
  z24 := Try.sizeOf34
  v24 := Try.zeroValue34
  t26 := Try.underlying9
  a26 := Try.isAgg9
  z26 := Try.sizeOf9
  v26 := Try.zeroValue9
  t28 := Try.underlying168
  a28 := Try.isAgg168
  z28 := Try.sizeOf168
  v28 := Try.zeroValue168
  i26 := by kernel_rfl }
def Try.sort109_ren : Go.Shelf.Ren := ⟨fun | 6 => 109 | 8 => 129 | 9 => 146 | 19 => 172 | 20 => 173 | 21 => 181 | 22 => 182 | 23 => 183 | 24 => 184 | 25 => 185 | 26 => 186 | 27 => 187 | 28 => 188 | 29 => 189 | 36 => 204 | 31 => 199 | 32 => 200 | 37 => 205 | 38 => 206 | 39 => 130 | 41 => 210 | n => n, fun | 27 => 34 | 29 => 9 | 3 => 3 | 32 => 84 | 26 => 34 | 0 => 0 | 44 => 209 | 46 => 211 | 4 => 4 | 36 => 203 | 35 => 202 | 41 => 146 | 5 => 5 | 9 => 9 | 53 => 222 | 57 => 226 | 63 => 232 | 64 => 190 | n => n, fun | n => n⟩
theorem Try.sort109 : Go.Proofs.SlLaysM.n6 Try.prog Try.sort109_ren := {
  mixed := by kernel_rfl
  f6 := ⟨Try.f109.name, by decide, Try.func109.trans (congrArg some (by kernel_rfl))⟩
  f8 := Try.func129.trans (congrArg some (by kernel_rfl))
  f9 := ⟨Try.f146.name, by decide, Try.func146.trans (congrArg some (by kernel_rfl))⟩
  f19 := Try.func172.trans (congrArg some (by kernel_rfl))
  f20 := Try.func173.trans (congrArg some (by kernel_rfl))
  f21 := ⟨Try.f181.name, by decide, Try.func181.trans (congrArg some (by kernel_rfl))⟩
  f22 := ⟨Try.f182.name, by decide, Try.func182.trans (congrArg some (by kernel_rfl))⟩
  f23 := ⟨Try.f183.name, by decide, Try.func183.trans (congrArg some (by kernel_rfl))⟩
  f24 := ⟨Try.f184.name, by decide, Try.func184.trans (congrArg some (by kernel_rfl))⟩
  f25 := ⟨Try.f185.name, by decide, Try.func185.trans (congrArg some (by kernel_rfl))⟩
  f26 := ⟨Try.f186.name, by decide, Try.func186.trans (congrArg some (by kernel_rfl))⟩
  f27 := ⟨Try.f187.name, by decide, Try.func187.trans (congrArg some (by kernel_rfl))⟩
  f28 := ⟨Try.f188.name, by decide, Try.func188.trans (congrArg some (by kernel_rfl))⟩
  f29 := ⟨Try.f189.name, by decide, Try.func189.trans (congrArg some (by kernel_rfl))⟩
  f31 := Try.func199.trans (congrArg some (by kernel_rfl))
  f32 := Try.func200.trans (congrArg some (by kernel_rfl))
  f36 := ⟨Try.f204.name, by decide, Try.func204.trans (congrArg some (by kernel_rfl))⟩
  f37 := ⟨Try.f205.name, by decide, Try.func205.trans (congrArg some (by kernel_rfl))⟩
  f38 := ⟨Try.f206.name, by decide, Try.func206.trans (congrArg some (by kernel_rfl))⟩
  f39 := ⟨Try.f130.name, by decide, Try.func130.trans (congrArg some (by kernel_rfl))⟩
  f41 := ⟨Try.f210.name, by decide, Try.func210.trans (congrArg some (by kernel_rfl))⟩
  t0 := Try.underlying0
  a0 := Try.isAgg0
  z0 := Try.sizeOf0
  v0 := Try.zeroValue0
  t3 := Try.underlying3
  a3 := Try.isAgg3
  z3 := Try.sizeOf3
  v3 := Try.zeroValue3
  t4 := Try.underlying4
  a4 := Try.isAgg4
  z4 := Try.sizeOf4
  v4 := Try.zeroValue4
  t5 := Try.underlying5
  a5 := Try.isAgg5
  z5 := Try.sizeOf5
  v5 := Try.zeroValue5
  t9 := Try.underlying9
  a9 := Try.isAgg9
  z9 := Try.sizeOf9
  v9 := Try.zeroValue9
  t26 := Try.underlying34
  a26 := Try.isAgg34
  z26 := Try.sizeOf34
  v26 := Try.zeroValue34
  t27 := Try.underlying34
  a27 := Try.isAgg34
  z27 := Try.sizeOf34
  v27 := Try.zeroValue34
  t29 := Try.underlying9
  a29 := Try.isAgg9
  z29 := Try.sizeOf9
  v29 := Try.zeroValue9
  t32 := Try.underlying84
  a32 := Try.isAgg84
  z32 := Try.sizeOf84
  v32 := Try.zeroValue84
  t35 := Try.underlying202
  a35 := Try.isAgg202
  z35 := Try.sizeOf202
  v35 := Try.zeroValue202
  t36 := Try.underlying203
  a36 := Try.isAgg203
  z36 := Try.sizeOf203
  v36 := Try.zeroValue203
  t41 := Try.underlying146
  a41 := Try.isAgg146
  z41 := Try.sizeOf146
  v41 := Try.zeroValue146
  t44 := Try.underlying209
  a44 := Try.isAgg209
  z44 := Try.sizeOf209
  v44 := Try.zeroValue209
  t46 := Try.underlying211
  a46 := Try.isAgg211
  z46 := Try.sizeOf211
  v46 := Try.zeroValue211
  t53 := Try.underlying222
  a53 := Try.isAgg222
  z53 := Try.sizeOf222
  v53 := Try.zeroValue222
  t57 := Try.underlying226
  a57 := Try.isAgg226
  z57 := Try.sizeOf226
  v57 := Try.zeroValue226
  t63 := Try.underlying232
  a63 := Try.isAgg232
  z63 := Try.sizeOf232
  v63 := Try.zeroValue232
  t64 := Try.underlying190
  a64 := Try.isAgg190
  z64 := Try.sizeOf190
  v64 := Try.zeroValue190 }
theorem Try.sorts114 (m : Nat) : AnyZ.SortsIn Try.prog Try.sorted114_ren Fence.wide m :=
  ⟨fun blk off cap ss W hH hblk hsz => callsIn_wide.2 (AnyM.slices_Sort_string Try.sort109 blk off cap ss W hH hblk hsz),
   fun p cap W => callsIn_wide.2 (AnyM.slices_Sort_string_none Try.sort109 p cap W)⟩
theorem Try.maps_Keys_115 (mb : Option Nat) (W : World) : CallsIn Fence.wide 5 Try.prog 115 #[.map mb] W fun e w' => e = .returned (.func (.func 150) #[] #[.pointer (some ⟨W.heap.size, 0, none⟩)]) ∧ w' = W.alloc (.cells #[.map mb] 107) :=
  AnyZ.keys_in Try.keys115 Fence.wide 5 trivial rfl mb W
set_option maxHeartbeats 1000000 in
theorem Try.slices_Sorted_keys_114_115 {H : Type} (b nn : Nat) (D0 : DataW H) (R : Value → Option (DataW H × List MemPlace)) (w : World) (hown : w.ownsMap Try.prog 9 R b nn D0) (hmax : Maps.size D0 ≤ maxLen) (hbytes : Maps.size D0 * 16 ≤ 140737488355328) :
    CallsIn Fence.wide 5 Try.prog 114 #[.func (.func 150) #[] #[.pointer (some ⟨w.heap.size, 0, none⟩)]] (w.alloc (.cells #[.map (some b)] 107)) fun e w' => ∃ (v : Value) (ss : List (List UInt8)), e = .returned v ∧ ss.Perm (strKeys D0) ∧
      w'.ownsRow (w.alloc (.cells #[.map (some b)] 107)).heap.size 9 1 v ss.length ((ss.mergeSort (fun x y => decide (x ≤ y))).map encStr) ∧ (v = .slice none 0 0 ↔ ss = []) ∧ Below (w.alloc (.cells #[.map (some b)] 107)).heap.size (w.alloc (.cells #[.map (some b)] 107)) w' := by
  have hbl := hown.lt
  have hseq : SeqGives Fence.wide 2 Try.prog 150 #[.pointer (some ⟨w.heap.size, 0, none⟩)] encStr (fun ss => ss.Perm (strKeys D0)) (Maps.size D0) (w.alloc (.cells #[.map (some b)] 107)) :=
    AnyZ.keys_gives (ρ := Try.keys115_ren) { Try.keys115 with } Fence.wide _ trivial rfl (by omega) w.heap.size b nn D0 _ (by simp) (by simp) (by
      obtain ⟨es, clock, hb, Ft, hs, hD⟩ := hown
      exact ⟨es, clock, (Below.heap_alloc _ _ b hbl).trans hb, Ft, hs, hD⟩)
  exact AnyZ.sorted_in Try.sorted114 Fence.wide 5 trivial trivial trivial trivial rfl (by omega) (Try.sorts114 _) (enters_of Try.func109 (by kernel_rfl) rfl) 150 #[.pointer (some ⟨w.heap.size, 0, none⟩)] trivial (enters_of Try.func150 (by kernel_rfl) rfl) _ _ hmax hbytes _ hseq
set_option maxHeartbeats 1000000 in
theorem Try.slices_Sorted_keys_nil_114_115 (w : World) :
    CallsIn Fence.wide 5 Try.prog 114 #[.func (.func 150) #[] #[.pointer (some ⟨w.heap.size, 0, none⟩)]] (w.alloc (.cells #[.map none] 107)) fun e w' => ∃ (v : Value) (ss : List (List UInt8)), e = .returned v ∧ ss = [] ∧
      w'.ownsRow (w.alloc (.cells #[.map none] 107)).heap.size 9 1 v ss.length ((ss.mergeSort (fun x y => decide (x ≤ y))).map encStr) ∧ (v = .slice none 0 0 ↔ ss = []) ∧ Below (w.alloc (.cells #[.map none] 107)).heap.size (w.alloc (.cells #[.map none] 107)) w' := by
  have hseq : SeqGives Fence.wide 2 Try.prog 150 #[.pointer (some ⟨w.heap.size, 0, none⟩)] encStr (fun ss : List (List UInt8) => ss = []) 0 (w.alloc (.cells #[.map none] 107)) :=
    AnyZ.keys_gives_nil (ρ := Try.keys115_ren) { Try.keys115 with } Fence.wide _ trivial rfl w.heap.size _ (by simp) (by simp)
  exact AnyZ.sorted_in Try.sorted114 Fence.wide 5 trivial trivial trivial trivial rfl (by omega) (Try.sorts114 _) (enters_of Try.func109 (by kernel_rfl) rfl) 150 #[.pointer (some ⟨w.heap.size, 0, none⟩)] trivial (enters_of Try.func150 (by kernel_rfl) rfl) _ 0 (Nat.zero_le _) (by omega) _ hseq
end Go.Proofs
