/- Contracts of the library's sorted keys of maps at this translation, laid by the kit's tools. No condition beside those that they name. -/
import Derived.Shelf.SlIter.Nil
import Derived.Shelf.SortM.Plain
import Derived.Shelf.SortM.SortNone
import Derived.Ground.GgzProg
import Derived.Ground.SlgmProg
import Derived.Test.YtijghcbpfcjjnaaGreatDoorProg
namespace Go.Proofs
open Go.RowKit Go.Maps Go.Sort Go.Shelf
def Tryz.keys109_ren : Go.Shelf.Ren := ⟨fun | 7 => 109 | 10 => 173 | n => n, fun | 23 => 164 | 26 => 9 | 3 => 30 | 28 => 168 | 0 => 0 | 27 => 167 | 33 => 246 | 4 => 4 | n => n, fun | n => n⟩
theorem Tryz.keys109 : Go.Proofs.SlLaysZ.n7 Tryz.prog Tryz.keys109_ren := {
  mixed := by kernel_rfl
  f7 := ⟨Tryz.f109.name, by decide, Tryz.func109.trans (congrArg some (by kernel_rfl))⟩
  f10 := ⟨Tryz.f173.name, by decide, Tryz.func173.trans (congrArg some (by kernel_rfl))⟩
  t0 := Tryz.underlying0
  a0 := Tryz.isAgg0
  z0 := Tryz.sizeOf0
  v0 := Tryz.zeroValue0
  t4 := Tryz.underlying4
  a4 := Tryz.isAgg4
  z4 := Tryz.sizeOf4
  v4 := Tryz.zeroValue4
  t23 := Tryz.underlying164
  a23 := Tryz.isAgg164
  z23 := Tryz.sizeOf164
  v23 := Tryz.zeroValue164
  t26 := Tryz.underlying9
  a26 := Tryz.isAgg9
  z26 := Tryz.sizeOf9
  v26 := Tryz.zeroValue9
  t27 := Tryz.underlying167
  a27 := Tryz.isAgg167
  z27 := Tryz.sizeOf167
  v27 := Tryz.zeroValue167
  t28 := Tryz.underlying168
  a28 := Tryz.isAgg168
  z28 := Tryz.sizeOf168
  v28 := Tryz.zeroValue168
  t33 := Tryz.underlying246
  a33 := Tryz.isAgg246
  z33 := Tryz.sizeOf246
  v33 := Tryz.zeroValue246 }
def Tryz.sorted108_ren : Go.Shelf.Ren := ⟨fun | 6 => 108 | 8 => 172 | 9 => 170 | 11 => 214 | 13 => 209 | 12 => 213 | 23 => 240 | 24 => 241 | 14 => 242 | 15 => 243 | 16 => 244 | 17 => 245 | 18 => 246 | 19 => 247 | 20 => 248 | 21 => 249 | 22 => 250 | 25 => 271 | 26 => 272 | 27 => 273 | 28 => 274 | 29 => 275 | 30 => 276 | 31 => 282 | n => n, fun | 26 => 9 | 28 => 168 | 24 => 33 | 0 => 0 | 3 => 3 | 37 => 192 | 48 => 137 | 50 => 95 | 4 => 4 | 40 => 341 | 39 => 340 | 45 => 331 | 5 => 5 | 9 => 9 | 51 => 366 | 55 => 369 | 57 => 380 | 58 => 211 | 33 => 246 | n => n, fun | n => n⟩
theorem Tryz.sorted108 : Go.Proofs.SlLaysZ.n6 Tryz.prog Tryz.sorted108_ren := {
  mixed := by kernel_rfl
  f6 := ⟨Tryz.f108.name, by decide, Tryz.func108.trans (congrArg some (by kernel_rfl))⟩
  f8 := ⟨Tryz.f172.name, by decide, Tryz.func172.trans (congrArg some (by kernel_rfl))⟩
  f11 := ⟨Tryz.f214.name, by decide, Tryz.func214.trans (congrArg some (by kernel_rfl))⟩
  t0 := Tryz.underlying0
  a0 := Tryz.isAgg0
  z0 := Tryz.sizeOf0
  v0 := Tryz.zeroValue0
  t24 := Tryz.underlying33
  a24 := Tryz.isAgg33
  z24 := Tryz.sizeOf33
  v24 := Tryz.zeroValue33
  t26 := Tryz.underlying9
  a26 := Tryz.isAgg9
  z26 := Tryz.sizeOf9
  v26 := Tryz.zeroValue9
  t28 := Tryz.underlying168
  a28 := Tryz.isAgg168
  z28 := Tryz.sizeOf168
  v28 := Tryz.zeroValue168
  i26 := by kernel_rfl }
def Tryz.sort170_ren : Go.Shelf.Ren := ⟨fun | 6 => 170 | 8 => 209 | 9 => 213 | 19 => 240 | 20 => 241 | 21 => 242 | 22 => 243 | 23 => 244 | 24 => 245 | 25 => 246 | 26 => 247 | 27 => 248 | 28 => 249 | 29 => 250 | 36 => 271 | 31 => 272 | 32 => 273 | 37 => 274 | 38 => 275 | 39 => 276 | 41 => 282 | n => n, fun | 27 => 33 | 29 => 9 | 3 => 3 | 32 => 192 | 26 => 33 | 0 => 0 | 44 => 137 | 46 => 95 | 4 => 4 | 36 => 341 | 35 => 340 | 41 => 331 | 5 => 5 | 9 => 9 | 53 => 366 | 57 => 369 | 63 => 380 | 64 => 211 | n => n, fun | n => n⟩
theorem Tryz.sort170 : Go.Proofs.SlLaysM.n6 Tryz.prog Tryz.sort170_ren := {
  mixed := by kernel_rfl
  f6 := ⟨Tryz.f170.name, by decide, Tryz.func170.trans (congrArg some (by kernel_rfl))⟩
  f8 := Tryz.func209.trans (congrArg some (by kernel_rfl))
  f9 := ⟨Tryz.f213.name, by decide, Tryz.func213.trans (congrArg some (by kernel_rfl))⟩
  f19 := Tryz.func240.trans (congrArg some (by kernel_rfl))
  f20 := Tryz.func241.trans (congrArg some (by kernel_rfl))
  f21 := ⟨Tryz.f242.name, by decide, Tryz.func242.trans (congrArg some (by kernel_rfl))⟩
  f22 := ⟨Tryz.f243.name, by decide, Tryz.func243.trans (congrArg some (by kernel_rfl))⟩
  f23 := ⟨Tryz.f244.name, by decide, Tryz.func244.trans (congrArg some (by kernel_rfl))⟩
  f24 := ⟨Tryz.f245.name, by decide, Tryz.func245.trans (congrArg some (by kernel_rfl))⟩
  f25 := ⟨Tryz.f246.name, by decide, Tryz.func246.trans (congrArg some (by kernel_rfl))⟩
  f26 := ⟨Tryz.f247.name, by decide, Tryz.func247.trans (congrArg some (by kernel_rfl))⟩
  f27 := ⟨Tryz.f248.name, by decide, Tryz.func248.trans (congrArg some (by kernel_rfl))⟩
  f28 := ⟨Tryz.f249.name, by decide, Tryz.func249.trans (congrArg some (by kernel_rfl))⟩
  f29 := ⟨Tryz.f250.name, by decide, Tryz.func250.trans (congrArg some (by kernel_rfl))⟩
  f31 := Tryz.func272.trans (congrArg some (by kernel_rfl))
  f32 := Tryz.func273.trans (congrArg some (by kernel_rfl))
  f36 := ⟨Tryz.f271.name, by decide, Tryz.func271.trans (congrArg some (by kernel_rfl))⟩
  f37 := ⟨Tryz.f274.name, by decide, Tryz.func274.trans (congrArg some (by kernel_rfl))⟩
  f38 := ⟨Tryz.f275.name, by decide, Tryz.func275.trans (congrArg some (by kernel_rfl))⟩
  f39 := ⟨Tryz.f276.name, by decide, Tryz.func276.trans (congrArg some (by kernel_rfl))⟩
  f41 := ⟨Tryz.f282.name, by decide, Tryz.func282.trans (congrArg some (by kernel_rfl))⟩
  t0 := Tryz.underlying0
  a0 := Tryz.isAgg0
  z0 := Tryz.sizeOf0
  v0 := Tryz.zeroValue0
  t3 := Tryz.underlying3
  a3 := Tryz.isAgg3
  z3 := Tryz.sizeOf3
  v3 := Tryz.zeroValue3
  t4 := Tryz.underlying4
  a4 := Tryz.isAgg4
  z4 := Tryz.sizeOf4
  v4 := Tryz.zeroValue4
  t5 := Tryz.underlying5
  a5 := Tryz.isAgg5
  z5 := Tryz.sizeOf5
  v5 := Tryz.zeroValue5
  t9 := Tryz.underlying9
  a9 := Tryz.isAgg9
  z9 := Tryz.sizeOf9
  v9 := Tryz.zeroValue9
  t26 := Tryz.underlying33
  a26 := Tryz.isAgg33
  z26 := Tryz.sizeOf33
  v26 := Tryz.zeroValue33
  t27 := Tryz.underlying33
  a27 := Tryz.isAgg33
  z27 := Tryz.sizeOf33
  v27 := Tryz.zeroValue33
  t29 := Tryz.underlying9
  a29 := Tryz.isAgg9
  z29 := Tryz.sizeOf9
  v29 := Tryz.zeroValue9
  t32 := Tryz.underlying192
  a32 := Tryz.isAgg192
  z32 := Tryz.sizeOf192
  v32 := Tryz.zeroValue192
  t35 := Tryz.underlying340
  a35 := Tryz.isAgg340
  z35 := Tryz.sizeOf340
  v35 := Tryz.zeroValue340
  t36 := Tryz.underlying341
  a36 := Tryz.isAgg341
  z36 := Tryz.sizeOf341
  v36 := Tryz.zeroValue341
  t41 := Tryz.underlying331
  a41 := Tryz.isAgg331
  z41 := Tryz.sizeOf331
  v41 := Tryz.zeroValue331
  t44 := Tryz.underlying137
  a44 := Tryz.isAgg137
  z44 := Tryz.sizeOf137
  v44 := Tryz.zeroValue137
  t46 := Tryz.underlying95
  a46 := Tryz.isAgg95
  z46 := Tryz.sizeOf95
  v46 := Tryz.zeroValue95
  t53 := Tryz.underlying366
  a53 := Tryz.isAgg366
  z53 := Tryz.sizeOf366
  v53 := Tryz.zeroValue366
  t57 := Tryz.underlying369
  a57 := Tryz.isAgg369
  z57 := Tryz.sizeOf369
  v57 := Tryz.zeroValue369
  t63 := Tryz.underlying380
  a63 := Tryz.isAgg380
  z63 := Tryz.sizeOf380
  v63 := Tryz.zeroValue380
  t64 := Tryz.underlying211
  a64 := Tryz.isAgg211
  z64 := Tryz.sizeOf211
  v64 := Tryz.zeroValue211 }
theorem Tryz.sorts108 (m : Nat) : AnyZ.SortsIn Tryz.prog Tryz.sorted108_ren Fence.wide m :=
  ⟨fun blk off cap ss W hH hblk hsz => callsIn_wide.2 (AnyM.slices_Sort_string Tryz.sort170 blk off cap ss W hH hblk hsz),
   fun p cap W => callsIn_wide.2 (AnyM.slices_Sort_string_none Tryz.sort170 p cap W)⟩
theorem Tryz.maps_Keys_109 (mb : Option Nat) (W : World) : CallsIn Fence.wide 5 Tryz.prog 109 #[.map mb] W fun e w' => e = .returned (.func (.func 173) #[] #[.pointer (some ⟨W.heap.size, 0, none⟩)]) ∧ w' = W.alloc (.cells #[.map mb] 164) :=
  AnyZ.keys_in Tryz.keys109 Fence.wide 5 trivial rfl mb W
set_option maxHeartbeats 1000000 in
theorem Tryz.slices_Sorted_keys_108_109 {H : Type} (b nn : Nat) (D0 : DataW H) (R : Value → Option (DataW H × List MemPlace)) (w : World) (hown : w.ownsMap Tryz.prog 9 R b nn D0) (hmax : Maps.size D0 ≤ maxLen) (hbytes : Maps.size D0 * 16 ≤ 140737488355328) :
    CallsIn Fence.wide 5 Tryz.prog 108 #[.func (.func 173) #[] #[.pointer (some ⟨w.heap.size, 0, none⟩)]] (w.alloc (.cells #[.map (some b)] 164)) fun e w' => ∃ (v : Value) (ss : List (List UInt8)), e = .returned v ∧ ss.Perm (strKeys D0) ∧
      w'.ownsRow (w.alloc (.cells #[.map (some b)] 164)).heap.size 9 1 v ss.length ((ss.mergeSort (fun x y => decide (x ≤ y))).map encStr) ∧ (v = .slice none 0 0 ↔ ss = []) ∧ Below (w.alloc (.cells #[.map (some b)] 164)).heap.size (w.alloc (.cells #[.map (some b)] 164)) w' := by
  have hbl := hown.lt
  have hseq : SeqGives Fence.wide 2 Tryz.prog 173 #[.pointer (some ⟨w.heap.size, 0, none⟩)] encStr (fun ss => ss.Perm (strKeys D0)) (Maps.size D0) (w.alloc (.cells #[.map (some b)] 164)) :=
    AnyZ.keys_gives (ρ := Tryz.keys109_ren) { Tryz.keys109 with } Fence.wide _ trivial rfl (by omega) w.heap.size b nn D0 _ (by simp) (by simp) (by
      obtain ⟨es, clock, hb, Ft, hs, hD⟩ := hown
      exact ⟨es, clock, (Below.heap_alloc _ _ b hbl).trans hb, Ft, hs, hD⟩)
  exact AnyZ.sorted_in Tryz.sorted108 Fence.wide 5 trivial trivial trivial trivial rfl (by omega) (Tryz.sorts108 _) (enters_of Tryz.func170 (by kernel_rfl) rfl) 173 #[.pointer (some ⟨w.heap.size, 0, none⟩)] trivial (enters_of Tryz.func173 (by kernel_rfl) rfl) _ _ hmax hbytes _ hseq
end Go.Proofs
