/- Contracts of the library's sorted keys of maps at this translation, laid by the kit's tools. No condition beside those that they name. -/
import Derived.Shelf.SlIter.Nil
import Derived.Shelf.SortM.Plain
import Derived.Shelf.SortM.SortNone
import Derived.Ground.GgzProg
import Derived.Ground.SlgmProg
import Derived.Test.YtdamnfpigajmoaaGreatDoorProg
namespace Go.Proofs
open Go.RowKit Go.Maps Go.Sort Go.Shelf
def Tryz.keys108_ren : Go.Shelf.Ren := ⟨fun | 7 => 108 | 10 => 166 | n => n, fun | 23 => 150 | 26 => 9 | 3 => 57 | 28 => 154 | 0 => 0 | 27 => 153 | 33 => 238 | 4 => 4 | n => n, fun | n => n⟩
theorem Tryz.keys108 : Go.Proofs.SlLaysZ.n7 Tryz.prog Tryz.keys108_ren := {
  mixed := by kernel_rfl
  f7 := ⟨Tryz.f108.name, by decide, Tryz.func108.trans (congrArg some (by kernel_rfl))⟩
  f10 := ⟨Tryz.f166.name, by decide, Tryz.func166.trans (congrArg some (by kernel_rfl))⟩
  t0 := Tryz.underlying0
  a0 := Tryz.isAgg0
  z0 := Tryz.sizeOf0
  v0 := Tryz.zeroValue0
  t4 := Tryz.underlying4
  a4 := Tryz.isAgg4
  z4 := Tryz.sizeOf4
  v4 := Tryz.zeroValue4
  t23 := Tryz.underlying150
  a23 := Tryz.isAgg150
  z23 := Tryz.sizeOf150
  v23 := Tryz.zeroValue150
  t26 := Tryz.underlying9
  a26 := Tryz.isAgg9
  z26 := Tryz.sizeOf9
  v26 := Tryz.zeroValue9
  t27 := Tryz.underlying153
  a27 := Tryz.isAgg153
  z27 := Tryz.sizeOf153
  v27 := Tryz.zeroValue153
  t28 := Tryz.underlying154
  a28 := Tryz.isAgg154
  z28 := Tryz.sizeOf154
  v28 := Tryz.zeroValue154
  t33 := Tryz.underlying238
  a33 := Tryz.isAgg238
  z33 := Tryz.sizeOf238
  v33 := Tryz.zeroValue238 }
def Tryz.sorted107_ren : Go.Shelf.Ren := ⟨fun | 6 => 107 | 8 => 165 | 9 => 163 | 11 => 228 | 13 => 223 | 12 => 227 | 23 => 261 | 24 => 262 | 14 => 263 | 15 => 264 | 16 => 265 | 17 => 266 | 18 => 267 | 19 => 268 | 20 => 269 | 21 => 270 | 22 => 271 | 25 => 295 | 26 => 296 | 27 => 297 | 28 => 298 | 29 => 299 | 30 => 300 | 31 => 317 | n => n, fun | 26 => 9 | 28 => 154 | 24 => 98 | 0 => 0 | 3 => 3 | 37 => 87 | 48 => 91 | 50 => 35 | 4 => 4 | 40 => 358 | 39 => 357 | 45 => 294 | 5 => 5 | 9 => 9 | 51 => 385 | 55 => 388 | 57 => 405 | 58 => 216 | 33 => 238 | n => n, fun | n => n⟩
theorem Tryz.sorted107 : Go.Proofs.SlLaysZ.n6 Tryz.prog Tryz.sorted107_ren := {
  mixed := by kernel_rfl
  f6 := ⟨Tryz.f107.name, by decide, Tryz.func107.trans (congrArg some (by kernel_rfl))⟩
  f8 := ⟨Tryz.f165.name, by decide, Tryz.func165.trans (congrArg some (by kernel_rfl))⟩
  f11 := ⟨Tryz.f228.name, by decide, Tryz.func228.trans (congrArg some (by kernel_rfl))⟩
  t0 := Tryz.underlying0
  a0 := Tryz.isAgg0
  z0 := Tryz.sizeOf0
  v0 := Tryz.zeroValue0
  t24 := Tryz.underlying98
  a24 := Tryz.isAgg98
  z24 := Tryz.sizeOf98
  v24 := Tryz.zeroValue98
  t26 := Tryz.underlying9
  a26 := Tryz.isAgg9
  z26 := Tryz.sizeOf9
  v26 := Tryz.zeroValue9
  t28 := Tryz.underlying154
  a28 := Tryz.isAgg154
  z28 := Tryz.sizeOf154
  v28 := Tryz.zeroValue154
  i26 := by kernel_rfl }
def Tryz.sort163_ren : Go.Shelf.Ren := ⟨fun | 6 => 163 | 8 => 223 | 9 => 227 | 19 => 261 | 20 => 262 | 21 => 263 | 22 => 264 | 23 => 265 | 24 => 266 | 25 => 267 | 26 => 268 | 27 => 269 | 28 => 270 | 29 => 271 | 36 => 295 | 31 => 296 | 32 => 297 | 37 => 298 | 38 => 299 | 39 => 300 | 41 => 317 | n => n, fun | 27 => 98 | 29 => 9 | 3 => 3 | 32 => 87 | 26 => 98 | 0 => 0 | 44 => 91 | 46 => 35 | 4 => 4 | 36 => 358 | 35 => 357 | 41 => 294 | 5 => 5 | 9 => 9 | 53 => 385 | 57 => 388 | 63 => 405 | 64 => 216 | n => n, fun | n => n⟩
theorem Tryz.sort163 : Go.Proofs.SlLaysM.n6 Tryz.prog Tryz.sort163_ren := {
  mixed := by kernel_rfl
  f6 := ⟨Tryz.f163.name, by decide, Tryz.func163.trans (congrArg some (by kernel_rfl))⟩
  f8 := Tryz.func223.trans (congrArg some (by kernel_rfl))
  f9 := ⟨Tryz.f227.name, by decide, Tryz.func227.trans (congrArg some (by kernel_rfl))⟩
  f19 := Tryz.func261.trans (congrArg some (by kernel_rfl))
  f20 := Tryz.func262.trans (congrArg some (by kernel_rfl))
  f21 := ⟨Tryz.f263.name, by decide, Tryz.func263.trans (congrArg some (by kernel_rfl))⟩
  f22 := ⟨Tryz.f264.name, by decide, Tryz.func264.trans (congrArg some (by kernel_rfl))⟩
  f23 := ⟨Tryz.f265.name, by decide, Tryz.func265.trans (congrArg some (by kernel_rfl))⟩
  f24 := ⟨Tryz.f266.name, by decide, Tryz.func266.trans (congrArg some (by kernel_rfl))⟩
  f25 := ⟨Tryz.f267.name, by decide, Tryz.func267.trans (congrArg some (by kernel_rfl))⟩
  f26 := ⟨Tryz.f268.name, by decide, Tryz.func268.trans (congrArg some (by kernel_rfl))⟩
  f27 := ⟨Tryz.f269.name, by decide, Tryz.func269.trans (congrArg some (by kernel_rfl))⟩
  f28 := ⟨Tryz.f270.name, by decide, Tryz.func270.trans (congrArg some (by kernel_rfl))⟩
  f29 := ⟨Tryz.f271.name, by decide, Tryz.func271.trans (congrArg some (by kernel_rfl))⟩
  f31 := Tryz.func296.trans (congrArg some (by kernel_rfl))
  f32 := Tryz.func297.trans (congrArg some (by kernel_rfl))
  f36 := ⟨Tryz.f295.name, by decide, Tryz.func295.trans (congrArg some (by kernel_rfl))⟩
  f37 := ⟨Tryz.f298.name, by decide, Tryz.func298.trans (congrArg some (by kernel_rfl))⟩
  f38 := ⟨Tryz.f299.name, by decide, Tryz.func299.trans (congrArg some (by kernel_rfl))⟩
  f39 := ⟨Tryz.f300.name, by decide, Tryz.func300.trans (congrArg some (by kernel_rfl))⟩
  f41 := ⟨Tryz.f317.name, by decide, Tryz.func317.trans (congrArg some (by kernel_rfl))⟩
  t0 := Tryz.underlying0
  a0 := Tryz.isAgg0
  z0 := Tryz.sizeOf0
  v0 := Tryz.zeroValue0
  t3 := Tryz.underlying3
  a3 := Tryz.isAgg3
  z3 := Tryz.sizeOf3
  v3 := Tryz.zeroValue3
  t4 := Tryz.underlying4
  a4 := Tryz.isAgg4
  z4 := Tryz.sizeOf4
  v4 := Tryz.zeroValue4
  t5 := Tryz.underlying5
  a5 := Tryz.isAgg5
  z5 := Tryz.sizeOf5
  v5 := Tryz.zeroValue5
  t9 := Tryz.underlying9
  a9 := Tryz.isAgg9
  z9 := Tryz.sizeOf9
  v9 := Tryz.zeroValue9
  t26 := Tryz.underlying98
  a26 := Tryz.isAgg98
  z26 := Tryz.sizeOf98
  v26 := Tryz.zeroValue98
  t27 := Tryz.underlying98
  a27 := Tryz.isAgg98
  z27 := Tryz.sizeOf98
  v27 := Tryz.zeroValue98
  t29 := Tryz.underlying9
  a29 := Tryz.isAgg9
  z29 := Tryz.sizeOf9
  v29 := Tryz.zeroValue9
  t32 := Tryz.underlying87
  a32 := Tryz.isAgg87
  z32 := Tryz.sizeOf87
  v32 := Tryz.zeroValue87
  t35 := Tryz.underlying357
  a35 := Tryz.isAgg357
  z35 := Tryz.sizeOf357
  v35 := Tryz.zeroValue357
  t36 := Tryz.underlying358
  a36 := Tryz.isAgg358
  z36 := Tryz.sizeOf358
  v36 := Tryz.zeroValue358
  t41 := Tryz.underlying294
  a41 := Tryz.isAgg294
  z41 := Tryz.sizeOf294
  v41 := Tryz.zeroValue294
  t44 := Tryz.underlying91
  a44 := Tryz.isAgg91
  z44 := Tryz.sizeOf91
  v44 := Tryz.zeroValue91
  t46 := Tryz.underlying35
  a46 := Tryz.isAgg35
  z46 := Tryz.sizeOf35
  v46 := Tryz.zeroValue35
  t53 := Tryz.underlying385
  a53 := Tryz.isAgg385
  z53 := Tryz.sizeOf385
  v53 := Tryz.zeroValue385
  t57 := Tryz.underlying388
  a57 := Tryz.isAgg388
  z57 := Tryz.sizeOf388
  v57 := Tryz.zeroValue388
  t63 := Tryz.underlying405
  a63 := Tryz.isAgg405
  z63 := Tryz.sizeOf405
  v63 := Tryz.zeroValue405
  t64 := Tryz.underlying216
  a64 := Tryz.isAgg216
  z64 := Tryz.sizeOf216
  v64 := Tryz.zeroValue216 }
theorem Tryz.sorts107 (m : Nat) : AnyZ.SortsIn Tryz.prog Tryz.sorted107_ren Fence.wide m :=
  ⟨fun blk off cap ss W hH hblk hsz => callsIn_wide.2 (AnyM.slices_Sort_string Tryz.sort163 blk off cap ss W hH hblk hsz),
   fun p cap W => callsIn_wide.2 (AnyM.slices_Sort_string_none Tryz.sort163 p cap W)⟩
theorem Tryz.maps_Keys_108 (mb : Option Nat) (W : World) : CallsIn Fence.wide 5 Tryz.prog 108 #[.map mb] W fun e w' => e = .returned (.func (.func 166) #[] #[.pointer (some ⟨W.heap.size, 0, none⟩)]) ∧ w' = W.alloc (.cells #[.map mb] 150) :=
  AnyZ.keys_in Tryz.keys108 Fence.wide 5 trivial rfl mb W
set_option maxHeartbeats 1000000 in
theorem Tryz.slices_Sorted_keys_107_108 {H : Type} (b nn : Nat) (D0 : DataW H) (R : Value → Option (DataW H × List MemPlace)) (w : World) (hown : w.ownsMap Tryz.prog 9 R b nn D0) (hmax : Maps.size D0 ≤ maxLen) (hbytes : Maps.size D0 * 16 ≤ 140737488355328) :
    CallsIn Fence.wide 5 Tryz.prog 107 #[.func (.func 166) #[] #[.pointer (some ⟨w.heap.size, 0, none⟩)]] (w.alloc (.cells #[.map (some b)] 150)) fun e w' => ∃ (v : Value) (ss : List (List UInt8)), e = .returned v ∧ ss.Perm (strKeys D0) ∧
      w'.ownsRow (w.alloc (.cells #[.map (some b)] 150)).heap.size 9 1 v ss.length ((ss.mergeSort (fun x y => decide (x ≤ y))).map encStr) ∧ (v = .slice none 0 0 ↔ ss = []) ∧ Below (w.alloc (.cells #[.map (some b)] 150)).heap.size (w.alloc (.cells #[.map (some b)] 150)) w' := by
  have hbl := hown.lt
  have hseq : SeqGives Fence.wide 2 Tryz.prog 166 #[.pointer (some ⟨w.heap.size, 0, none⟩)] encStr (fun ss => ss.Perm (strKeys D0)) (Maps.size D0) (w.alloc (.cells #[.map (some b)] 150)) :=
    AnyZ.keys_gives (ρ := Tryz.keys108_ren) { Tryz.keys108 with } Fence.wide _ trivial rfl (by omega) w.heap.size b nn D0 _ (by simp) (by simp) (by
      obtain ⟨es, clock, hb, Ft, hs, hD⟩ := hown
      exact ⟨es, clock, (Below.heap_alloc _ _ b hbl).trans hb, Ft, hs, hD⟩)
  exact AnyZ.sorted_in Tryz.sorted107 Fence.wide 5 trivial trivial trivial trivial rfl (by omega) (Tryz.sorts107 _) (enters_of Tryz.func163 (by kernel_rfl) rfl) 166 #[.pointer (some ⟨w.heap.size, 0, none⟩)] trivial (enters_of Tryz.func166 (by kernel_rfl) rfl) _ _ hmax hbytes _ hseq
set_option maxHeartbeats 1000000 in
theorem Tryz.slices_Sorted_keys_nil_107_108 (w : World) :
    CallsIn Fence.wide 5 Tryz.prog 107 #[.func (.func 166) #[] #[.pointer (some ⟨w.heap.size, 0, none⟩)]] (w.alloc (.cells #[.map none] 150)) fun e w' => ∃ (v : Value) (ss : List (List UInt8)), e = .returned v ∧ ss = [] ∧
      w'.ownsRow (w.alloc (.cells #[.map none] 150)).heap.size 9 1 v ss.length ((ss.mergeSort (fun x y => decide (x ≤ y))).map encStr) ∧ (v = .slice none 0 0 ↔ ss = []) ∧ Below (w.alloc (.cells #[.map none] 150)).heap.size (w.alloc (.cells #[.map none] 150)) w' := by
  have hseq : SeqGives Fence.wide 2 Tryz.prog 166 #[.pointer (some ⟨w.heap.size, 0, none⟩)] encStr (fun ss : List (List UInt8) => ss = []) 0 (w.alloc (.cells #[.map none] 150)) :=
    AnyZ.keys_gives_nil (ρ := Tryz.keys108_ren) { Tryz.keys108 with } Fence.wide _ trivial rfl w.heap.size _ (by simp) (by simp)
  exact AnyZ.sorted_in Tryz.sorted107 Fence.wide 5 trivial trivial trivial trivial rfl (by omega) (Tryz.sorts107 _) (enters_of Tryz.func163 (by kernel_rfl) rfl) 166 #[.pointer (some ⟨w.heap.size, 0, none⟩)] trivial (enters_of Tryz.func166 (by kernel_rfl) rfl) _ 0 (Nat.zero_le _) (by omega) _ hseq
end Go.Proofs
