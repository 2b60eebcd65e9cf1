/- Contracts of the library's sorted keys of maps at this translation, laid by the kit's tools. No condition beside those that they name. -/
import Derived.Shelf.SlIter.Nil
import Derived.Shelf.SortM.Plain
import Derived.Shelf.SortM.SortNone
import Derived.Ground.GgzProg
import Derived.Ground.SlgmProg
import Derived.Test.YtdagmoonnbnceaaGreatDoorProg
namespace Go.Proofs
open Go.RowKit Go.Maps Go.Sort Go.Shelf
def Tryz.keys85_ren : Go.Shelf.Ren := ⟨fun | 7 => 85 | 10 => 129 | n => n, fun | 23 => 136 | 26 => 9 | 3 => 55 | 28 => 140 | 0 => 0 | 27 => 139 | 33 => 218 | 4 => 4 | n => n, fun | n => n⟩
theorem Tryz.keys85 : Go.Proofs.SlLaysZ.n7 Tryz.prog Tryz.keys85_ren := {
  mixed := by kernel_rfl
  f7 := ⟨Tryz.f85.name, by decide, Tryz.func85.trans (congrArg some (by kernel_rfl))⟩
  f10 := ⟨Tryz.f129.name, by decide, Tryz.func129.trans (congrArg some (by kernel_rfl))⟩
  t0 := Tryz.underlying0
  a0 := Tryz.isAgg0
  z0 := Tryz.sizeOf0
  v0 := Tryz.zeroValue0
  t4 := Tryz.underlying4
  a4 := Tryz.isAgg4
  z4 := Tryz.sizeOf4
  v4 := Tryz.zeroValue4
  t23 := Tryz.underlying136
  a23 := Tryz.isAgg136
  z23 := Tryz.sizeOf136
  v23 := Tryz.zeroValue136
  t26 := Tryz.underlying9
  a26 := Tryz.isAgg9
  z26 := Tryz.sizeOf9
  v26 := Tryz.zeroValue9
  t27 := Tryz.underlying139
  a27 := Tryz.isAgg139
  z27 := Tryz.sizeOf139
  v27 := Tryz.zeroValue139
  t28 := Tryz.underlying140
  a28 := Tryz.isAgg140
  z28 := Tryz.sizeOf140
  v28 := Tryz.zeroValue140
  t33 := Tryz.underlying218
  a33 := Tryz.isAgg218
  z33 := Tryz.sizeOf218
  v33 := Tryz.zeroValue218 }
def Tryz.sorted84_ren : Go.Shelf.Ren := ⟨fun | 6 => 84 | 8 => 128 | 9 => 126 | 11 => 171 | 13 => 166 | 12 => 170 | 23 => 195 | 24 => 196 | 14 => 197 | 15 => 198 | 16 => 199 | 17 => 200 | 18 => 201 | 19 => 202 | 20 => 203 | 21 => 204 | 22 => 205 | 25 => 228 | 26 => 229 | 27 => 230 | 28 => 231 | 29 => 232 | 30 => 233 | 31 => 250 | n => n, fun | 26 => 9 | 28 => 140 | 24 => 92 | 0 => 0 | 3 => 3 | 37 => 81 | 48 => 85 | 50 => 34 | 4 => 4 | 40 => 319 | 39 => 318 | 45 => 260 | 5 => 5 | 9 => 9 | 51 => 348 | 55 => 351 | 57 => 368 | 58 => 196 | 33 => 218 | n => n, fun | n => n⟩
theorem Tryz.sorted84 : Go.Proofs.SlLaysZ.n6 Tryz.prog Tryz.sorted84_ren := {
  mixed := by kernel_rfl
  f6 := ⟨Tryz.f84.name, by decide, Tryz.func84.trans (congrArg some (by kernel_rfl))⟩
  f8 := ⟨Tryz.f128.name, by decide, Tryz.func128.trans (congrArg some (by kernel_rfl))⟩
  f11 := ⟨Tryz.f171.name, by decide, Tryz.func171.trans (congrArg some (by kernel_rfl))⟩
  t0 := Tryz.underlying0
  a0 := Tryz.isAgg0
  z0 := Tryz.sizeOf0
  v0 := Tryz.zeroValue0
  t24 := Tryz.underlying92
  a24 := Tryz.isAgg92
  z24 := Tryz.sizeOf92
  v24 := Tryz.zeroValue92
  t26 := Tryz.underlying9
  a26 := Tryz.isAgg9
  z26 := Tryz.sizeOf9
  v26 := Tryz.zeroValue9
  t28 := Tryz.underlying140
  a28 := Tryz.isAgg140
  z28 := Tryz.sizeOf140
  v28 := Tryz.zeroValue140
  i26 := by kernel_rfl }
def Tryz.sort126_ren : Go.Shelf.Ren := ⟨fun | 6 => 126 | 8 => 166 | 9 => 170 | 19 => 195 | 20 => 196 | 21 => 197 | 22 => 198 | 23 => 199 | 24 => 200 | 25 => 201 | 26 => 202 | 27 => 203 | 28 => 204 | 29 => 205 | 36 => 228 | 31 => 229 | 32 => 230 | 37 => 231 | 38 => 232 | 39 => 233 | 41 => 250 | n => n, fun | 27 => 92 | 29 => 9 | 3 => 3 | 32 => 81 | 26 => 92 | 0 => 0 | 44 => 85 | 46 => 34 | 4 => 4 | 36 => 319 | 35 => 318 | 41 => 260 | 5 => 5 | 9 => 9 | 53 => 348 | 57 => 351 | 63 => 368 | 64 => 196 | n => n, fun | n => n⟩
theorem Tryz.sort126 : Go.Proofs.SlLaysM.n6 Tryz.prog Tryz.sort126_ren := {
  mixed := by kernel_rfl
  f6 := ⟨Tryz.f126.name, by decide, Tryz.func126.trans (congrArg some (by kernel_rfl))⟩
  f8 := Tryz.func166.trans (congrArg some (by kernel_rfl))
  f9 := ⟨Tryz.f170.name, by decide, Tryz.func170.trans (congrArg some (by kernel_rfl))⟩
  f19 := Tryz.func195.trans (congrArg some (by kernel_rfl))
  f20 := Tryz.func196.trans (congrArg some (by kernel_rfl))
  f21 := ⟨Tryz.f197.name, by decide, Tryz.func197.trans (congrArg some (by kernel_rfl))⟩
  f22 := ⟨Tryz.f198.name, by decide, Tryz.func198.trans (congrArg some (by kernel_rfl))⟩
  f23 := ⟨Tryz.f199.name, by decide, Tryz.func199.trans (congrArg some (by kernel_rfl))⟩
  f24 := ⟨Tryz.f200.name, by decide, Tryz.func200.trans (congrArg some (by kernel_rfl))⟩
  f25 := ⟨Tryz.f201.name, by decide, Tryz.func201.trans (congrArg some (by kernel_rfl))⟩
  f26 := ⟨Tryz.f202.name, by decide, Tryz.func202.trans (congrArg some (by kernel_rfl))⟩
  f27 := ⟨Tryz.f203.name, by decide, Tryz.func203.trans (congrArg some (by kernel_rfl))⟩
  f28 := ⟨Tryz.f204.name, by decide, Tryz.func204.trans (congrArg some (by kernel_rfl))⟩
  f29 := ⟨Tryz.f205.name, by decide, Tryz.func205.trans (congrArg some (by kernel_rfl))⟩
  f31 := Tryz.func229.trans (congrArg some (by kernel_rfl))
  f32 := Tryz.func230.trans (congrArg some (by kernel_rfl))
  f36 := ⟨Tryz.f228.name, by decide, Tryz.func228.trans (congrArg some (by kernel_rfl))⟩
  f37 := ⟨Tryz.f231.name, by decide, Tryz.func231.trans (congrArg some (by kernel_rfl))⟩
  f38 := ⟨Tryz.f232.name, by decide, Tryz.func232.trans (congrArg some (by kernel_rfl))⟩
  f39 := ⟨Tryz.f233.name, by decide, Tryz.func233.trans (congrArg some (by kernel_rfl))⟩
  f41 := ⟨Tryz.f250.name, by decide, Tryz.func250.trans (congrArg some (by kernel_rfl))⟩
  t0 := Tryz.underlying0
  a0 := Tryz.isAgg0
  z0 := Tryz.sizeOf0
  v0 := Tryz.zeroValue0
  t3 := Tryz.underlying3
  a3 := Tryz.isAgg3
  z3 := Tryz.sizeOf3
  v3 := Tryz.zeroValue3
  t4 := Tryz.underlying4
  a4 := Tryz.isAgg4
  z4 := Tryz.sizeOf4
  v4 := Tryz.zeroValue4
  t5 := Tryz.underlying5
  a5 := Tryz.isAgg5
  z5 := Tryz.sizeOf5
  v5 := Tryz.zeroValue5
  t9 := Tryz.underlying9
  a9 := Tryz.isAgg9
  z9 := Tryz.sizeOf9
  v9 := Tryz.zeroValue9
  t26 := Tryz.underlying92
  a26 := Tryz.isAgg92
  z26 := Tryz.sizeOf92
  v26 := Tryz.zeroValue92
  t27 := Tryz.underlying92
  a27 := Tryz.isAgg92
  z27 := Tryz.sizeOf92
  v27 := Tryz.zeroValue92
  t29 := Tryz.underlying9
  a29 := Tryz.isAgg9
  z29 := Tryz.sizeOf9
  v29 := Tryz.zeroValue9
  t32 := Tryz.underlying81
  a32 := Tryz.isAgg81
  z32 := Tryz.sizeOf81
  v32 := Tryz.zeroValue81
  t35 := Tryz.underlying318
  a35 := Tryz.isAgg318
  z35 := Tryz.sizeOf318
  v35 := Tryz.zeroValue318
  t36 := Tryz.underlying319
  a36 := Tryz.isAgg319
  z36 := Tryz.sizeOf319
  v36 := Tryz.zeroValue319
  t41 := Tryz.underlying260
  a41 := Tryz.isAgg260
  z41 := Tryz.sizeOf260
  v41 := Tryz.zeroValue260
  t44 := Tryz.underlying85
  a44 := Tryz.isAgg85
  z44 := Tryz.sizeOf85
  v44 := Tryz.zeroValue85
  t46 := Tryz.underlying34
  a46 := Tryz.isAgg34
  z46 := Tryz.sizeOf34
  v46 := Tryz.zeroValue34
  t53 := Tryz.underlying348
  a53 := Tryz.isAgg348
  z53 := Tryz.sizeOf348
  v53 := Tryz.zeroValue348
  t57 := Tryz.underlying351
  a57 := Tryz.isAgg351
  z57 := Tryz.sizeOf351
  v57 := Tryz.zeroValue351
  t63 := Tryz.underlying368
  a63 := Tryz.isAgg368
  z63 := Tryz.sizeOf368
  v63 := Tryz.zeroValue368
  t64 := Tryz.underlying196
  a64 := Tryz.isAgg196
  z64 := Tryz.sizeOf196
  v64 := Tryz.zeroValue196 }
theorem Tryz.sorts84 (m : Nat) : AnyZ.SortsIn Tryz.prog Tryz.sorted84_ren Fence.wide m :=
  ⟨fun blk off cap ss W hH hblk hsz => callsIn_wide.2 (AnyM.slices_Sort_string Tryz.sort126 blk off cap ss W hH hblk hsz),
   fun p cap W => callsIn_wide.2 (AnyM.slices_Sort_string_none Tryz.sort126 p cap W)⟩
theorem Tryz.maps_Keys_85 (mb : Option Nat) (W : World) : CallsIn Fence.wide 5 Tryz.prog 85 #[.map mb] W fun e w' => e = .returned (.func (.func 129) #[] #[.pointer (some ⟨W.heap.size, 0, none⟩)]) ∧ w' = W.alloc (.cells #[.map mb] 136) :=
  AnyZ.keys_in Tryz.keys85 Fence.wide 5 trivial rfl mb W
set_option maxHeartbeats 1000000 in
theorem Tryz.slices_Sorted_keys_84_85 {H : Type} (b nn : Nat) (D0 : DataW H) (R : Value → Option (DataW H × List MemPlace)) (w : World) (hown : w.ownsMap Tryz.prog 9 R b nn D0) (hmax : Maps.size D0 ≤ maxLen) (hbytes : Maps.size D0 * 16 ≤ 140737488355328) :
    CallsIn Fence.wide 5 Tryz.prog 84 #[.func (.func 129) #[] #[.pointer (some ⟨w.heap.size, 0, none⟩)]] (w.alloc (.cells #[.map (some b)] 136)) fun e w' => ∃ (v : Value) (ss : List (List UInt8)), e = .returned v ∧ ss.Perm (strKeys D0) ∧
      w'.ownsRow (w.alloc (.cells #[.map (some b)] 136)).heap.size 9 1 v ss.length ((ss.mergeSort (fun x y => decide (x ≤ y))).map encStr) ∧ (v = .slice none 0 0 ↔ ss = []) ∧ Below (w.alloc (.cells #[.map (some b)] 136)).heap.size (w.alloc (.cells #[.map (some b)] 136)) w' := by
  have hbl := hown.lt
  have hseq : SeqGives Fence.wide 2 Tryz.prog 129 #[.pointer (some ⟨w.heap.size, 0, none⟩)] encStr (fun ss => ss.Perm (strKeys D0)) (Maps.size D0) (w.alloc (.cells #[.map (some b)] 136)) :=
    AnyZ.keys_gives (ρ := Tryz.keys85_ren) { Tryz.keys85 with } Fence.wide _ trivial rfl (by omega) w.heap.size b nn D0 _ (by simp) (by simp) (by
      obtain ⟨es, clock, hb, Ft, hs, hD⟩ := hown
      exact ⟨es, clock, (Below.heap_alloc _ _ b hbl).trans hb, Ft, hs, hD⟩)
  exact AnyZ.sorted_in Tryz.sorted84 Fence.wide 5 trivial trivial trivial trivial rfl (by omega) (Tryz.sorts84 _) (enters_of Tryz.func126 (by kernel_rfl) rfl) 129 #[.pointer (some ⟨w.heap.size, 0, none⟩)] trivial (enters_of Tryz.func129 (by kernel_rfl) rfl) _ _ hmax hbytes _ hseq
set_option maxHeartbeats 1000000 in
theorem Tryz.slices_Sorted_keys_nil_84_85 (w : World) :
    CallsIn Fence.wide 5 Tryz.prog 84 #[.func (.func 129) #[] #[.pointer (some ⟨w.heap.size, 0, none⟩)]] (w.alloc (.cells #[.map none] 136)) fun e w' => ∃ (v : Value) (ss : List (List UInt8)), e = .returned v ∧ ss = [] ∧
      w'.ownsRow (w.alloc (.cells #[.map none] 136)).heap.size 9 1 v ss.length ((ss.mergeSort (fun x y => decide (x ≤ y))).map encStr) ∧ (v = .slice none 0 0 ↔ ss = []) ∧ Below (w.alloc (.cells #[.map none] 136)).heap.size (w.alloc (.cells #[.map none] 136)) w' := by
  have hseq : SeqGives Fence.wide 2 Tryz.prog 129 #[.pointer (some ⟨w.heap.size, 0, none⟩)] encStr (fun ss : List (List UInt8) => ss = []) 0 (w.alloc (.cells #[.map none] 136)) :=
    AnyZ.keys_gives_nil (ρ := Tryz.keys85_ren) { Tryz.keys85 with } Fence.wide _ trivial rfl w.heap.size _ (by simp) (by simp)
  exact AnyZ.sorted_in Tryz.sorted84 Fence.wide 5 trivial trivial trivial trivial rfl (by omega) (Tryz.sorts84 _) (enters_of Tryz.func126 (by kernel_rfl) rfl) 129 #[.pointer (some ⟨w.heap.size, 0, none⟩)] trivial (enters_of Tryz.func129 (by kernel_rfl) rfl) _ 0 (Nat.zero_le _) (by omega) _ hseq
end Go.Proofs
