/- Contracts of the library's sorted keys of maps at this translation, laid by the kit's tools. No condition beside those that they name. -/
import Derived.Shelf.SlIter.Nil
import Derived.Shelf.SortM.Plain
import Derived.Shelf.SortM.SortNone
import Derived.Ground.GgzProg
import Derived.Ground.SlgmProg
import Derived.Test.YtfhdgenlpmlajaaGreatDoorProg
namespace Go.Proofs
open Go.RowKit Go.Maps Go.Sort Go.Shelf
def Tryz.keys91_ren : Go.Shelf.Ren := ⟨fun | 7 => 91 | 10 => 133 | n => n, fun | 23 => 131 | 26 => 9 | 3 => 50 | 28 => 135 | 0 => 0 | 27 => 134 | 33 => 184 | 4 => 4 | n => n, fun | n => n⟩
theorem Tryz.keys91 : Go.Proofs.SlLaysZ.n7 Tryz.prog Tryz.keys91_ren := {
  mixed := by kernel_rfl
  f7 := ⟨Tryz.f91.name, by decide, Tryz.func91.trans (congrArg some (by kernel_rfl))⟩
  f10 := ⟨Tryz.f133.name, by decide, Tryz.func133.trans (congrArg some (by kernel_rfl))⟩
  t0 := Tryz.underlying0
  a0 := Tryz.isAgg0
  z0 := Tryz.sizeOf0
  v0 := Tryz.zeroValue0
  t4 := Tryz.underlying4
  a4 := Tryz.isAgg4
  z4 := Tryz.sizeOf4
  v4 := Tryz.zeroValue4
  t23 := Tryz.underlying131
  a23 := Tryz.isAgg131
  z23 := Tryz.sizeOf131
  v23 := Tryz.zeroValue131
  t26 := Tryz.underlying9
  a26 := Tryz.isAgg9
  z26 := Tryz.sizeOf9
  v26 := Tryz.zeroValue9
  t27 := Tryz.underlying134
  a27 := Tryz.isAgg134
  z27 := Tryz.sizeOf134
  v27 := Tryz.zeroValue134
  t28 := Tryz.underlying135
  a28 := Tryz.isAgg135
  z28 := Tryz.sizeOf135
  v28 := Tryz.zeroValue135
  t33 := Tryz.underlying184
  a33 := Tryz.isAgg184
  z33 := Tryz.sizeOf184
  v33 := Tryz.zeroValue184 }
def Tryz.sorted90_ren : Go.Shelf.Ren := ⟨fun | 6 => 90 | 8 => 132 | 9 => 130 | 11 => 161 | 13 => 156 | 12 => 160 | 23 => 181 | 24 => 182 | 14 => 183 | 15 => 184 | 16 => 185 | 17 => 186 | 18 => 187 | 19 => 188 | 20 => 189 | 21 => 190 | 22 => 191 | 25 => 205 | 26 => 206 | 27 => 207 | 28 => 208 | 29 => 209 | 30 => 210 | 31 => 216 | n => n, fun | 26 => 9 | 28 => 135 | 24 => 87 | 0 => 0 | 3 => 3 | 37 => 149 | 48 => 110 | 50 => 72 | 4 => 4 | 40 => 264 | 39 => 263 | 45 => 254 | 5 => 5 | 9 => 9 | 51 => 284 | 55 => 288 | 57 => 299 | 58 => 215 | 33 => 184 | n => n, fun | n => n⟩
theorem Tryz.sorted90 : Go.Proofs.SlLaysZ.n6 Tryz.prog Tryz.sorted90_ren := {
  mixed := by kernel_rfl
  f6 := ⟨Tryz.f90.name, by decide, Tryz.func90.trans (congrArg some (by kernel_rfl))⟩
  f8 := ⟨Tryz.f132.name, by decide, Tryz.func132.trans (congrArg some (by kernel_rfl))⟩
  f11 := ⟨Tryz.f161.name, by decide, Tryz.func161.trans (congrArg some (by kernel_rfl))⟩
  t0 := Tryz.underlying0
  a0 := Tryz.isAgg0
  z0 := Tryz.sizeOf0
  v0 := Tryz.zeroValue0
  t24 := Tryz.underlying87
  a24 := Tryz.isAgg87
  z24 := Tryz.sizeOf87
  v24 := Tryz.zeroValue87
  t26 := Tryz.underlying9
  a26 := Tryz.isAgg9
  z26 := Tryz.sizeOf9
  v26 := Tryz.zeroValue9
  t28 := Tryz.underlying135
  a28 := Tryz.isAgg135
  z28 := Tryz.sizeOf135
  v28 := Tryz.zeroValue135
  i26 := by kernel_rfl }
def Tryz.sort130_ren : Go.Shelf.Ren := ⟨fun | 6 => 130 | 8 => 156 | 9 => 160 | 19 => 181 | 20 => 182 | 21 => 183 | 22 => 184 | 23 => 185 | 24 => 186 | 25 => 187 | 26 => 188 | 27 => 189 | 28 => 190 | 29 => 191 | 36 => 205 | 31 => 206 | 32 => 207 | 37 => 208 | 38 => 209 | 39 => 210 | 41 => 216 | n => n, fun | 27 => 87 | 29 => 9 | 3 => 3 | 32 => 149 | 26 => 87 | 0 => 0 | 44 => 110 | 46 => 72 | 4 => 4 | 36 => 264 | 35 => 263 | 41 => 254 | 5 => 5 | 9 => 9 | 53 => 284 | 57 => 288 | 63 => 299 | 64 => 215 | n => n, fun | n => n⟩
theorem Tryz.sort130 : Go.Proofs.SlLaysM.n6 Tryz.prog Tryz.sort130_ren := {
  mixed := by kernel_rfl
  f6 := ⟨Tryz.f130.name, by decide, Tryz.func130.trans (congrArg some (by kernel_rfl))⟩
  f8 := Tryz.func156.trans (congrArg some (by kernel_rfl))
  f9 := ⟨Tryz.f160.name, by decide, Tryz.func160.trans (congrArg some (by kernel_rfl))⟩
  f19 := Tryz.func181.trans (congrArg some (by kernel_rfl))
  f20 := Tryz.func182.trans (congrArg some (by kernel_rfl))
  f21 := ⟨Tryz.f183.name, by decide, Tryz.func183.trans (congrArg some (by kernel_rfl))⟩
  f22 := ⟨Tryz.f184.name, by decide, Tryz.func184.trans (congrArg some (by kernel_rfl))⟩
  f23 := ⟨Tryz.f185.name, by decide, Tryz.func185.trans (congrArg some (by kernel_rfl))⟩
  f24 := ⟨Tryz.f186.name, by decide, Tryz.func186.trans (congrArg some (by kernel_rfl))⟩
  f25 := ⟨Tryz.f187.name, by decide, Tryz.func187.trans (congrArg some (by kernel_rfl))⟩
  f26 := ⟨Tryz.f188.name, by decide, Tryz.func188.trans (congrArg some (by kernel_rfl))⟩
  f27 := ⟨Tryz.f189.name, by decide, Tryz.func189.trans (congrArg some (by kernel_rfl))⟩
  f28 := ⟨Tryz.f190.name, by decide, Tryz.func190.trans (congrArg some (by kernel_rfl))⟩
  f29 := ⟨Tryz.f191.name, by decide, Tryz.func191.trans (congrArg some (by kernel_rfl))⟩
  f31 := Tryz.func206.trans (congrArg some (by kernel_rfl))
  f32 := Tryz.func207.trans (congrArg some (by kernel_rfl))
  f36 := ⟨Tryz.f205.name, by decide, Tryz.func205.trans (congrArg some (by kernel_rfl))⟩
  f37 := ⟨Tryz.f208.name, by decide, Tryz.func208.trans (congrArg some (by kernel_rfl))⟩
  f38 := ⟨Tryz.f209.name, by decide, Tryz.func209.trans (congrArg some (by kernel_rfl))⟩
  f39 := ⟨Tryz.f210.name, by decide, Tryz.func210.trans (congrArg some (by kernel_rfl))⟩
  f41 := ⟨Tryz.f216.name, by decide, Tryz.func216.trans (congrArg some (by kernel_rfl))⟩
  t0 := Tryz.underlying0
  a0 := Tryz.isAgg0
  z0 := Tryz.sizeOf0
  v0 := Tryz.zeroValue0
  t3 := Tryz.underlying3
  a3 := Tryz.isAgg3
  z3 := Tryz.sizeOf3
  v3 := Tryz.zeroValue3
  t4 := Tryz.underlying4
  a4 := Tryz.isAgg4
  z4 := Tryz.sizeOf4
  v4 := Tryz.zeroValue4
  t5 := Tryz.underlying5
  a5 := Tryz.isAgg5
  z5 := Tryz.sizeOf5
  v5 := Tryz.zeroValue5
  t9 := Tryz.underlying9
  a9 := Tryz.isAgg9
  z9 := Tryz.sizeOf9
  v9 := Tryz.zeroValue9
  t26 := Tryz.underlying87
  a26 := Tryz.isAgg87
  z26 := Tryz.sizeOf87
  v26 := Tryz.zeroValue87
  t27 := Tryz.underlying87
  a27 := Tryz.isAgg87
  z27 := Tryz.sizeOf87
  v27 := Tryz.zeroValue87
  t29 := Tryz.underlying9
  a29 := Tryz.isAgg9
  z29 := Tryz.sizeOf9
  v29 := Tryz.zeroValue9
  t32 := Tryz.underlying149
  a32 := Tryz.isAgg149
  z32 := Tryz.sizeOf149
  v32 := Tryz.zeroValue149
  t35 := Tryz.underlying263
  a35 := Tryz.isAgg263
  z35 := Tryz.sizeOf263
  v35 := Tryz.zeroValue263
  t36 := Tryz.underlying264
  a36 := Tryz.isAgg264
  z36 := Tryz.sizeOf264
  v36 := Tryz.zeroValue264
  t41 := Tryz.underlying254
  a41 := Tryz.isAgg254
  z41 := Tryz.sizeOf254
  v41 := Tryz.zeroValue254
  t44 := Tryz.underlying110
  a44 := Tryz.isAgg110
  z44 := Tryz.sizeOf110
  v44 := Tryz.zeroValue110
  t46 := Tryz.underlying72
  a46 := Tryz.isAgg72
  z46 := Tryz.sizeOf72
  v46 := Tryz.zeroValue72
  t53 := Tryz.underlying284
  a53 := Tryz.isAgg284
  z53 := Tryz.sizeOf284
  v53 := Tryz.zeroValue284
  t57 := Tryz.underlying288
  a57 := Tryz.isAgg288
  z57 := Tryz.sizeOf288
  v57 := Tryz.zeroValue288
  t63 := Tryz.underlying299
  a63 := Tryz.isAgg299
  z63 := Tryz.sizeOf299
  v63 := Tryz.zeroValue299
  t64 := Tryz.underlying215
  a64 := Tryz.isAgg215
  z64 := Tryz.sizeOf215
  v64 := Tryz.zeroValue215 }
theorem Tryz.sorts90 (m : Nat) : AnyZ.SortsIn Tryz.prog Tryz.sorted90_ren Fence.wide m :=
  ⟨fun blk off cap ss W hH hblk hsz => callsIn_wide.2 (AnyM.slices_Sort_string Tryz.sort130 blk off cap ss W hH hblk hsz),
   fun p cap W => callsIn_wide.2 (AnyM.slices_Sort_string_none Tryz.sort130 p cap W)⟩
theorem Tryz.maps_Keys_91 (mb : Option Nat) (W : World) : CallsIn Fence.wide 5 Tryz.prog 91 #[.map mb] W fun e w' => e = .returned (.func (.func 133) #[] #[.pointer (some ⟨W.heap.size, 0, none⟩)]) ∧ w' = W.alloc (.cells #[.map mb] 131) :=
  AnyZ.keys_in Tryz.keys91 Fence.wide 5 trivial rfl mb W
set_option maxHeartbeats 1000000 in
theorem Tryz.slices_Sorted_keys_90_91 {H : Type} (b nn : Nat) (D0 : DataW H) (R : Value → Option (DataW H × List MemPlace)) (w : World) (hown : w.ownsMap Tryz.prog 9 R b nn D0) (hmax : Maps.size D0 ≤ maxLen) (hbytes : Maps.size D0 * 16 ≤ 140737488355328) :
    CallsIn Fence.wide 5 Tryz.prog 90 #[.func (.func 133) #[] #[.pointer (some ⟨w.heap.size, 0, none⟩)]] (w.alloc (.cells #[.map (some b)] 131)) fun e w' => ∃ (v : Value) (ss : List (List UInt8)), e = .returned v ∧ ss.Perm (strKeys D0) ∧
      w'.ownsRow (w.alloc (.cells #[.map (some b)] 131)).heap.size 9 1 v ss.length ((ss.mergeSort (fun x y => decide (x ≤ y))).map encStr) ∧ (v = .slice none 0 0 ↔ ss = []) ∧ Below (w.alloc (.cells #[.map (some b)] 131)).heap.size (w.alloc (.cells #[.map (some b)] 131)) w' := by
  have hbl := hown.lt
  have hseq : SeqGives Fence.wide 2 Tryz.prog 133 #[.pointer (some ⟨w.heap.size, 0, none⟩)] encStr (fun ss => ss.Perm (strKeys D0)) (Maps.size D0) (w.alloc (.cells #[.map (some b)] 131)) :=
    AnyZ.keys_gives (ρ := Tryz.keys91_ren) { Tryz.keys91 with } Fence.wide _ trivial rfl (by omega) w.heap.size b nn D0 _ (by simp) (by simp) (by
      obtain ⟨es, clock, hb, Ft, hs, hD⟩ := hown
      exact ⟨es, clock, (Below.heap_alloc _ _ b hbl).trans hb, Ft, hs, hD⟩)
  exact AnyZ.sorted_in Tryz.sorted90 Fence.wide 5 trivial trivial trivial trivial rfl (by omega) (Tryz.sorts90 _) (enters_of Tryz.func130 (by kernel_rfl) rfl) 133 #[.pointer (some ⟨w.heap.size, 0, none⟩)] trivial (enters_of Tryz.func133 (by kernel_rfl) rfl) _ _ hmax hbytes _ hseq
set_option maxHeartbeats 1000000 in
theorem Tryz.slices_Sorted_keys_nil_90_91 (w : World) :
    CallsIn Fence.wide 5 Tryz.prog 90 #[.func (.func 133) #[] #[.pointer (some ⟨w.heap.size, 0, none⟩)]] (w.alloc (.cells #[.map none] 131)) fun e w' => ∃ (v : Value) (ss : List (List UInt8)), e = .returned v ∧ ss = [] ∧
      w'.ownsRow (w.alloc (.cells #[.map none] 131)).heap.size 9 1 v ss.length ((ss.mergeSort (fun x y => decide (x ≤ y))).map encStr) ∧ (v = .slice none 0 0 ↔ ss = []) ∧ Below (w.alloc (.cells #[.map none] 131)).heap.size (w.alloc (.cells #[.map none] 131)) w' := by
  have hseq : SeqGives Fence.wide 2 Tryz.prog 133 #[.pointer (some ⟨w.heap.size, 0, none⟩)] encStr (fun ss : List (List UInt8) => ss = []) 0 (w.alloc (.cells #[.map none] 131)) :=
    AnyZ.keys_gives_nil (ρ := Tryz.keys91_ren) { Tryz.keys91 with } Fence.wide _ trivial rfl w.heap.size _ (by simp) (by simp)
  exact AnyZ.sorted_in Tryz.sorted90 Fence.wide 5 trivial trivial trivial trivial rfl (by omega) (Tryz.sorts90 _) (enters_of Tryz.func130 (by kernel_rfl) rfl) 133 #[.pointer (some ⟨w.heap.size, 0, none⟩)] trivial (enters_of Tryz.func133 (by kernel_rfl) rfl) _ 0 (Nat.zero_le _) (by omega) _ hseq
end Go.Proofs
