/- Contracts of the library's functions at this translation, laid by the kit's tool. No condition beside those that they name. -/
import Derived.Shelf.Small.Bits
import Derived.Shelf.Strconv.Itoa0
import Derived.Shelf.Sort.Plain
import Derived.Shelf.Bits.Mul64
import Derived.Shelf.Slices.CompactS
import Derived.Shelf.Slices.Cells
import Derived.Ground.SlgmProg
import Derived.Shelf.SortM.SortNone
import Derived.Test.YtfpijnhhdfoohaaGreatDoorProg
namespace Go.Proofs
open Go.Shelf
def Tryz.lays125_ren : Go.Shelf.Ren := ⟨fun | 125 => 187 | 128 => 218 | 129 => 219 | n => n, fun | 46 => 96 | 3 => 3 | 51 => 100 | 53 => 38 | 4 => 4 | 5 => 5 | 9 => 9 | n => n, fun | n => n⟩
theorem Tryz.lays125 : Go.Proofs.Lays.n125 Tryz.prog Tryz.lays125_ren := {
  mixed := by kernel_rfl
  f125 := Tryz.func187.trans (congrArg some (by kernel_rfl))
  f128 := Tryz.func218.trans (congrArg some (by kernel_rfl))
  f129 := Tryz.func219.trans (congrArg some (by kernel_rfl))
  t3 := Tryz.underlying3
  a3 := Tryz.isAgg3
  z3 := Tryz.sizeOf3
  v3 := Tryz.zeroValue3
  t4 := Tryz.underlying4
  a4 := Tryz.isAgg4
  z4 := Tryz.sizeOf4
  v4 := Tryz.zeroValue4
  t5 := Tryz.underlying5
  a5 := Tryz.isAgg5
  z5 := Tryz.sizeOf5
  v5 := Tryz.zeroValue5
  t9 := Tryz.underlying9
  a9 := Tryz.isAgg9
  z9 := Tryz.sizeOf9
  v9 := Tryz.zeroValue9
  t46 := Tryz.underlying96
  a46 := Tryz.isAgg96
  z46 := Tryz.sizeOf96
  v46 := Tryz.zeroValue96
  t51 := Tryz.underlying100
  a51 := Tryz.isAgg100
  z51 := Tryz.sizeOf100
  v51 := Tryz.zeroValue100
  t53 := Tryz.underlying38
  a53 := Tryz.isAgg38
  z53 := Tryz.sizeOf38
  v53 := Tryz.zeroValue38 }
theorem Tryz.bits_Len (x : Int) (w : World) (h0 : 0 ≤ x) (h1 : x ≤ 18446744073709551615) :
    Calls Tryz.prog 187 #[.int .u64 x] w fun e w' => e = .returned (.int .i64 (Lib.bitLen x.toNat)) ∧ w' = w := Any.bits_Len Tryz.lays125 x w h0 h1
def Tryz.lays190_ren : Go.Shelf.Ren := ⟨fun | 190 => 154 | 125 => 187 | 258 => 191 | 128 => 218 | 129 => 219 | 302 => 220 | 303 => 221 | 304 => 222 | 305 => 223 | 306 => 224 | 307 => 225 | 308 => 226 | 309 => 227 | 310 => 228 | 333 => 250 | 329 => 251 | 330 => 252 | 334 => 253 | 335 => 254 | 336 => 255 | 344 => 274 | n => n, fun | 31 => 107 | 9 => 9 | 3 => 3 | 46 => 96 | 0 => 0 | 51 => 100 | 53 => 38 | 4 => 4 | 183 => 336 | 182 => 335 | 131 => 289 | 5 => 5 | 218 => 364 | 222 => 367 | 228 => 397 | 229 => 220 | n => n, fun | n => n⟩
theorem Tryz.lays190 : Go.Proofs.Lays.n190 Tryz.prog Tryz.lays190_ren := {
  mixed := by kernel_rfl
  f125 := Tryz.func187.trans (congrArg some (by kernel_rfl))
  f128 := Tryz.func218.trans (congrArg some (by kernel_rfl))
  f129 := Tryz.func219.trans (congrArg some (by kernel_rfl))
  f190 := Tryz.func154.trans (congrArg some (by kernel_rfl))
  f258 := Tryz.func191.trans (congrArg some (by kernel_rfl))
  f302 := Tryz.func220.trans (congrArg some (by kernel_rfl))
  f303 := Tryz.func221.trans (congrArg some (by kernel_rfl))
  f304 := Tryz.func222.trans (congrArg some (by kernel_rfl))
  f305 := Tryz.func223.trans (congrArg some (by kernel_rfl))
  f306 := Tryz.func224.trans (congrArg some (by kernel_rfl))
  f307 := Tryz.func225.trans (congrArg some (by kernel_rfl))
  f308 := Tryz.func226.trans (congrArg some (by kernel_rfl))
  f309 := Tryz.func227.trans (congrArg some (by kernel_rfl))
  f310 := Tryz.func228.trans (congrArg some (by kernel_rfl))
  f329 := Tryz.func251.trans (congrArg some (by kernel_rfl))
  f330 := Tryz.func252.trans (congrArg some (by kernel_rfl))
  f333 := Tryz.func250.trans (congrArg some (by kernel_rfl))
  f334 := Tryz.func253.trans (congrArg some (by kernel_rfl))
  f335 := Tryz.func254.trans (congrArg some (by kernel_rfl))
  f336 := Tryz.func255.trans (congrArg some (by kernel_rfl))
  f344 := Tryz.func274.trans (congrArg some (by kernel_rfl))
  t0 := Tryz.underlying0
  a0 := Tryz.isAgg0
  z0 := Tryz.sizeOf0
  v0 := Tryz.zeroValue0
  t3 := Tryz.underlying3
  a3 := Tryz.isAgg3
  z3 := Tryz.sizeOf3
  v3 := Tryz.zeroValue3
  t4 := Tryz.underlying4
  a4 := Tryz.isAgg4
  z4 := Tryz.sizeOf4
  v4 := Tryz.zeroValue4
  t5 := Tryz.underlying5
  a5 := Tryz.isAgg5
  z5 := Tryz.sizeOf5
  v5 := Tryz.zeroValue5
  t9 := Tryz.underlying9
  a9 := Tryz.isAgg9
  z9 := Tryz.sizeOf9
  v9 := Tryz.zeroValue9
  t31 := Tryz.underlying107
  a31 := Tryz.isAgg107
  z31 := Tryz.sizeOf107
  v31 := Tryz.zeroValue107
  t46 := Tryz.underlying96
  a46 := Tryz.isAgg96
  z46 := Tryz.sizeOf96
  v46 := Tryz.zeroValue96
  t51 := Tryz.underlying100
  a51 := Tryz.isAgg100
  z51 := Tryz.sizeOf100
  v51 := Tryz.zeroValue100
  t53 := Tryz.underlying38
  a53 := Tryz.isAgg38
  z53 := Tryz.sizeOf38
  v53 := Tryz.zeroValue38
  t131 := Tryz.underlying289
  a131 := Tryz.isAgg289
  z131 := Tryz.sizeOf289
  v131 := Tryz.zeroValue289
  t182 := Tryz.underlying335
  a182 := Tryz.isAgg335
  z182 := Tryz.sizeOf335
  v182 := Tryz.zeroValue335
  t183 := Tryz.underlying336
  a183 := Tryz.isAgg336
  z183 := Tryz.sizeOf336
  v183 := Tryz.zeroValue336
  t218 := Tryz.underlying364
  a218 := Tryz.isAgg364
  z218 := Tryz.sizeOf364
  v218 := Tryz.zeroValue364
  t222 := Tryz.underlying367
  a222 := Tryz.isAgg367
  z222 := Tryz.sizeOf367
  v222 := Tryz.zeroValue367
  t228 := Tryz.underlying397
  a228 := Tryz.isAgg397
  z228 := Tryz.sizeOf397
  v228 := Tryz.zeroValue397
  t229 := Tryz.underlying220
  a229 := Tryz.isAgg220
  z229 := Tryz.sizeOf220
  v229 := Tryz.zeroValue220 }
open Go.Sort Go.RowKit in
theorem Tryz.slices_Sort_string (blk off cap : Nat) (ss : List (List UInt8)) (w : World) (hH : Holds encStr w blk off ss.toArray) (hblk : blk < w.heap.size) (hsz : ss.length < 4611686018427387904) :
    Calls Tryz.prog 154 #[.slice (some ⟨blk, off, none⟩) ss.length cap] w fun e w' =>
      e = .returned (.tuple #[]) ∧ ∃ n os, w' = grow (putRow encStr (Sort.ahead w n) blk off (ss.mergeSort fun x y => decide (x ≤ y)).toArray) os := Any.slices_Sort_string Tryz.lays190 blk off cap ss w hH hblk hsz
def Tryz.lays194_ren : Go.Shelf.Ren := ⟨fun | 194 => 155 | n => n, fun | 31 => 107 | 9 => 9 | 3 => 3 | 4 => 4 | 0 => 0 | n => n, fun | n => n⟩
theorem Tryz.lays194 : Go.Proofs.Lays.n194 Tryz.prog Tryz.lays194_ren := {
  mixed := by kernel_rfl
  f194 := Tryz.func155.trans (congrArg some (by kernel_rfl))
  t0 := Tryz.underlying0
  a0 := Tryz.isAgg0
  z0 := Tryz.sizeOf0
  v0 := Tryz.zeroValue0
  t3 := Tryz.underlying3
  a3 := Tryz.isAgg3
  z3 := Tryz.sizeOf3
  v3 := Tryz.zeroValue3
  t4 := Tryz.underlying4
  a4 := Tryz.isAgg4
  z4 := Tryz.sizeOf4
  v4 := Tryz.zeroValue4
  t9 := Tryz.underlying9
  a9 := Tryz.isAgg9
  z9 := Tryz.sizeOf9
  v9 := Tryz.zeroValue9
  t31 := Tryz.underlying107
  a31 := Tryz.isAgg107
  z31 := Tryz.sizeOf107
  v31 := Tryz.zeroValue107 }
open Go.RowKit Go.Lib Go.Sort in
theorem Tryz.slices_Compact_string (blk off cap : Nat) (zs : List (List UInt8)) (w : World) (hH : Holds encStr w blk off zs.toArray) (hsz : zs.length ≤ 9223372036854775807) (hcap : zs.length ≤ cap) :
    Calls Tryz.prog 155 #[.slice (some ⟨blk, off, none⟩) zs.length cap] w fun e w' => e = .returned (.slice (some ⟨blk, off, none⟩) (Lib.compact zs).length cap) ∧ ∃ q, w' = putRow encStr (Sort.ahead w q) blk off (Lib.compact zs ++ List.replicate (zs.length - (Lib.compact zs).length) []).toArray := Any.slices_Compact_string Tryz.lays194 blk off cap zs w hH hsz hcap
open Go.RowKit Go.Lib Go.Sort in
theorem Tryz.slices_Compact_string_empty (a : Option Addr) (cap : Nat) (w : World) :
    Calls Tryz.prog 155 #[.slice a 0 cap] w fun e w' => e = .returned (.slice a 0 cap) ∧ w' = w := Any.slices_Compact_string_empty Tryz.lays194 a cap w
def Tryz.laysSlM6_f154_ren : Go.Shelf.Ren := ⟨fun | 6 => 154 | 8 => 187 | 9 => 191 | 19 => 218 | 20 => 219 | 21 => 220 | 22 => 221 | 23 => 222 | 24 => 223 | 25 => 224 | 26 => 225 | 27 => 226 | 28 => 227 | 29 => 228 | 36 => 250 | 31 => 251 | 32 => 252 | 37 => 253 | 38 => 254 | 39 => 255 | 41 => 274 | n => n, fun | 27 => 107 | 29 => 9 | 3 => 3 | 32 => 96 | 26 => 107 | 0 => 0 | 44 => 100 | 46 => 38 | 4 => 4 | 36 => 336 | 35 => 335 | 41 => 289 | 5 => 5 | 9 => 9 | 53 => 364 | 57 => 367 | 63 => 397 | 64 => 220 | n => n, fun | n => n⟩
theorem Tryz.laysSlM6_f154 : Go.Proofs.SlLaysM.n6 Tryz.prog Tryz.laysSlM6_f154_ren := {
  mixed := by kernel_rfl
  f6 := ⟨Tryz.f154.name, by decide, Tryz.func154.trans (congrArg some (by kernel_rfl))⟩
  f8 := Tryz.func187.trans (congrArg some (by kernel_rfl))
  f9 := ⟨Tryz.f191.name, by decide, Tryz.func191.trans (congrArg some (by kernel_rfl))⟩
  f19 := Tryz.func218.trans (congrArg some (by kernel_rfl))
  f20 := Tryz.func219.trans (congrArg some (by kernel_rfl))
  f21 := ⟨Tryz.f220.name, by decide, Tryz.func220.trans (congrArg some (by kernel_rfl))⟩
  f22 := ⟨Tryz.f221.name, by decide, Tryz.func221.trans (congrArg some (by kernel_rfl))⟩
  f23 := ⟨Tryz.f222.name, by decide, Tryz.func222.trans (congrArg some (by kernel_rfl))⟩
  f24 := ⟨Tryz.f223.name, by decide, Tryz.func223.trans (congrArg some (by kernel_rfl))⟩
  f25 := ⟨Tryz.f224.name, by decide, Tryz.func224.trans (congrArg some (by kernel_rfl))⟩
  f26 := ⟨Tryz.f225.name, by decide, Tryz.func225.trans (congrArg some (by kernel_rfl))⟩
  f27 := ⟨Tryz.f226.name, by decide, Tryz.func226.trans (congrArg some (by kernel_rfl))⟩
  f28 := ⟨Tryz.f227.name, by decide, Tryz.func227.trans (congrArg some (by kernel_rfl))⟩
  f29 := ⟨Tryz.f228.name, by decide, Tryz.func228.trans (congrArg some (by kernel_rfl))⟩
  f31 := Tryz.func251.trans (congrArg some (by kernel_rfl))
  f32 := Tryz.func252.trans (congrArg some (by kernel_rfl))
  f36 := ⟨Tryz.f250.name, by decide, Tryz.func250.trans (congrArg some (by kernel_rfl))⟩
  f37 := ⟨Tryz.f253.name, by decide, Tryz.func253.trans (congrArg some (by kernel_rfl))⟩
  f38 := ⟨Tryz.f254.name, by decide, Tryz.func254.trans (congrArg some (by kernel_rfl))⟩
  f39 := ⟨Tryz.f255.name, by decide, Tryz.func255.trans (congrArg some (by kernel_rfl))⟩
  f41 := ⟨Tryz.f274.name, by decide, Tryz.func274.trans (congrArg some (by kernel_rfl))⟩
  t0 := Tryz.underlying0
  a0 := Tryz.isAgg0
  z0 := Tryz.sizeOf0
  v0 := Tryz.zeroValue0
  t3 := Tryz.underlying3
  a3 := Tryz.isAgg3
  z3 := Tryz.sizeOf3
  v3 := Tryz.zeroValue3
  t4 := Tryz.underlying4
  a4 := Tryz.isAgg4
  z4 := Tryz.sizeOf4
  v4 := Tryz.zeroValue4
  t5 := Tryz.underlying5
  a5 := Tryz.isAgg5
  z5 := Tryz.sizeOf5
  v5 := Tryz.zeroValue5
  t9 := Tryz.underlying9
  a9 := Tryz.isAgg9
  z9 := Tryz.sizeOf9
  v9 := Tryz.zeroValue9
  t26 := Tryz.underlying107
  a26 := Tryz.isAgg107
  z26 := Tryz.sizeOf107
  v26 := Tryz.zeroValue107
  t27 := Tryz.underlying107
  a27 := Tryz.isAgg107
  z27 := Tryz.sizeOf107
  v27 := Tryz.zeroValue107
  t29 := Tryz.underlying9
  a29 := Tryz.isAgg9
  z29 := Tryz.sizeOf9
  v29 := Tryz.zeroValue9
  t32 := Tryz.underlying96
  a32 := Tryz.isAgg96
  z32 := Tryz.sizeOf96
  v32 := Tryz.zeroValue96
  t35 := Tryz.underlying335
  a35 := Tryz.isAgg335
  z35 := Tryz.sizeOf335
  v35 := Tryz.zeroValue335
  t36 := Tryz.underlying336
  a36 := Tryz.isAgg336
  z36 := Tryz.sizeOf336
  v36 := Tryz.zeroValue336
  t41 := Tryz.underlying289
  a41 := Tryz.isAgg289
  z41 := Tryz.sizeOf289
  v41 := Tryz.zeroValue289
  t44 := Tryz.underlying100
  a44 := Tryz.isAgg100
  z44 := Tryz.sizeOf100
  v44 := Tryz.zeroValue100
  t46 := Tryz.underlying38
  a46 := Tryz.isAgg38
  z46 := Tryz.sizeOf38
  v46 := Tryz.zeroValue38
  t53 := Tryz.underlying364
  a53 := Tryz.isAgg364
  z53 := Tryz.sizeOf364
  v53 := Tryz.zeroValue364
  t57 := Tryz.underlying367
  a57 := Tryz.isAgg367
  z57 := Tryz.sizeOf367
  v57 := Tryz.zeroValue367
  t63 := Tryz.underlying397
  a63 := Tryz.isAgg397
  z63 := Tryz.sizeOf397
  v63 := Tryz.zeroValue397
  t64 := Tryz.underlying220
  a64 := Tryz.isAgg220
  z64 := Tryz.sizeOf220
  v64 := Tryz.zeroValue220 }
open Go.RowKit Go.Sort in
theorem Tryz.slices_Sort_string_none (p : Option Addr) (cap : Nat) (w : World) :
    Calls Tryz.prog 154 #[.slice p 0 cap] w fun e w' => e = .returned (.tuple #[]) ∧ w' = w := AnyM.slices_Sort_string_none Tryz.laysSlM6_f154 p cap w
end Go.Proofs
