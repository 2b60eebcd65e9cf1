/- Contracts of the library's functions at this translation, laid by the kit's tool. No condition beside those that they name. -/
import Derived.Shelf.Small.Bits
import Derived.Shelf.Strconv.Itoa0
import Derived.Shelf.Sort.Plain
import Derived.Shelf.Bits.Mul64
import Derived.Ground.Names2Prog
import Derived.Shelf.Slices.Clone
import Derived.Shelf.Slices.CompactS
import Derived.Shelf.Slices.Cells
import Derived.Ground.SlgnProg
import Derived.Shelf.SlicesE.Clone
import Derived.Ground.SlgmProg
import Derived.Shelf.SortM.SortNone
import Derived.Test.YtghcmindankceaaGreatDoorProg
namespace Go.Proofs
open Go.Shelf
def Tryz.lays128_ren : Go.Shelf.Ren := ⟨fun | 128 => 290 | n => n, fun | 51 => 180 | 3 => 3 | 4 => 4 | 46 => 238 | 5 => 5 | 9 => 9 | n => n, fun | n => n⟩
theorem Tryz.lays128 : Go.Proofs.Lays.n128 Tryz.prog Tryz.lays128_ren := {
  mixed := by kernel_rfl
  f128 := Tryz.func290.trans (congrArg some (by kernel_rfl))
  t3 := Tryz.underlying3
  a3 := Tryz.isAgg3
  z3 := Tryz.sizeOf3
  v3 := Tryz.zeroValue3
  t4 := Tryz.underlying4
  a4 := Tryz.isAgg4
  z4 := Tryz.sizeOf4
  v4 := Tryz.zeroValue4
  t5 := Tryz.underlying5
  a5 := Tryz.isAgg5
  z5 := Tryz.sizeOf5
  v5 := Tryz.zeroValue5
  t9 := Tryz.underlying9
  a9 := Tryz.isAgg9
  z9 := Tryz.sizeOf9
  v9 := Tryz.zeroValue9
  t46 := Tryz.underlying238
  a46 := Tryz.isAgg238
  z46 := Tryz.sizeOf238
  v46 := Tryz.zeroValue238
  t51 := Tryz.underlying180
  a51 := Tryz.isAgg180
  z51 := Tryz.sizeOf180
  v51 := Tryz.zeroValue180 }
theorem Tryz.bits_Len32 (x : Int) (w : World) (h0 : 0 ≤ x) (h1 : x ≤ 4294967295) :
    Calls Tryz.prog 290 #[.int .u32 x] w fun e w' => e = .returned (.int .i64 (Lib.bitLen x.toNat)) ∧ w' = w := Any.bits_Len32 Tryz.lays128 x w h0 h1
def Tryz.lays125_ren : Go.Shelf.Ren := ⟨fun | 125 => 227 | 128 => 290 | 129 => 291 | n => n, fun | 46 => 238 | 3 => 3 | 51 => 180 | 53 => 61 | 4 => 4 | 5 => 5 | 9 => 9 | n => n, fun | n => n⟩
theorem Tryz.lays125 : Go.Proofs.Lays.n125 Tryz.prog Tryz.lays125_ren := {
  mixed := by kernel_rfl
  f125 := Tryz.func227.trans (congrArg some (by kernel_rfl))
  f128 := Tryz.func290.trans (congrArg some (by kernel_rfl))
  f129 := Tryz.func291.trans (congrArg some (by kernel_rfl))
  t3 := Tryz.underlying3
  a3 := Tryz.isAgg3
  z3 := Tryz.sizeOf3
  v3 := Tryz.zeroValue3
  t4 := Tryz.underlying4
  a4 := Tryz.isAgg4
  z4 := Tryz.sizeOf4
  v4 := Tryz.zeroValue4
  t5 := Tryz.underlying5
  a5 := Tryz.isAgg5
  z5 := Tryz.sizeOf5
  v5 := Tryz.zeroValue5
  t9 := Tryz.underlying9
  a9 := Tryz.isAgg9
  z9 := Tryz.sizeOf9
  v9 := Tryz.zeroValue9
  t46 := Tryz.underlying238
  a46 := Tryz.isAgg238
  z46 := Tryz.sizeOf238
  v46 := Tryz.zeroValue238
  t51 := Tryz.underlying180
  a51 := Tryz.isAgg180
  z51 := Tryz.sizeOf180
  v51 := Tryz.zeroValue180
  t53 := Tryz.underlying61
  a53 := Tryz.isAgg61
  z53 := Tryz.sizeOf61
  v53 := Tryz.zeroValue61 }
theorem Tryz.bits_Len (x : Int) (w : World) (h0 : 0 ≤ x) (h1 : x ≤ 18446744073709551615) :
    Calls Tryz.prog 227 #[.int .u64 x] w fun e w' => e = .returned (.int .i64 (Lib.bitLen x.toNat)) ∧ w' = w := Any.bits_Len Tryz.lays125 x w h0 h1
def Tryz.lays129_ren : Go.Shelf.Ren := ⟨fun | 129 => 291 | n => n, fun | 53 => 61 | 3 => 3 | 4 => 4 | 46 => 238 | 5 => 5 | 9 => 9 | n => n, fun | n => n⟩
theorem Tryz.lays129 : Go.Proofs.Lays.n129 Tryz.prog Tryz.lays129_ren := {
  mixed := by kernel_rfl
  f129 := Tryz.func291.trans (congrArg some (by kernel_rfl))
  t3 := Tryz.underlying3
  a3 := Tryz.isAgg3
  z3 := Tryz.sizeOf3
  v3 := Tryz.zeroValue3
  t4 := Tryz.underlying4
  a4 := Tryz.isAgg4
  z4 := Tryz.sizeOf4
  v4 := Tryz.zeroValue4
  t5 := Tryz.underlying5
  a5 := Tryz.isAgg5
  z5 := Tryz.sizeOf5
  v5 := Tryz.zeroValue5
  t9 := Tryz.underlying9
  a9 := Tryz.isAgg9
  z9 := Tryz.sizeOf9
  v9 := Tryz.zeroValue9
  t46 := Tryz.underlying238
  a46 := Tryz.isAgg238
  z46 := Tryz.sizeOf238
  v46 := Tryz.zeroValue238
  t53 := Tryz.underlying61
  a53 := Tryz.isAgg61
  z53 := Tryz.sizeOf61
  v53 := Tryz.zeroValue61 }
theorem Tryz.bits_Len64 (x : Int) (w : World) (h0 : 0 ≤ x) (h1 : x ≤ 18446744073709551615) :
    Calls Tryz.prog 291 #[.int .u64 x] w fun e w' => e = .returned (.int .i64 (Lib.bitLen x.toNat)) ∧ w' = w := Any.bits_Len64 Tryz.lays129 x w h0 h1
def Tryz.lays190_ren : Go.Shelf.Ren := ⟨fun | 190 => 163 | 125 => 227 | 258 => 226 | 128 => 290 | 129 => 291 | 302 => 281 | 303 => 282 | 304 => 283 | 305 => 284 | 306 => 285 | 307 => 286 | 308 => 287 | 309 => 288 | 310 => 289 | 333 => 326 | 329 => 327 | 330 => 328 | 334 => 329 | 335 => 330 | 336 => 331 | 344 => 352 | n => n, fun | 31 => 53 | 9 => 9 | 3 => 3 | 46 => 238 | 0 => 0 | 51 => 180 | 53 => 61 | 4 => 4 | 183 => 365 | 182 => 364 | 131 => 369 | 5 => 5 | 218 => 417 | 222 => 420 | 228 => 442 | 229 => 304 | n => n, fun | n => n⟩
theorem Tryz.lays190 : Go.Proofs.Lays.n190 Tryz.prog Tryz.lays190_ren := {
  mixed := by kernel_rfl
  f125 := Tryz.func227.trans (congrArg some (by kernel_rfl))
  f128 := Tryz.func290.trans (congrArg some (by kernel_rfl))
  f129 := Tryz.func291.trans (congrArg some (by kernel_rfl))
  f190 := Tryz.func163.trans (congrArg some (by kernel_rfl))
  f258 := Tryz.func226.trans (congrArg some (by kernel_rfl))
  f302 := Tryz.func281.trans (congrArg some (by kernel_rfl))
  f303 := Tryz.func282.trans (congrArg some (by kernel_rfl))
  f304 := Tryz.func283.trans (congrArg some (by kernel_rfl))
  f305 := Tryz.func284.trans (congrArg some (by kernel_rfl))
  f306 := Tryz.func285.trans (congrArg some (by kernel_rfl))
  f307 := Tryz.func286.trans (congrArg some (by kernel_rfl))
  f308 := Tryz.func287.trans (congrArg some (by kernel_rfl))
  f309 := Tryz.func288.trans (congrArg some (by kernel_rfl))
  f310 := Tryz.func289.trans (congrArg some (by kernel_rfl))
  f329 := Tryz.func327.trans (congrArg some (by kernel_rfl))
  f330 := Tryz.func328.trans (congrArg some (by kernel_rfl))
  f333 := Tryz.func326.trans (congrArg some (by kernel_rfl))
  f334 := Tryz.func329.trans (congrArg some (by kernel_rfl))
  f335 := Tryz.func330.trans (congrArg some (by kernel_rfl))
  f336 := Tryz.func331.trans (congrArg some (by kernel_rfl))
  f344 := Tryz.func352.trans (congrArg some (by kernel_rfl))
  t0 := Tryz.underlying0
  a0 := Tryz.isAgg0
  z0 := Tryz.sizeOf0
  v0 := Tryz.zeroValue0
  t3 := Tryz.underlying3
  a3 := Tryz.isAgg3
  z3 := Tryz.sizeOf3
  v3 := Tryz.zeroValue3
  t4 := Tryz.underlying4
  a4 := Tryz.isAgg4
  z4 := Tryz.sizeOf4
  v4 := Tryz.zeroValue4
  t5 := Tryz.underlying5
  a5 := Tryz.isAgg5
  z5 := Tryz.sizeOf5
  v5 := Tryz.zeroValue5
  t9 := Tryz.underlying9
  a9 := Tryz.isAgg9
  z9 := Tryz.sizeOf9
  v9 := Tryz.zeroValue9
  t31 := Tryz.underlying53
  a31 := Tryz.isAgg53
  z31 := Tryz.sizeOf53
  v31 := Tryz.zeroValue53
  t46 := Tryz.underlying238
  a46 := Tryz.isAgg238
  z46 := Tryz.sizeOf238
  v46 := Tryz.zeroValue238
  t51 := Tryz.underlying180
  a51 := Tryz.isAgg180
  z51 := Tryz.sizeOf180
  v51 := Tryz.zeroValue180
  t53 := Tryz.underlying61
  a53 := Tryz.isAgg61
  z53 := Tryz.sizeOf61
  v53 := Tryz.zeroValue61
  t131 := Tryz.underlying369
  a131 := Tryz.isAgg369
  z131 := Tryz.sizeOf369
  v131 := Tryz.zeroValue369
  t182 := Tryz.underlying364
  a182 := Tryz.isAgg364
  z182 := Tryz.sizeOf364
  v182 := Tryz.zeroValue364
  t183 := Tryz.underlying365
  a183 := Tryz.isAgg365
  z183 := Tryz.sizeOf365
  v183 := Tryz.zeroValue365
  t218 := Tryz.underlying417
  a218 := Tryz.isAgg417
  z218 := Tryz.sizeOf417
  v218 := Tryz.zeroValue417
  t222 := Tryz.underlying420
  a222 := Tryz.isAgg420
  z222 := Tryz.sizeOf420
  v222 := Tryz.zeroValue420
  t228 := Tryz.underlying442
  a228 := Tryz.isAgg442
  z228 := Tryz.sizeOf442
  v228 := Tryz.zeroValue442
  t229 := Tryz.underlying304
  a229 := Tryz.isAgg304
  z229 := Tryz.sizeOf304
  v229 := Tryz.zeroValue304 }
open Go.Sort Go.RowKit in
theorem Tryz.slices_Sort_string (blk off cap : Nat) (ss : List (List UInt8)) (w : World) (hH : Holds encStr w blk off ss.toArray) (hblk : blk < w.heap.size) (hsz : ss.length < 4611686018427387904) :
    Calls Tryz.prog 163 #[.slice (some ⟨blk, off, none⟩) ss.length cap] w fun e w' =>
      e = .returned (.tuple #[]) ∧ ∃ n os, w' = grow (putRow encStr (Sort.ahead w n) blk off (ss.mergeSort fun x y => decide (x ≤ y)).toArray) os := Any.slices_Sort_string Tryz.lays190 blk off cap ss w hH hblk hsz
def Tryz.lays264_ren : Go.Shelf.Ren := ⟨fun | 264 => 346 | n => n, fun | 53 => 61 | 46 => 238 | n => n, fun | n => n⟩
theorem Tryz.lays264 : Go.Proofs.Lays.n264 Tryz.prog Tryz.lays264_ren := {
  mixed := by kernel_rfl
  f264 := Tryz.func346.trans (congrArg some (by kernel_rfl))
  t46 := Tryz.underlying238
  a46 := Tryz.isAgg238
  z46 := Tryz.sizeOf238
  v46 := Tryz.zeroValue238
  t53 := Tryz.underlying61
  a53 := Tryz.isAgg61
  z53 := Tryz.sizeOf61
  v53 := Tryz.zeroValue61 }
open Go.RowKit Go.Lib in
theorem Tryz.bits_Mul64 (x y : Nat) (hx : x < 18446744073709551616) (hy : y < 18446744073709551616) (w : World) :
    Calls Tryz.prog 346 #[.int .u64 x, .int .u64 y] w fun e w' => e = .returned (.tuple #[.int .u64 ((x * y / 18446744073709551616 : Nat) : Int), .int .u64 ((x * y % 18446744073709551616 : Nat) : Int)]) ∧ w' = w := Any.bits_Mul64 Tryz.lays264 x y hx hy w
def Tryz.lays212_ren : Go.Shelf.Ren := ⟨fun | 212 => 316 | 263 => 345 | 264 => 346 | n => n, fun | 46 => 238 | 51 => 180 | 146 => 432 | 53 => 61 | 148 => 434 | n => n, fun | n => n⟩
theorem Tryz.lays212 : Go.Proofs.Lays.n212 Tryz.prog Tryz.lays212_ren := {
  mixed := by kernel_rfl
  f212 := Tryz.func316.trans (congrArg some (by kernel_rfl))
  f263 := Tryz.func345.trans (congrArg some (by kernel_rfl))
  f264 := Tryz.func346.trans (congrArg some (by kernel_rfl))
  t46 := Tryz.underlying238
  a46 := Tryz.isAgg238
  z46 := Tryz.sizeOf238
  v46 := Tryz.zeroValue238
  t51 := Tryz.underlying180
  a51 := Tryz.isAgg180
  z51 := Tryz.sizeOf180
  v51 := Tryz.zeroValue180
  t53 := Tryz.underlying61
  a53 := Tryz.isAgg61
  z53 := Tryz.sizeOf61
  v53 := Tryz.zeroValue61
  t146 := Tryz.underlying432
  a146 := Tryz.isAgg432
  z146 := Tryz.sizeOf432
  v146 := Tryz.zeroValue432
  t148 := Tryz.underlying434
  a148 := Tryz.isAgg434
  z148 := Tryz.sizeOf434
  v148 := Tryz.zeroValue434 }
open Go.RowKit Go.Lib in
theorem Tryz.bits_Mul (x y : Nat) (hx : x < 18446744073709551616) (hy : y < 18446744073709551616) (w : World) :
    Calls Tryz.prog 316 #[.int .u64 x, .int .u64 y] w fun e w' => e = .returned (.tuple #[.int .u64 ((x * y / 18446744073709551616 : Nat) : Int), .int .u64 ((x * y % 18446744073709551616 : Nat) : Int)]) ∧ w' = w := Any.bits_Mul Tryz.lays212 x y hx hy w
def Tryz.laysNm215_ren : Go.Shelf.Ren := ⟨fun | 15 => 44 | n => n, fun | 22 => 49 | 3 => 3 | 4 => 4 | n => n, fun | n => n⟩
theorem Tryz.laysNm215 : Go.Proofs.Lays2.n15 Tryz.prog Tryz.laysNm215_ren := {
  mixed := by kernel_rfl
  f15 := Tryz.func44.trans (congrArg some (by kernel_rfl))
  t3 := Tryz.underlying3
  a3 := Tryz.isAgg3
  z3 := Tryz.sizeOf3
  v3 := Tryz.zeroValue3
  t4 := Tryz.underlying4
  a4 := Tryz.isAgg4
  z4 := Tryz.sizeOf4
  v4 := Tryz.zeroValue4
  t22 := Tryz.underlying49
  a22 := Tryz.isAgg49
  z22 := Tryz.sizeOf49
  v22 := Tryz.zeroValue49
  i3 := by kernel_rfl }
open Go.RowKit Go.Lib in
theorem Tryz.slices_Clone_int (b off n c : Nat) (zs : List Int) (w : World) (hz : n ≤ zs.length) (hbig : n * 8 ≤ 140737488355328) (hc : ∀ j, j < zs.length → w.cell? ⟨b, off + j, none⟩ = some (.int .i64 (zs.getD j 0))) :
    Calls Tryz.prog 44 #[.slice (some ⟨b, off, none⟩) n c] w fun e w' => ∃ v', e = .returned v' ∧ w'.ownsRow w.heap.size 3 1 v' n ((zs.take n).map (Value.int .i64)) ∧ v' ≠ .slice none 0 0 ∧ Below w.heap.size w w' := Any.slices_Clone_int Tryz.laysNm215 b off n c zs w hz hbig hc
open Go.RowKit Go.Lib in
theorem Tryz.slices_Clone_int_nil (n c : Nat) (w : World) :
    Calls Tryz.prog 44 #[.slice none n c] w fun e w' => e = .returned (.slice none 0 0) ∧ w' = w := Any.slices_Clone_int_nil Tryz.laysNm215 n c w
def Tryz.laysNm216_ren : Go.Shelf.Ren := ⟨fun | 16 => 217 | n => n, fun | 24 => 53 | 9 => 9 | 4 => 4 | n => n, fun | n => n⟩
theorem Tryz.laysNm216 : Go.Proofs.Lays2.n16 Tryz.prog Tryz.laysNm216_ren := {
  mixed := by kernel_rfl
  f16 := Tryz.func217.trans (congrArg some (by kernel_rfl))
  t4 := Tryz.underlying4
  a4 := Tryz.isAgg4
  z4 := Tryz.sizeOf4
  v4 := Tryz.zeroValue4
  t9 := Tryz.underlying9
  a9 := Tryz.isAgg9
  z9 := Tryz.sizeOf9
  v9 := Tryz.zeroValue9
  t24 := Tryz.underlying53
  a24 := Tryz.isAgg53
  z24 := Tryz.sizeOf53
  v24 := Tryz.zeroValue53
  i9 := by kernel_rfl }
open Go.RowKit Go.Lib in
theorem Tryz.slices_Clone_string (b off n c : Nat) (zs : List ByteArray) (w : World) (hz : n ≤ zs.length) (hbig : n * 16 ≤ 140737488355328) (hc : ∀ j, j < zs.length → w.cell? ⟨b, off + j, none⟩ = some (.string (zs.getD j ByteArray.empty))) :
    Calls Tryz.prog 217 #[.slice (some ⟨b, off, none⟩) n c] w fun e w' => ∃ v', e = .returned v' ∧ w'.ownsRow w.heap.size 9 1 v' n ((zs.take n).map (Value.string)) ∧ v' ≠ .slice none 0 0 ∧ Below w.heap.size w w' := Any.slices_Clone_string Tryz.laysNm216 b off n c zs w hz hbig hc
open Go.RowKit Go.Lib in
theorem Tryz.slices_Clone_string_nil (n c : Nat) (w : World) :
    Calls Tryz.prog 217 #[.slice none n c] w fun e w' => e = .returned (.slice none 0 0) ∧ w' = w := Any.slices_Clone_string_nil Tryz.laysNm216 n c w
open Go.RowKit Go.Lib in
theorem Tryz.slices_Clone_int_zero (a : Addr) (c : Nat) (w : World) :
    Calls Tryz.prog 44 #[.slice (some a) 0 c] w fun e w' => ∃ v', e = .returned v' ∧ w'.ownsRow w.heap.size 3 1 v' 0 [] ∧ v' ≠ .slice none 0 0 ∧ Below w.heap.size w w' := Any.slices_Clone_int_zero Tryz.laysNm215 a c w
open Go.RowKit Go.Lib in
theorem Tryz.slices_Clone_string_zero (a : Addr) (c : Nat) (w : World) :
    Calls Tryz.prog 217 #[.slice (some a) 0 c] w fun e w' => ∃ v', e = .returned v' ∧ w'.ownsRow w.heap.size 9 1 v' 0 [] ∧ v' ≠ .slice none 0 0 ∧ Below w.heap.size w w' := Any.slices_Clone_string_zero Tryz.laysNm216 a c w
def Tryz.lays194_ren : Go.Shelf.Ren := ⟨fun | 194 => 164 | n => n, fun | 31 => 53 | 9 => 9 | 3 => 3 | 4 => 4 | 0 => 0 | n => n, fun | n => n⟩
theorem Tryz.lays194 : Go.Proofs.Lays.n194 Tryz.prog Tryz.lays194_ren := {
  mixed := by kernel_rfl
  f194 := Tryz.func164.trans (congrArg some (by kernel_rfl))
  t0 := Tryz.underlying0
  a0 := Tryz.isAgg0
  z0 := Tryz.sizeOf0
  v0 := Tryz.zeroValue0
  t3 := Tryz.underlying3
  a3 := Tryz.isAgg3
  z3 := Tryz.sizeOf3
  v3 := Tryz.zeroValue3
  t4 := Tryz.underlying4
  a4 := Tryz.isAgg4
  z4 := Tryz.sizeOf4
  v4 := Tryz.zeroValue4
  t9 := Tryz.underlying9
  a9 := Tryz.isAgg9
  z9 := Tryz.sizeOf9
  v9 := Tryz.zeroValue9
  t31 := Tryz.underlying53
  a31 := Tryz.isAgg53
  z31 := Tryz.sizeOf53
  v31 := Tryz.zeroValue53 }
open Go.RowKit Go.Lib Go.Sort in
theorem Tryz.slices_Compact_string_arr (blk off cap : Nat) (d : Array (List UInt8)) (w : World) (hH : Holds encStr w blk off d) (hsz : d.size ≤ 9223372036854775807) (hcap : d.size ≤ cap) :
    Calls Tryz.prog 164 #[.slice (some ⟨blk, off, none⟩) d.size cap] w fun e w' => e = .returned (.slice (some ⟨blk, off, none⟩) (compactUpTo d d.size).length cap) ∧ ∃ q, w' = putRow encStr (Sort.ahead w q) blk off (compactUpTo d d.size ++ List.replicate (d.size - (compactUpTo d d.size).length) []).toArray := Any.slices_Compact_string_arr Tryz.lays194 blk off cap d w hH hsz hcap
open Go.RowKit Go.Lib Go.Sort in
theorem Tryz.slices_Compact_string (blk off cap : Nat) (zs : List (List UInt8)) (w : World) (hH : Holds encStr w blk off zs.toArray) (hsz : zs.length ≤ 9223372036854775807) (hcap : zs.length ≤ cap) :
    Calls Tryz.prog 164 #[.slice (some ⟨blk, off, none⟩) zs.length cap] w fun e w' => e = .returned (.slice (some ⟨blk, off, none⟩) (Lib.compact zs).length cap) ∧ ∃ q, w' = putRow encStr (Sort.ahead w q) blk off (Lib.compact zs ++ List.replicate (zs.length - (Lib.compact zs).length) []).toArray := Any.slices_Compact_string Tryz.lays194 blk off cap zs w hH hsz hcap
open Go.RowKit Go.Lib Go.Sort in
theorem Tryz.slices_Compact_string_empty (a : Option Addr) (cap : Nat) (w : World) :
    Calls Tryz.prog 164 #[.slice a 0 cap] w fun e w' => e = .returned (.slice a 0 cap) ∧ w' = w := Any.slices_Compact_string_empty Tryz.lays194 a cap w
open Go.RowKit Go.Lib Go.Sort in
theorem Tryz.slices_Compact_string_cells (b off n c : Nat) (Sx : Nat → ByteArray) (w : World) (hbig : n ≤ 9223372036854775807) (hcap : n ≤ c) (hc : ∀ i, i < n → w.cell? ⟨b, off + i, none⟩ = some (.string (Sx i))) (hf : ∀ j, j < n → w.frozen? ⟨b, off + j, none⟩ = false) :
    Calls Tryz.prog 164 #[.slice (some ⟨b, off, none⟩) n c] w fun e w' => e = .returned (.slice (some ⟨b, off, none⟩) (Lib.compact (Lib.strsOf Sx n)).length c) ∧ ∃ q, w' = (w.drewN q).setCells b off ((Lib.compact (Lib.strsOf Sx n) ++ List.replicate (n - (Lib.compact (Lib.strsOf Sx n)).length) []).map encStr) := Any.slices_Compact_string_cells Tryz.lays194 b off n c Sx w hbig hcap hc hf
def Tryz.laysSlE041_f44_ren : Go.Shelf.Ren := ⟨fun | 41 => 44 | n => n, fun | 22 => 49 | 23 => 3 | 4 => 4 | n => n, fun | n => n⟩
theorem Tryz.laysSlE041_f44 : Go.Proofs.SlLaysE0.n41 Tryz.prog Tryz.laysSlE041_f44_ren := {
  mixed := by kernel_rfl
  f41 := ⟨Tryz.f44.name, by decide, Tryz.func44.trans (congrArg some (by kernel_rfl))⟩
  t4 := Tryz.underlying4
  a4 := Tryz.isAgg4
  z4 := Tryz.sizeOf4
  v4 := Tryz.zeroValue4
  t22 := Tryz.underlying49
  a22 := Tryz.isAgg49
  z22 := Tryz.sizeOf49
  v22 := Tryz.zeroValue49 }
open Go.RowKit Go.Lib in
theorem Tryz.slices_Clone_f44 (i0 : TypeInfo) (z : Value) (size bytes : Nat) (hi : Tryz.prog.info? 3 = some i0) (hz0 : i0.zero = some z) (hz1 : i0.size = size) (hz2 : i0.bytes = bytes) (hzs : z.cells.size = size) (hsz : 0 < size) (z23 : ∀ w, (Go.sizeOf 3).run Tryz.prog w = .ok size w) (b off n c : Nat) (news : List Value) (w : World) (hl : news.length = n * size) (hn : n ≤ maxLen) (hbig : n * bytes ≤ 140737488355328) (hc : ∀ j u, news[j]? = some u → w.cell? ⟨b, off + j, none⟩ = some u) (h1 : ∀ u ∈ news, u.oneCell' = true) :
    Calls Tryz.prog 44 #[.slice (some ⟨b, off, none⟩) n c] w fun e w' => ∃ v', e = .returned v' ∧ w'.ownsRow w.heap.size 3 size v' n news ∧ v' ≠ .slice none 0 0 ∧ Below w.heap.size w w' := AnyE.slices_Clone Tryz.laysSlE041_f44 i0 z size bytes hi hz0 hz1 hz2 hzs hsz z23 b off n c news w hl hn hbig hc h1
def Tryz.laysSlE041_f217_ren : Go.Shelf.Ren := ⟨fun | 41 => 217 | n => n, fun | 22 => 53 | 23 => 9 | 4 => 4 | n => n, fun | n => n⟩
theorem Tryz.laysSlE041_f217 : Go.Proofs.SlLaysE0.n41 Tryz.prog Tryz.laysSlE041_f217_ren := {
  mixed := by kernel_rfl
  f41 := ⟨Tryz.f217.name, by decide, Tryz.func217.trans (congrArg some (by kernel_rfl))⟩
  t4 := Tryz.underlying4
  a4 := Tryz.isAgg4
  z4 := Tryz.sizeOf4
  v4 := Tryz.zeroValue4
  t22 := Tryz.underlying53
  a22 := Tryz.isAgg53
  z22 := Tryz.sizeOf53
  v22 := Tryz.zeroValue53 }
open Go.RowKit Go.Lib in
theorem Tryz.slices_Clone_f217 (i0 : TypeInfo) (z : Value) (size bytes : Nat) (hi : Tryz.prog.info? 9 = some i0) (hz0 : i0.zero = some z) (hz1 : i0.size = size) (hz2 : i0.bytes = bytes) (hzs : z.cells.size = size) (hsz : 0 < size) (z23 : ∀ w, (Go.sizeOf 9).run Tryz.prog w = .ok size w) (b off n c : Nat) (news : List Value) (w : World) (hl : news.length = n * size) (hn : n ≤ maxLen) (hbig : n * bytes ≤ 140737488355328) (hc : ∀ j u, news[j]? = some u → w.cell? ⟨b, off + j, none⟩ = some u) (h1 : ∀ u ∈ news, u.oneCell' = true) :
    Calls Tryz.prog 217 #[.slice (some ⟨b, off, none⟩) n c] w fun e w' => ∃ v', e = .returned v' ∧ w'.ownsRow w.heap.size 9 size v' n news ∧ v' ≠ .slice none 0 0 ∧ Below w.heap.size w w' := AnyE.slices_Clone Tryz.laysSlE041_f217 i0 z size bytes hi hz0 hz1 hz2 hzs hsz z23 b off n c news w hl hn hbig hc h1
open Go.RowKit Go.Lib in
theorem Tryz.slices_Clone_nil_f44 (n c : Nat) (w : World) :
    Calls Tryz.prog 44 #[.slice none n c] w fun e w' => e = .returned (.slice none 0 0) ∧ w' = w := AnyE.slices_Clone_nil Tryz.laysSlE041_f44 n c w
open Go.RowKit Go.Lib in
theorem Tryz.slices_Clone_nil_f217 (n c : Nat) (w : World) :
    Calls Tryz.prog 217 #[.slice none n c] w fun e w' => e = .returned (.slice none 0 0) ∧ w' = w := AnyE.slices_Clone_nil Tryz.laysSlE041_f217 n c w
def Tryz.laysSlM6_f163_ren : Go.Shelf.Ren := ⟨fun | 6 => 163 | 8 => 227 | 9 => 226 | 19 => 290 | 20 => 291 | 21 => 281 | 22 => 282 | 23 => 283 | 24 => 284 | 25 => 285 | 26 => 286 | 27 => 287 | 28 => 288 | 29 => 289 | 36 => 326 | 31 => 327 | 32 => 328 | 37 => 329 | 38 => 330 | 39 => 331 | 41 => 352 | n => n, fun | 27 => 53 | 29 => 9 | 3 => 3 | 32 => 238 | 26 => 53 | 0 => 0 | 44 => 180 | 46 => 61 | 4 => 4 | 36 => 365 | 35 => 364 | 41 => 369 | 5 => 5 | 9 => 9 | 53 => 417 | 57 => 420 | 63 => 442 | 64 => 304 | n => n, fun | n => n⟩
theorem Tryz.laysSlM6_f163 : Go.Proofs.SlLaysM.n6 Tryz.prog Tryz.laysSlM6_f163_ren := {
  mixed := by kernel_rfl
  f6 := ⟨Tryz.f163.name, by decide, Tryz.func163.trans (congrArg some (by kernel_rfl))⟩
  f8 := Tryz.func227.trans (congrArg some (by kernel_rfl))
  f9 := ⟨Tryz.f226.name, by decide, Tryz.func226.trans (congrArg some (by kernel_rfl))⟩
  f19 := Tryz.func290.trans (congrArg some (by kernel_rfl))
  f20 := Tryz.func291.trans (congrArg some (by kernel_rfl))
  f21 := ⟨Tryz.f281.name, by decide, Tryz.func281.trans (congrArg some (by kernel_rfl))⟩
  f22 := ⟨Tryz.f282.name, by decide, Tryz.func282.trans (congrArg some (by kernel_rfl))⟩
  f23 := ⟨Tryz.f283.name, by decide, Tryz.func283.trans (congrArg some (by kernel_rfl))⟩
  f24 := ⟨Tryz.f284.name, by decide, Tryz.func284.trans (congrArg some (by kernel_rfl))⟩
  f25 := ⟨Tryz.f285.name, by decide, Tryz.func285.trans (congrArg some (by kernel_rfl))⟩
  f26 := ⟨Tryz.f286.name, by decide, Tryz.func286.trans (congrArg some (by kernel_rfl))⟩
  f27 := ⟨Tryz.f287.name, by decide, Tryz.func287.trans (congrArg some (by kernel_rfl))⟩
  f28 := ⟨Tryz.f288.name, by decide, Tryz.func288.trans (congrArg some (by kernel_rfl))⟩
  f29 := ⟨Tryz.f289.name, by decide, Tryz.func289.trans (congrArg some (by kernel_rfl))⟩
  f31 := Tryz.func327.trans (congrArg some (by kernel_rfl))
  f32 := Tryz.func328.trans (congrArg some (by kernel_rfl))
  f36 := ⟨Tryz.f326.name, by decide, Tryz.func326.trans (congrArg some (by kernel_rfl))⟩
  f37 := ⟨Tryz.f329.name, by decide, Tryz.func329.trans (congrArg some (by kernel_rfl))⟩
  f38 := ⟨Tryz.f330.name, by decide, Tryz.func330.trans (congrArg some (by kernel_rfl))⟩
  f39 := ⟨Tryz.f331.name, by decide, Tryz.func331.trans (congrArg some (by kernel_rfl))⟩
  f41 := ⟨Tryz.f352.name, by decide, Tryz.func352.trans (congrArg some (by kernel_rfl))⟩
  t0 := Tryz.underlying0
  a0 := Tryz.isAgg0
  z0 := Tryz.sizeOf0
  v0 := Tryz.zeroValue0
  t3 := Tryz.underlying3
  a3 := Tryz.isAgg3
  z3 := Tryz.sizeOf3
  v3 := Tryz.zeroValue3
  t4 := Tryz.underlying4
  a4 := Tryz.isAgg4
  z4 := Tryz.sizeOf4
  v4 := Tryz.zeroValue4
  t5 := Tryz.underlying5
  a5 := Tryz.isAgg5
  z5 := Tryz.sizeOf5
  v5 := Tryz.zeroValue5
  t9 := Tryz.underlying9
  a9 := Tryz.isAgg9
  z9 := Tryz.sizeOf9
  v9 := Tryz.zeroValue9
  t26 := Tryz.underlying53
  a26 := Tryz.isAgg53
  z26 := Tryz.sizeOf53
  v26 := Tryz.zeroValue53
  t27 := Tryz.underlying53
  a27 := Tryz.isAgg53
  z27 := Tryz.sizeOf53
  v27 := Tryz.zeroValue53
  t29 := Tryz.underlying9
  a29 := Tryz.isAgg9
  z29 := Tryz.sizeOf9
  v29 := Tryz.zeroValue9
  t32 := Tryz.underlying238
  a32 := Tryz.isAgg238
  z32 := Tryz.sizeOf238
  v32 := Tryz.zeroValue238
  t35 := Tryz.underlying364
  a35 := Tryz.isAgg364
  z35 := Tryz.sizeOf364
  v35 := Tryz.zeroValue364
  t36 := Tryz.underlying365
  a36 := Tryz.isAgg365
  z36 := Tryz.sizeOf365
  v36 := Tryz.zeroValue365
  t41 := Tryz.underlying369
  a41 := Tryz.isAgg369
  z41 := Tryz.sizeOf369
  v41 := Tryz.zeroValue369
  t44 := Tryz.underlying180
  a44 := Tryz.isAgg180
  z44 := Tryz.sizeOf180
  v44 := Tryz.zeroValue180
  t46 := Tryz.underlying61
  a46 := Tryz.isAgg61
  z46 := Tryz.sizeOf61
  v46 := Tryz.zeroValue61
  t53 := Tryz.underlying417
  a53 := Tryz.isAgg417
  z53 := Tryz.sizeOf417
  v53 := Tryz.zeroValue417
  t57 := Tryz.underlying420
  a57 := Tryz.isAgg420
  z57 := Tryz.sizeOf420
  v57 := Tryz.zeroValue420
  t63 := Tryz.underlying442
  a63 := Tryz.isAgg442
  z63 := Tryz.sizeOf442
  v63 := Tryz.zeroValue442
  t64 := Tryz.underlying304
  a64 := Tryz.isAgg304
  z64 := Tryz.sizeOf304
  v64 := Tryz.zeroValue304 }
open Go.RowKit Go.Sort in
theorem Tryz.slices_Sort_string_none (p : Option Addr) (cap : Nat) (w : World) :
    Calls Tryz.prog 163 #[.slice p 0 cap] w fun e w' => e = .returned (.tuple #[]) ∧ w' = w := AnyM.slices_Sort_string_none Tryz.laysSlM6_f163 p cap w
end Go.Proofs
