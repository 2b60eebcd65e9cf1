/- Contracts of the library's functions at this translation,laid by the kit's tool. No condition beside those that they name. -/
import Derived.Shelf.Small.Bits
import Derived.Shelf.Strconv.Itoa0
import Derived.Shelf.Sort.Plain
import Derived.Shelf.Bits.Mul64
import Derived.Shelf.Slices.CompactS
import Derived.Shelf.Slices.Cells
import Derived.Shelf.Slices.In.SortNone
import Derived.Test.YtmcaneofjlhhmaaGreatDoorProg
namespace Go.Proofs
open Go.Shelf
def Tryz.lays125_ren:Go.Shelf.Ren:=⟨fun | 125=>201 | 128=>264 | 129=>265 | n=>n,fun | 46=>217 | 3=>3 | 51=>153 | 53=>52 | 4=>4 | 5=>5 | 9=>9 | n=>n,fun | n=>n⟩
theorem Tryz.lays125 : Go.Proofs.Lays.n125 prog lays125_ren:={
 mixed:=by kernel_rfl
 f125:=func201.trans (congrArg some (by kernel_rfl))
 f128:=func264.trans (congrArg some (by kernel_rfl))
 f129:=func265.trans (congrArg some (by kernel_rfl))
 t3:=underlying3
 a3:=isAgg3
 z3:=sizeOf3
 v3:=zeroValue3
 t4:=underlying4
 a4:=isAgg4
 z4:=sizeOf4
 v4:=zeroValue4
 t5:=underlying5
 a5:=isAgg5
 z5:=sizeOf5
 v5:=zeroValue5
 t9:=underlying9
 a9:=isAgg9
 z9:=sizeOf9
 v9:=zeroValue9
 t46:=underlying217
 a46:=isAgg217
 z46:=sizeOf217
 v46:=zeroValue217
 t51:=underlying153
 a51:=isAgg153
 z51:=sizeOf153
 v51:=zeroValue153
 t53:=underlying52
 a53:=isAgg52
 z53:=sizeOf52
 v53:=zeroValue52 }
theorem Tryz.bits_Len (x : Int) (w : World) (h0 : 0 ≤ x) (h1 : x ≤ 18446744073709551615) :
 Calls prog 201 #[.int .u64 x] w fun e w'=>e=.returned (.int .i64 (Lib.bitLen x.toNat))/\w'=w:=Any.bits_Len lays125 x w h0 h1
def Tryz.lays190_ren:Go.Shelf.Ren:=⟨fun | 190=>138 | 125=>201 | 258=>200 | 128=>264 | 129=>265 | 302=>255 | 303=>256 | 304=>257 | 305=>258 | 306=>259 | 307=>260 | 308=>261 | 309=>262 | 310=>263 | 333=>300 | 329=>301 | 330=>302 | 334=>303 | 335=>304 | 336=>305 | 344=>326 | n=>n,fun | 31=>44 | 9=>9 | 3=>3 | 46=>217 | 0=>0 | 51=>153 | 53=>52 | 4=>4 | 183=>338 | 182=>337 | 131=>342 | 5=>5 | 218=>390 | 222=>393 | 228=>415 | 229=>277 | n=>n,fun | n=>n⟩
theorem Tryz.lays190 : Go.Proofs.Lays.n190 prog lays190_ren:={
 mixed:=by kernel_rfl
 f125:=func201.trans (congrArg some (by kernel_rfl))
 f128:=func264.trans (congrArg some (by kernel_rfl))
 f129:=func265.trans (congrArg some (by kernel_rfl))
 f190:=func138.trans (congrArg some (by kernel_rfl))
 f258:=func200.trans (congrArg some (by kernel_rfl))
 f302:=func255.trans (congrArg some (by kernel_rfl))
 f303:=func256.trans (congrArg some (by kernel_rfl))
 f304:=func257.trans (congrArg some (by kernel_rfl))
 f305:=func258.trans (congrArg some (by kernel_rfl))
 f306:=func259.trans (congrArg some (by kernel_rfl))
 f307:=func260.trans (congrArg some (by kernel_rfl))
 f308:=func261.trans (congrArg some (by kernel_rfl))
 f309:=func262.trans (congrArg some (by kernel_rfl))
 f310:=func263.trans (congrArg some (by kernel_rfl))
 f329:=func301.trans (congrArg some (by kernel_rfl))
 f330:=func302.trans (congrArg some (by kernel_rfl))
 f333:=func300.trans (congrArg some (by kernel_rfl))
 f334:=func303.trans (congrArg some (by kernel_rfl))
 f335:=func304.trans (congrArg some (by kernel_rfl))
 f336:=func305.trans (congrArg some (by kernel_rfl))
 f344:=func326.trans (congrArg some (by kernel_rfl))
 t0:=underlying0
 a0:=isAgg0
 z0:=sizeOf0
 v0:=zeroValue0
 t3:=underlying3
 a3:=isAgg3
 z3:=sizeOf3
 v3:=zeroValue3
 t4:=underlying4
 a4:=isAgg4
 z4:=sizeOf4
 v4:=zeroValue4
 t5:=underlying5
 a5:=isAgg5
 z5:=sizeOf5
 v5:=zeroValue5
 t9:=underlying9
 a9:=isAgg9
 z9:=sizeOf9
 v9:=zeroValue9
 t31:=underlying44
 a31:=isAgg44
 z31:=sizeOf44
 v31:=zeroValue44
 t46:=underlying217
 a46:=isAgg217
 z46:=sizeOf217
 v46:=zeroValue217
 t51:=underlying153
 a51:=isAgg153
 z51:=sizeOf153
 v51:=zeroValue153
 t53:=underlying52
 a53:=isAgg52
 z53:=sizeOf52
 v53:=zeroValue52
 t131:=underlying342
 a131:=isAgg342
 z131:=sizeOf342
 v131:=zeroValue342
 t182:=underlying337
 a182:=isAgg337
 z182:=sizeOf337
 v182:=zeroValue337
 t183:=underlying338
 a183:=isAgg338
 z183:=sizeOf338
 v183:=zeroValue338
 t218:=underlying390
 a218:=isAgg390
 z218:=sizeOf390
 v218:=zeroValue390
 t222:=underlying393
 a222:=isAgg393
 z222:=sizeOf393
 v222:=zeroValue393
 t228:=underlying415
 a228:=isAgg415
 z228:=sizeOf415
 v228:=zeroValue415
 t229:=underlying277
 a229:=isAgg277
 z229:=sizeOf277
 v229:=zeroValue277 }
open Go.Sort Go.RowKit in
theorem Tryz.slices_Sort_string (blk off cap : Nat) (ss : List (List UInt8)) (w : World) (hH : Holds encStr w blk off ss.toArray) (hblk : blk < w.heap.size) (hsz : ss.length < 4611686018427387904) :
 Calls prog 138 #[.slice (some ⟨blk,off,none⟩) ss.length cap] w fun e w'=>
 e=.returned (.tuple #[])/\∃ n os,w'=grow (putRow encStr (Sort.ahead w n) blk off (ss.mergeSort fun x y=>decide (x<=y)).toArray) os:=Any.slices_Sort_string lays190 blk off cap ss w hH hblk hsz
def Tryz.lays194_ren:Go.Shelf.Ren:=⟨fun | 194=>139 | n=>n,fun | 31=>44 | 9=>9 | 3=>3 | 4=>4 | 0=>0 | n=>n,fun | n=>n⟩
theorem Tryz.lays194 : Go.Proofs.Lays.n194 prog lays194_ren:={
 mixed:=by kernel_rfl
 f194:=func139.trans (congrArg some (by kernel_rfl))
 t0:=underlying0
 a0:=isAgg0
 z0:=sizeOf0
 v0:=zeroValue0
 t3:=underlying3
 a3:=isAgg3
 z3:=sizeOf3
 v3:=zeroValue3
 t4:=underlying4
 a4:=isAgg4
 z4:=sizeOf4
 v4:=zeroValue4
 t9:=underlying9
 a9:=isAgg9
 z9:=sizeOf9
 v9:=zeroValue9
 t31:=underlying44
 a31:=isAgg44
 z31:=sizeOf44
 v31:=zeroValue44 }
open Go.RowKit Go.Lib Go.Sort Tryz in
theorem Tryz.slices_Compact_string (blk off cap : Nat) (zs : List (List UInt8)) (w : World) (hH : Holds encStr w blk off zs.toArray) (hsz : zs.length ≤ 9223372036854775807) (hcap : zs.length ≤ cap) :
 Calls prog 139 #[.slice (some ⟨blk,off,none⟩) zs.length cap] w fun e w'=>e=.returned (.slice (some ⟨blk,off,none⟩) (Lib.compact zs).length cap)/\∃ q,w'=putRow encStr (Sort.ahead w q) blk off (Lib.compact zs++List.replicate (zs.length - (Lib.compact zs).length) []).toArray:=Any.slices_Compact_string lays194 blk off cap zs w hH hsz hcap
open Go.RowKit Go.Lib Go.Sort Tryz in
theorem Tryz.slices_Compact_string_empty (a : Option Addr) (cap : Nat) (w : World) :
 Calls prog 139 #[.slice a 0 cap] w fun e w'=>e=.returned (.slice a 0 cap)/\w'=w:=Any.slices_Compact_string_empty lays194 a cap w
open Go.RowKit Go.Sort Tryz in
theorem Tryz.slices_Sort_string_none (p : Option Addr) (cap : Nat) (w : World) :
 Calls prog 138 #[.slice p 0 cap] w fun e w'=>e=.returned (.tuple #[])/\w'=w:=Any.slices_Sort_string_none lays190 p cap w
end Go.Proofs
