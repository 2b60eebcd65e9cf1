/- Contracts of the library's functions at this translation, laid by the kit's tool. No condition beside those that they name. -/
import Derived.Shelf.Small.Bits
import Derived.Shelf.Strconv.Itoa0
import Derived.Shelf.Sort.Plain
import Derived.Shelf.Bits.Mul64
import Derived.Shelf.Slices.CompactS
import Derived.Shelf.Slices.Cells
import Derived.Shelf.Slices.In.SortNone
import Derived.Test.YtndbpldeabnkbaaGreatDoorProg
namespace Go.Proofs
open Go.Shelf
def Tryz.lays125_ren:Go.Shelf.Ren:=⟨fun|125=>159|128=>198|129=>199|n=>n,fun|46=>172|3=>3|51=>124|53=>60|4=>4|5=>5|9=>9|n=>n,fun|n=>n⟩
theorem Tryz.lays125:Go.Proofs.Lays.n125 Tryz.prog Tryz.lays125_ren:={
 mixed:=by kernel_rfl
 f125:=Tryz.func159.trans (congrArg some (by kernel_rfl))
 f128:=Tryz.func198.trans (congrArg some (by kernel_rfl))
 f129:=Tryz.func199.trans (congrArg some (by kernel_rfl))
 t3:=Tryz.underlying3
 a3:=Tryz.isAgg3
 z3:=Tryz.sizeOf3
 v3:=Tryz.zeroValue3
 t4:=Tryz.underlying4
 a4:=Tryz.isAgg4
 z4:=Tryz.sizeOf4
 v4:=Tryz.zeroValue4
 t5:=Tryz.underlying5
 a5:=Tryz.isAgg5
 z5:=Tryz.sizeOf5
 v5:=Tryz.zeroValue5
 t9:=Tryz.underlying9
 a9:=Tryz.isAgg9
 z9:=Tryz.sizeOf9
 v9:=Tryz.zeroValue9
 t46:=Tryz.underlying172
 a46:=Tryz.isAgg172
 z46:=Tryz.sizeOf172
 v46:=Tryz.zeroValue172
 t51:=Tryz.underlying124
 a51:=Tryz.isAgg124
 z51:=Tryz.sizeOf124
 v51:=Tryz.zeroValue124
 t53:=Tryz.underlying60
 a53:=Tryz.isAgg60
 z53:=Tryz.sizeOf60
 v53:=Tryz.zeroValue60 }
theorem Tryz.bits_Len (x : Int) (w : World) (h0 : 0 ≤ x) (h1 : x ≤ 18446744073709551615) :
    Calls Tryz.prog 159 #[.int .u64 x] w fun e w'=>e=.returned (.int .i64 (Lib.bitLen x.toNat))/\w'=w:=Any.bits_Len Tryz.lays125 x w h0 h1
def Tryz.lays190_ren:Go.Shelf.Ren:=⟨fun|190=>122|125=>159|258=>163|128=>198|129=>199|302=>200|303=>201|304=>202|305=>203|306=>204|307=>205|308=>206|309=>207|310=>208|333=>236|329=>237|330=>238|334=>239|335=>240|336=>241|344=>261|n=>n,fun|31=>81|9=>9|3=>3|46=>172|0=>0|51=>124|53=>60|4=>4|183=>309|182=>308|131=>299|5=>5|218=>349|222=>352|228=>380|229=>246|n=>n,fun|n=>n⟩
theorem Tryz.lays190:Go.Proofs.Lays.n190 Tryz.prog Tryz.lays190_ren:={
 mixed:=by kernel_rfl
 f125:=Tryz.func159.trans (congrArg some (by kernel_rfl))
 f128:=Tryz.func198.trans (congrArg some (by kernel_rfl))
 f129:=Tryz.func199.trans (congrArg some (by kernel_rfl))
 f190:=Tryz.func122.trans (congrArg some (by kernel_rfl))
 f258:=Tryz.func163.trans (congrArg some (by kernel_rfl))
 f302:=Tryz.func200.trans (congrArg some (by kernel_rfl))
 f303:=Tryz.func201.trans (congrArg some (by kernel_rfl))
 f304:=Tryz.func202.trans (congrArg some (by kernel_rfl))
 f305:=Tryz.func203.trans (congrArg some (by kernel_rfl))
 f306:=Tryz.func204.trans (congrArg some (by kernel_rfl))
 f307:=Tryz.func205.trans (congrArg some (by kernel_rfl))
 f308:=Tryz.func206.trans (congrArg some (by kernel_rfl))
 f309:=Tryz.func207.trans (congrArg some (by kernel_rfl))
 f310:=Tryz.func208.trans (congrArg some (by kernel_rfl))
 f329:=Tryz.func237.trans (congrArg some (by kernel_rfl))
 f330:=Tryz.func238.trans (congrArg some (by kernel_rfl))
 f333:=Tryz.func236.trans (congrArg some (by kernel_rfl))
 f334:=Tryz.func239.trans (congrArg some (by kernel_rfl))
 f335:=Tryz.func240.trans (congrArg some (by kernel_rfl))
 f336:=Tryz.func241.trans (congrArg some (by kernel_rfl))
 f344:=Tryz.func261.trans (congrArg some (by kernel_rfl))
 t0:=Tryz.underlying0
 a0:=Tryz.isAgg0
 z0:=Tryz.sizeOf0
 v0:=Tryz.zeroValue0
 t3:=Tryz.underlying3
 a3:=Tryz.isAgg3
 z3:=Tryz.sizeOf3
 v3:=Tryz.zeroValue3
 t4:=Tryz.underlying4
 a4:=Tryz.isAgg4
 z4:=Tryz.sizeOf4
 v4:=Tryz.zeroValue4
 t5:=Tryz.underlying5
 a5:=Tryz.isAgg5
 z5:=Tryz.sizeOf5
 v5:=Tryz.zeroValue5
 t9:=Tryz.underlying9
 a9:=Tryz.isAgg9
 z9:=Tryz.sizeOf9
 v9:=Tryz.zeroValue9
 t31:=Tryz.underlying81
 a31:=Tryz.isAgg81
 z31:=Tryz.sizeOf81
 v31:=Tryz.zeroValue81
 t46:=Tryz.underlying172
 a46:=Tryz.isAgg172
 z46:=Tryz.sizeOf172
 v46:=Tryz.zeroValue172
 t51:=Tryz.underlying124
 a51:=Tryz.isAgg124
 z51:=Tryz.sizeOf124
 v51:=Tryz.zeroValue124
 t53:=Tryz.underlying60
 a53:=Tryz.isAgg60
 z53:=Tryz.sizeOf60
 v53:=Tryz.zeroValue60
 t131:=Tryz.underlying299
 a131:=Tryz.isAgg299
 z131:=Tryz.sizeOf299
 v131:=Tryz.zeroValue299
 t182:=Tryz.underlying308
 a182:=Tryz.isAgg308
 z182:=Tryz.sizeOf308
 v182:=Tryz.zeroValue308
 t183:=Tryz.underlying309
 a183:=Tryz.isAgg309
 z183:=Tryz.sizeOf309
 v183:=Tryz.zeroValue309
 t218:=Tryz.underlying349
 a218:=Tryz.isAgg349
 z218:=Tryz.sizeOf349
 v218:=Tryz.zeroValue349
 t222:=Tryz.underlying352
 a222:=Tryz.isAgg352
 z222:=Tryz.sizeOf352
 v222:=Tryz.zeroValue352
 t228:=Tryz.underlying380
 a228:=Tryz.isAgg380
 z228:=Tryz.sizeOf380
 v228:=Tryz.zeroValue380
 t229:=Tryz.underlying246
 a229:=Tryz.isAgg246
 z229:=Tryz.sizeOf246
 v229:=Tryz.zeroValue246 }
open Go.Sort Go.RowKit in
theorem Tryz.slices_Sort_string (blk off cap : Nat) (ss : List (List UInt8)) (w : World) (hH : Holds encStr w blk off ss.toArray) (hblk : blk < w.heap.size) (hsz : ss.length < 4611686018427387904) :
    Calls Tryz.prog 122 #[.slice (some ⟨blk,off,none⟩) ss.length cap] w fun e w'=>
      e=.returned (.tuple #[])/\∃ n os,w'=grow (putRow encStr (Sort.ahead w n) blk off (ss.mergeSort fun x y=>decide (x<=y)).toArray) os:=Any.slices_Sort_string Tryz.lays190 blk off cap ss w hH hblk hsz
def Tryz.lays194_ren:Go.Shelf.Ren:=⟨fun|194=>123|n=>n,fun|31=>81|9=>9|3=>3|4=>4|0=>0|n=>n,fun|n=>n⟩
theorem Tryz.lays194:Go.Proofs.Lays.n194 Tryz.prog Tryz.lays194_ren:={
 mixed:=by kernel_rfl
 f194:=Tryz.func123.trans (congrArg some (by kernel_rfl))
 t0:=Tryz.underlying0
 a0:=Tryz.isAgg0
 z0:=Tryz.sizeOf0
 v0:=Tryz.zeroValue0
 t3:=Tryz.underlying3
 a3:=Tryz.isAgg3
 z3:=Tryz.sizeOf3
 v3:=Tryz.zeroValue3
 t4:=Tryz.underlying4
 a4:=Tryz.isAgg4
 z4:=Tryz.sizeOf4
 v4:=Tryz.zeroValue4
 t9:=Tryz.underlying9
 a9:=Tryz.isAgg9
 z9:=Tryz.sizeOf9
 v9:=Tryz.zeroValue9
 t31:=Tryz.underlying81
 a31:=Tryz.isAgg81
 z31:=Tryz.sizeOf81
 v31:=Tryz.zeroValue81 }
open Go.RowKit Go.Lib Go.Sort in
theorem Tryz.slices_Compact_string (blk off cap : Nat) (zs : List (List UInt8)) (w : World) (hH : Holds encStr w blk off zs.toArray) (hsz : zs.length ≤ 9223372036854775807) (hcap : zs.length ≤ cap) :
    Calls Tryz.prog 123 #[.slice (some ⟨blk,off,none⟩) zs.length cap] w fun e w'=>e=.returned (.slice (some ⟨blk,off,none⟩) (Lib.compact zs).length cap)/\∃ q,w'=putRow encStr (Sort.ahead w q) blk off (Lib.compact zs++List.replicate (zs.length - (Lib.compact zs).length) []).toArray:=Any.slices_Compact_string Tryz.lays194 blk off cap zs w hH hsz hcap
open Go.RowKit Go.Lib Go.Sort in
theorem Tryz.slices_Compact_string_empty (a : Option Addr) (cap : Nat) (w : World) :
    Calls Tryz.prog 123 #[.slice a 0 cap] w fun e w'=>e=.returned (.slice a 0 cap)/\w'=w:=Any.slices_Compact_string_empty Tryz.lays194 a cap w
open Go.RowKit Go.Sort in
theorem Tryz.slices_Sort_string_none (p : Option Addr) (cap : Nat) (w : World) :
    Calls Tryz.prog 122 #[.slice p 0 cap] w fun e w'=>e=.returned (.tuple #[])/\w'=w:=Any.slices_Sort_string_none Tryz.lays190 p cap w
end Go.Proofs
