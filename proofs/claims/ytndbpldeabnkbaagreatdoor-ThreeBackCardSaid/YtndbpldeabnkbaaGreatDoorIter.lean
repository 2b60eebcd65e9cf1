/- Contracts of the library's sorted keys of maps at this translation, laid by the kit's tools. No condition beside those that they name. -/
import Derived.Shelf.SlIter.Nil
import Derived.Shelf.SortM.Plain
import Derived.Shelf.SortM.SortNone
import Derived.Ground.GgzProg
import Derived.Ground.SlgmProg
import Derived.Test.YtndbpldeabnkbaaGreatDoorProg
namespace Go.Proofs
open Go.RowKit Go.Maps Go.Sort Go.Shelf
def Tryz.keys74_ren:Go.Shelf.Ren:=⟨fun|7=>74|10=>125|n=>n,fun|23=>129|26=>9|3=>56|28=>133|0=>0|27=>132|33=>195|4=>4|n=>n,fun|n=>n⟩
theorem Tryz.keys74:Go.Proofs.SlLaysZ.n7 Tryz.prog Tryz.keys74_ren:={
 mixed:=by kernel_rfl
 f7:=⟨Tryz.f74.name,by decide,Tryz.func74.trans (congrArg some (by kernel_rfl))⟩
 f10:=⟨Tryz.f125.name,by decide,Tryz.func125.trans (congrArg some (by kernel_rfl))⟩
 t0:=Tryz.underlying0
 a0:=Tryz.isAgg0
 z0:=Tryz.sizeOf0
 v0:=Tryz.zeroValue0
 t4:=Tryz.underlying4
 a4:=Tryz.isAgg4
 z4:=Tryz.sizeOf4
 v4:=Tryz.zeroValue4
 t23:=Tryz.underlying129
 a23:=Tryz.isAgg129
 z23:=Tryz.sizeOf129
 v23:=Tryz.zeroValue129
 t26:=Tryz.underlying9
 a26:=Tryz.isAgg9
 z26:=Tryz.sizeOf9
 v26:=Tryz.zeroValue9
 t27:=Tryz.underlying132
 a27:=Tryz.isAgg132
 z27:=Tryz.sizeOf132
 v27:=Tryz.zeroValue132
 t28:=Tryz.underlying133
 a28:=Tryz.isAgg133
 z28:=Tryz.sizeOf133
 v28:=Tryz.zeroValue133
 t33:=Tryz.underlying195
 a33:=Tryz.isAgg195
 z33:=Tryz.sizeOf195
 v33:=Tryz.zeroValue195 }
def Tryz.sorted73_ren:Go.Shelf.Ren:=⟨fun|6=>73|8=>124|9=>122|11=>164|13=>159|12=>163|23=>198|24=>199|14=>200|15=>201|16=>202|17=>203|18=>204|19=>205|20=>206|21=>207|22=>208|25=>236|26=>237|27=>238|28=>239|29=>240|30=>241|31=>261|n=>n,fun|26=>9|28=>133|24=>81|0=>0|3=>3|37=>172|48=>124|50=>60|4=>4|40=>309|39=>308|45=>299|5=>5|9=>9|51=>349|55=>352|57=>380|58=>246|33=>195|n=>n,fun|n=>n⟩
theorem Tryz.sorted73:Go.Proofs.SlLaysZ.n6 Tryz.prog Tryz.sorted73_ren:={
 mixed:=by kernel_rfl
 f6:=⟨Tryz.f73.name,by decide,Tryz.func73.trans (congrArg some (by kernel_rfl))⟩
 f8:=⟨Tryz.f124.name,by decide,Tryz.func124.trans (congrArg some (by kernel_rfl))⟩
 f11:=⟨Tryz.f164.name,by decide,Tryz.func164.trans (congrArg some (by kernel_rfl))⟩
 t0:=Tryz.underlying0
 a0:=Tryz.isAgg0
 z0:=Tryz.sizeOf0
 v0:=Tryz.zeroValue0
 t24:=Tryz.underlying81
 a24:=Tryz.isAgg81
 z24:=Tryz.sizeOf81
 v24:=Tryz.zeroValue81
 t26:=Tryz.underlying9
 a26:=Tryz.isAgg9
 z26:=Tryz.sizeOf9
 v26:=Tryz.zeroValue9
 t28:=Tryz.underlying133
 a28:=Tryz.isAgg133
 z28:=Tryz.sizeOf133
 v28:=Tryz.zeroValue133
 i26:=by kernel_rfl }
def Tryz.sort122_ren:Go.Shelf.Ren:=⟨fun|6=>122|8=>159|9=>163|19=>198|20=>199|21=>200|22=>201|23=>202|24=>203|25=>204|26=>205|27=>206|28=>207|29=>208|36=>236|31=>237|32=>238|37=>239|38=>240|39=>241|41=>261|n=>n,fun|27=>81|29=>9|3=>3|32=>172|26=>81|0=>0|44=>124|46=>60|4=>4|36=>309|35=>308|41=>299|5=>5|9=>9|53=>349|57=>352|63=>380|64=>246|n=>n,fun|n=>n⟩
theorem Tryz.sort122:Go.Proofs.SlLaysM.n6 Tryz.prog Tryz.sort122_ren:={
 mixed:=by kernel_rfl
 f6:=⟨Tryz.f122.name,by decide,Tryz.func122.trans (congrArg some (by kernel_rfl))⟩
 f8:=Tryz.func159.trans (congrArg some (by kernel_rfl))
 f9:=⟨Tryz.f163.name,by decide,Tryz.func163.trans (congrArg some (by kernel_rfl))⟩
 f19:=Tryz.func198.trans (congrArg some (by kernel_rfl))
 f20:=Tryz.func199.trans (congrArg some (by kernel_rfl))
 f21:=⟨Tryz.f200.name,by decide,Tryz.func200.trans (congrArg some (by kernel_rfl))⟩
 f22:=⟨Tryz.f201.name,by decide,Tryz.func201.trans (congrArg some (by kernel_rfl))⟩
 f23:=⟨Tryz.f202.name,by decide,Tryz.func202.trans (congrArg some (by kernel_rfl))⟩
 f24:=⟨Tryz.f203.name,by decide,Tryz.func203.trans (congrArg some (by kernel_rfl))⟩
 f25:=⟨Tryz.f204.name,by decide,Tryz.func204.trans (congrArg some (by kernel_rfl))⟩
 f26:=⟨Tryz.f205.name,by decide,Tryz.func205.trans (congrArg some (by kernel_rfl))⟩
 f27:=⟨Tryz.f206.name,by decide,Tryz.func206.trans (congrArg some (by kernel_rfl))⟩
 f28:=⟨Tryz.f207.name,by decide,Tryz.func207.trans (congrArg some (by kernel_rfl))⟩
 f29:=⟨Tryz.f208.name,by decide,Tryz.func208.trans (congrArg some (by kernel_rfl))⟩
 f31:=Tryz.func237.trans (congrArg some (by kernel_rfl))
 f32:=Tryz.func238.trans (congrArg some (by kernel_rfl))
 f36:=⟨Tryz.f236.name,by decide,Tryz.func236.trans (congrArg some (by kernel_rfl))⟩
 f37:=⟨Tryz.f239.name,by decide,Tryz.func239.trans (congrArg some (by kernel_rfl))⟩
 f38:=⟨Tryz.f240.name,by decide,Tryz.func240.trans (congrArg some (by kernel_rfl))⟩
 f39:=⟨Tryz.f241.name,by decide,Tryz.func241.trans (congrArg some (by kernel_rfl))⟩
 f41:=⟨Tryz.f261.name,by decide,Tryz.func261.trans (congrArg some (by kernel_rfl))⟩
 t0:=Tryz.underlying0
 a0:=Tryz.isAgg0
 z0:=Tryz.sizeOf0
 v0:=Tryz.zeroValue0
 t3:=Tryz.underlying3
 a3:=Tryz.isAgg3
 z3:=Tryz.sizeOf3
 v3:=Tryz.zeroValue3
 t4:=Tryz.underlying4
 a4:=Tryz.isAgg4
 z4:=Tryz.sizeOf4
 v4:=Tryz.zeroValue4
 t5:=Tryz.underlying5
 a5:=Tryz.isAgg5
 z5:=Tryz.sizeOf5
 v5:=Tryz.zeroValue5
 t9:=Tryz.underlying9
 a9:=Tryz.isAgg9
 z9:=Tryz.sizeOf9
 v9:=Tryz.zeroValue9
 t26:=Tryz.underlying81
 a26:=Tryz.isAgg81
 z26:=Tryz.sizeOf81
 v26:=Tryz.zeroValue81
 t27:=Tryz.underlying81
 a27:=Tryz.isAgg81
 z27:=Tryz.sizeOf81
 v27:=Tryz.zeroValue81
 t29:=Tryz.underlying9
 a29:=Tryz.isAgg9
 z29:=Tryz.sizeOf9
 v29:=Tryz.zeroValue9
 t32:=Tryz.underlying172
 a32:=Tryz.isAgg172
 z32:=Tryz.sizeOf172
 v32:=Tryz.zeroValue172
 t35:=Tryz.underlying308
 a35:=Tryz.isAgg308
 z35:=Tryz.sizeOf308
 v35:=Tryz.zeroValue308
 t36:=Tryz.underlying309
 a36:=Tryz.isAgg309
 z36:=Tryz.sizeOf309
 v36:=Tryz.zeroValue309
 t41:=Tryz.underlying299
 a41:=Tryz.isAgg299
 z41:=Tryz.sizeOf299
 v41:=Tryz.zeroValue299
 t44:=Tryz.underlying124
 a44:=Tryz.isAgg124
 z44:=Tryz.sizeOf124
 v44:=Tryz.zeroValue124
 t46:=Tryz.underlying60
 a46:=Tryz.isAgg60
 z46:=Tryz.sizeOf60
 v46:=Tryz.zeroValue60
 t53:=Tryz.underlying349
 a53:=Tryz.isAgg349
 z53:=Tryz.sizeOf349
 v53:=Tryz.zeroValue349
 t57:=Tryz.underlying352
 a57:=Tryz.isAgg352
 z57:=Tryz.sizeOf352
 v57:=Tryz.zeroValue352
 t63:=Tryz.underlying380
 a63:=Tryz.isAgg380
 z63:=Tryz.sizeOf380
 v63:=Tryz.zeroValue380
 t64:=Tryz.underlying246
 a64:=Tryz.isAgg246
 z64:=Tryz.sizeOf246
 v64:=Tryz.zeroValue246 }
theorem Tryz.sorts73(m:Nat):AnyZ.SortsIn Tryz.prog Tryz.sorted73_ren Fence.wide m:=
  ⟨fun blk off cap ss W hH hblk hsz => callsIn_wide.2 (AnyM.slices_Sort_string Tryz.sort122 blk off cap ss W hH hblk hsz),
   fun p cap W => callsIn_wide.2 (AnyM.slices_Sort_string_none Tryz.sort122 p cap W)⟩
theorem Tryz.maps_Keys_74(mb:Option Nat)(W:World):CallsIn Fence.wide 5 Tryz.prog 74 #[.map mb] W fun e w'=>e=.returned (.func (.func 125) #[] #[.pointer (some ⟨W.heap.size,0,none⟩)])/\w'=W.alloc (.cells #[.map mb] 129):=
  AnyZ.keys_in Tryz.keys74 Fence.wide 5 trivial rfl mb W
set_option maxHeartbeats 1000000 in
theorem Tryz.slices_Sorted_keys_73_74 {H : Type} (b nn : Nat) (D0 : DataW H) (R : Value → Option (DataW H × List MemPlace)) (w : World) (hown : w.ownsMap Tryz.prog 9 R b nn D0) (hmax : Maps.size D0 ≤ maxLen) (hbytes : Maps.size D0 * 16 ≤ 140737488355328) :
    CallsIn Fence.wide 5 Tryz.prog 73 #[.func (.func 125) #[] #[.pointer (some ⟨w.heap.size,0,none⟩)]] (w.alloc (.cells #[.map (some b)] 129)) fun e w'=>∃ (v:Value) (ss:List (List UInt8)),e=.returned v/\ss.Perm (strKeys D0) /\
      w'.ownsRow (w.alloc (.cells #[.map (some b)] 129)).heap.size 9 1 v ss.length ((ss.mergeSort (fun x y=>decide (x<=y))).map encStr)/\(v=.slice none 0 0↔ss=[])/\Below (w.alloc (.cells #[.map (some b)] 129)).heap.size (w.alloc (.cells #[.map (some b)] 129)) w':=by
  have hbl:=hown.lt
  have hseq:SeqGives Fence.wide 2 Tryz.prog 125 #[.pointer (some ⟨w.heap.size,0,none⟩)] encStr (fun ss=>ss.Perm (strKeys D0)) (Maps.size D0) (w.alloc (.cells #[.map (some b)] 129)):=
    AnyZ.keys_gives (ρ := Tryz.keys74_ren) { Tryz.keys74 with } Fence.wide _ trivial rfl (by omega) w.heap.size b nn D0 _ (by simp) (by simp) (by
      obtain ⟨es, clock, hb, Ft, hs, hD⟩ := hown
      exact ⟨es, clock, (Below.heap_alloc _ _ b hbl).trans hb, Ft, hs, hD⟩)
  exact AnyZ.sorted_in Tryz.sorted73 Fence.wide 5 trivial trivial trivial trivial rfl (by omega) (Tryz.sorts73 _) (enters_of Tryz.func122 (by kernel_rfl) rfl) 125 #[.pointer (some ⟨w.heap.size,0,none⟩)] trivial (enters_of Tryz.func125 (by kernel_rfl) rfl) _ _ hmax hbytes _ hseq
end Go.Proofs
