/- Contracts of the library's sorted keys of maps at this translation,laid by the kit's tools. No condition beside those that they name. -/
import Derived.Shelf.SlIter.Nil
import Derived.Shelf.SortM.Plain
import Derived.Shelf.SortM.SortNone
import Derived.Ground.GgzProg
import Derived.Ground.SlgmProg
import Derived.Test.YtmcaneofjlhhmaaGreatDoorProg
namespace Go.Proofs
open Go.RowKit Go.Maps Go.Sort Go.Shelf Tryz
def Tryz.keys78_ren:Go.Shelf.Ren:=⟨fun | 7=>78 | 10=>141 | n=>n,fun | 23=>132 | 26=>9 | 3=>40 | 28=>136 | 0=>0 | 27=>135 | 33=>198 | 4=>4 | n=>n,fun | n=>n⟩
theorem Tryz.keys78 : Go.Proofs.SlLaysZ.n7 prog keys78_ren:={
 mixed:=by kernel_rfl
 f7:=⟨f78.name,by decide,func78.trans (congrArg some (by kernel_rfl))⟩
 f10:=⟨f141.name,by decide,func141.trans (congrArg some (by kernel_rfl))⟩
 t0:=underlying0
 a0:=isAgg0
 z0:=sizeOf0
 v0:=zeroValue0
 t4:=underlying4
 a4:=isAgg4
 z4:=sizeOf4
 v4:=zeroValue4
 t23:=underlying132
 a23:=isAgg132
 z23:=sizeOf132
 v23:=zeroValue132
 t26:=underlying9
 a26:=isAgg9
 z26:=sizeOf9
 v26:=zeroValue9
 t27:=underlying135
 a27:=isAgg135
 z27:=sizeOf135
 v27:=zeroValue135
 t28:=underlying136
 a28:=isAgg136
 z28:=sizeOf136
 v28:=zeroValue136
 t33:=underlying198
 a33:=isAgg198
 z33:=sizeOf198
 v33:=zeroValue198 }
def Tryz.sorted77_ren:Go.Shelf.Ren:=⟨fun | 6=>77 | 8=>140 | 9=>138 | 11=>202 | 13=>201 | 12=>200 | 23=>264 | 24=>265 | 14=>255 | 15=>256 | 16=>257 | 17=>258 | 18=>259 | 19=>260 | 20=>261 | 21=>262 | 22=>263 | 25=>300 | 26=>301 | 27=>302 | 28=>303 | 29=>304 | 30=>305 | 31=>326 | n=>n,fun | 26=>9 | 28=>136 | 24=>44 | 0=>0 | 3=>3 | 37=>217 | 48=>153 | 50=>52 | 4=>4 | 40=>338 | 39=>337 | 45=>342 | 5=>5 | 9=>9 | 51=>390 | 55=>393 | 57=>415 | 58=>277 | 33=>198 | n=>n,fun | n=>n⟩
theorem Tryz.sorted77 : Go.Proofs.SlLaysZ.n6 prog sorted77_ren:={
 mixed:=by kernel_rfl
 f6:=⟨f77.name,by decide,func77.trans (congrArg some (by kernel_rfl))⟩
 f8:=⟨f140.name,by decide,func140.trans (congrArg some (by kernel_rfl))⟩
 f11:=⟨f202.name,by decide,func202.trans (congrArg some (by kernel_rfl))⟩
 t0:=underlying0
 a0:=isAgg0
 z0:=sizeOf0
 v0:=zeroValue0
 t24:=underlying44
 a24:=isAgg44
 z24:=sizeOf44
 v24:=zeroValue44
 t26:=underlying9
 a26:=isAgg9
 z26:=sizeOf9
 v26:=zeroValue9
 t28:=underlying136
 a28:=isAgg136
 z28:=sizeOf136
 v28:=zeroValue136
 i26:=by kernel_rfl }
def Tryz.sort138_ren:Go.Shelf.Ren:=⟨fun | 6=>138 | 8=>201 | 9=>200 | 19=>264 | 20=>265 | 21=>255 | 22=>256 | 23=>257 | 24=>258 | 25=>259 | 26=>260 | 27=>261 | 28=>262 | 29=>263 | 36=>300 | 31=>301 | 32=>302 | 37=>303 | 38=>304 | 39=>305 | 41=>326 | n=>n,fun | 27=>44 | 29=>9 | 3=>3 | 32=>217 | 26=>44 | 0=>0 | 44=>153 | 46=>52 | 4=>4 | 36=>338 | 35=>337 | 41=>342 | 5=>5 | 9=>9 | 53=>390 | 57=>393 | 63=>415 | 64=>277 | n=>n,fun | n=>n⟩
theorem Tryz.sort138 : Go.Proofs.SlLaysM.n6 prog sort138_ren:={
 mixed:=by kernel_rfl
 f6:=⟨f138.name,by decide,func138.trans (congrArg some (by kernel_rfl))⟩
 f8:=func201.trans (congrArg some (by kernel_rfl))
 f9:=⟨f200.name,by decide,func200.trans (congrArg some (by kernel_rfl))⟩
 f19:=func264.trans (congrArg some (by kernel_rfl))
 f20:=func265.trans (congrArg some (by kernel_rfl))
 f21:=⟨f255.name,by decide,func255.trans (congrArg some (by kernel_rfl))⟩
 f22:=⟨f256.name,by decide,func256.trans (congrArg some (by kernel_rfl))⟩
 f23:=⟨f257.name,by decide,func257.trans (congrArg some (by kernel_rfl))⟩
 f24:=⟨f258.name,by decide,func258.trans (congrArg some (by kernel_rfl))⟩
 f25:=⟨f259.name,by decide,func259.trans (congrArg some (by kernel_rfl))⟩
 f26:=⟨f260.name,by decide,func260.trans (congrArg some (by kernel_rfl))⟩
 f27:=⟨f261.name,by decide,func261.trans (congrArg some (by kernel_rfl))⟩
 f28:=⟨f262.name,by decide,func262.trans (congrArg some (by kernel_rfl))⟩
 f29:=⟨f263.name,by decide,func263.trans (congrArg some (by kernel_rfl))⟩
 f31:=func301.trans (congrArg some (by kernel_rfl))
 f32:=func302.trans (congrArg some (by kernel_rfl))
 f36:=⟨f300.name,by decide,func300.trans (congrArg some (by kernel_rfl))⟩
 f37:=⟨f303.name,by decide,func303.trans (congrArg some (by kernel_rfl))⟩
 f38:=⟨f304.name,by decide,func304.trans (congrArg some (by kernel_rfl))⟩
 f39:=⟨f305.name,by decide,func305.trans (congrArg some (by kernel_rfl))⟩
 f41:=⟨f326.name,by decide,func326.trans (congrArg some (by kernel_rfl))⟩
 t0:=underlying0
 a0:=isAgg0
 z0:=sizeOf0
 v0:=zeroValue0
 t3:=underlying3
 a3:=isAgg3
 z3:=sizeOf3
 v3:=zeroValue3
 t4:=underlying4
 a4:=isAgg4
 z4:=sizeOf4
 v4:=zeroValue4
 t5:=underlying5
 a5:=isAgg5
 z5:=sizeOf5
 v5:=zeroValue5
 t9:=underlying9
 a9:=isAgg9
 z9:=sizeOf9
 v9:=zeroValue9
 t26:=underlying44
 a26:=isAgg44
 z26:=sizeOf44
 v26:=zeroValue44
 t27:=underlying44
 a27:=isAgg44
 z27:=sizeOf44
 v27:=zeroValue44
 t29:=underlying9
 a29:=isAgg9
 z29:=sizeOf9
 v29:=zeroValue9
 t32:=underlying217
 a32:=isAgg217
 z32:=sizeOf217
 v32:=zeroValue217
 t35:=underlying337
 a35:=isAgg337
 z35:=sizeOf337
 v35:=zeroValue337
 t36:=underlying338
 a36:=isAgg338
 z36:=sizeOf338
 v36:=zeroValue338
 t41:=underlying342
 a41:=isAgg342
 z41:=sizeOf342
 v41:=zeroValue342
 t44:=underlying153
 a44:=isAgg153
 z44:=sizeOf153
 v44:=zeroValue153
 t46:=underlying52
 a46:=isAgg52
 z46:=sizeOf52
 v46:=zeroValue52
 t53:=underlying390
 a53:=isAgg390
 z53:=sizeOf390
 v53:=zeroValue390
 t57:=underlying393
 a57:=isAgg393
 z57:=sizeOf393
 v57:=zeroValue393
 t63:=underlying415
 a63:=isAgg415
 z63:=sizeOf415
 v63:=zeroValue415
 t64:=underlying277
 a64:=isAgg277
 z64:=sizeOf277
 v64:=zeroValue277 }
theorem Tryz.sorts77(m:Nat):AnyZ.SortsIn prog sorted77_ren Fence.wide m:=
 ⟨fun blk off cap ss W hH hblk hsz => callsIn_wide.2 (AnyM.slices_Sort_string sort138 blk off cap ss W hH hblk hsz),
 fun p cap W => callsIn_wide.2 (AnyM.slices_Sort_string_none sort138 p cap W)⟩
theorem Tryz.maps_Keys_78(mb:Option Nat)(W:World):CallsIn Fence.wide 5 prog 78 #[.map mb] W fun e w'=>e=.returned (.func (.func 141) #[] #[.pointer (some ⟨W.heap.size,0,none⟩)])/\w'=W.alloc (.cells #[.map mb] 132):=
 AnyZ.keys_in keys78 Fence.wide 5 trivial rfl mb W
set_option maxHeartbeats 1000000 in
theorem Tryz.slices_Sorted_keys_77_78 {H : Type} (b nn : Nat) (D0 : DataW H) (R : Value → Option (DataW H × List MemPlace)) (w : World) (hown : w.ownsMap prog 9 R b nn D0) (hmax : Maps.size D0 ≤ maxLen) (hbytes : Maps.size D0 * 16 ≤ 140737488355328) :
 CallsIn Fence.wide 5 prog 77 #[.func (.func 141) #[] #[.pointer (some ⟨w.heap.size,0,none⟩)]] (w.alloc (.cells #[.map (some b)] 132)) fun e w'=>∃ (v:Value) (ss:List (List UInt8)),e=.returned v/\ss.Perm (strKeys D0) /\
 w'.ownsRow (w.alloc (.cells #[.map (some b)] 132)).heap.size 9 1 v ss.length ((ss.mergeSort (fun x y=>decide (x<=y))).map encStr)/\(v=.slice none 0 0↔ss=[])/\Below (w.alloc (.cells #[.map (some b)] 132)).heap.size (w.alloc (.cells #[.map (some b)] 132)) w':=by
 have hbl:=hown.lt
 have hseq:SeqGives Fence.wide 2 prog 141 #[.pointer (some ⟨w.heap.size,0,none⟩)] encStr (fun ss=>ss.Perm (strKeys D0)) (Maps.size D0) (w.alloc (.cells #[.map (some b)] 132)):=
 AnyZ.keys_gives (ρ:=keys78_ren) { keys78 with } Fence.wide _ trivial rfl (by omega) w.heap.size b nn D0 _ (by simp) (by simp) (by
 obtain ⟨es,clock,hb,Ft,hs,hD⟩:=hown
 exact ⟨es,clock,(Below.heap_alloc _ _ b hbl).trans hb,Ft,hs,hD⟩)
 exact AnyZ.sorted_in sorted77 Fence.wide 5 trivial trivial trivial trivial rfl (by omega) (sorts77 _) (enters_of func138 (by kernel_rfl) rfl) 141 #[.pointer (some ⟨w.heap.size,0,none⟩)] trivial (enters_of func141 (by kernel_rfl) rfl) _ _ hmax hbytes _ hseq
end Go.Proofs
