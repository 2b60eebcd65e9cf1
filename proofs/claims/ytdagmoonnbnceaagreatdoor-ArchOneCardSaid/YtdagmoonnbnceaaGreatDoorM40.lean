/- Parts of the proof of ArchOne: Hd1. -/
import Derived.Test.YtdagmoonnbnceaaGreatDoorM13
import Derived.Test.YtdagmoonnbnceaaGreatDoorM38
set_option linter.unusedVariables false
set_option linter.unusedSectionVars false
set_option linter.unusedSimpArgs false
set_option maxHeartbeats 8000000
set_option maxRecDepth 100000
namespace Go.Proofs.YtdagmoonnbnceaaGreatDoor
open Go.RowKit Go.Fk
def headL(sz:Nat)(p:Bool)(bu d q c n:Nat):List UInt8:=markB++[(if p then 1 else 0),UInt8.ofNat bu,UInt8.ofNat d,UInt8.ofNat q]++fixB 2 c++fixB 2 sz++fixB 4 n
theorem headL_len(sz:Nat)(p:Bool)(bu d q c n:Nat):(headL sz p bu d q c n).length=17:=by
 unfold headL
 simp [fixB_len,markB]
theorem all5_any(W:World)(p0 p1 p2 p3 p4:Hd)(l0 l1 l2 l3 l4:List UInt8)(h0:See W eB p0.v l0)(h1:See W eB p1.v l1)(h2:See W eB p2.v l2)(h3:See W eB p3.v l3)(h4:See W eB p4.v l4)(hn:l0.length+l1.length+l2.length+l3.length+l4.length<=1000000) :
  Calls Tryz.prog 26 #[.slice (some ⟨W.heap.size,0,none⟩) 5 5] (W.alloc (.cells #[p0.v,p1.v,p2.v,p3.v,p4.v] 27)) fun e w'=>∃ v,e=.returned v/\Ow w' W.heap.size eB v (l0++l1++l2++l3++l4)/\Fr W w':=by
 have h5 := lit_sees2 W #[p0.v, p1.v, p2.v, p3.v, p4.v] 27 [p0, p1, p2, p3, p4] [l0, l1, l2, l3, l4] 5 rfl rfl rfl (by simp) (fun i ha hb => by
  match i, ha with
  | 0, _ => exact h0
  | 1, _ => exact h1
  | 2, _ => exact h2
  | 3, _ => exact h3
  | 4, _ => exact h4)
 refine(All_any _ _ _ _ h5 (by simp;omega)).mono ?_
 rintro e w' ⟨v,rfl,ho,hf⟩
 exact⟨v,rfl,by simpa using ho.rebase (b:=W.heap.size) (by simp),((Fr.refl W).alloc _).trans hf⟩
theorem u8v(n:Nat)(h:n<256):Fk.u8 (UInt8.ofNat n)=.int .u8 (n:Int):=by
 show Value.int .u8 ((UInt8.ofNat n).toNat:Int)=_
 rw [UInt8.toNat_ofNat',Nat.mod_eq_of_lt h]
theorem head_all(W:World)(p0 p2 p3 p4:Hd)(l0 l2 l3 l4:List UInt8)(x:UInt8)(bu d q:Nat)(hb:bu<256)(hd:d<256)(hq:q<256)(h0:See W eB p0.v l0)(h2:See W eB p2.v l2)(h3:See W eB p3.v l3)(h4:See W eB p4.v l4)(hn:l0.length+4+l2.length+l3.length+l4.length<=1000000) :
  Calls Tryz.prog 26 #[.slice (some ⟨W.heap.size+1,0,none⟩) 5 5] ((W.alloc (.cells #[Fk.u8 x,.int .u8 (bu:Int),.int .u8 (d:Int),.int .u8 (q:Int)] 5)).alloc (.cells #[p0.v,.slice (some ⟨W.heap.size,0,none⟩) 4 4,p2.v,p3.v,p4.v] 27)) fun e w'=>∃ v,e=.returned v/\Ow w' W.heap.size eB v (l0++[x,UInt8.ofNat bu,UInt8.ofNat d,UInt8.ofNat q]++l2++l3++l4)/\Fr W w':=by
 have hf:Fr W (W.alloc (.cells #[Fk.u8 x,.int .u8 (bu:Int),.int .u8 (d:Int),.int .u8 (q:Int)] 5)):=(Fr.refl W).alloc _
 have hs:(W.alloc (.cells #[Fk.u8 x,.int .u8 (bu:Int),.int .u8 (d:Int),.int .u8 (q:Int)] 5)).heap.size=W.heap.size+1:=by simp
 have h1:See (W.alloc (.cells #[Fk.u8 x,.int .u8 (bu:Int),.int .u8 (d:Int),.int .u8 (q:Int)] 5)) eB (Hd.v ⟨some ⟨W.heap.size,0,none⟩,4,4⟩) [x,UInt8.ofNat bu,UInt8.ofNat d,UInt8.ofNat q]:=
  see_new eB W [x, UInt8.ofNat bu, UInt8.ofNat d, UInt8.ofNat q] #[Fk.u8 x, .int .u8 (bu : Int), .int .u8 (d : Int), .int .u8 (q : Int)] 5 4 rfl (by
   show [Fk.u8 x, .int .u8 (bu : Int), .int .u8 (d : Int), .int .u8 (q : Int)] = [Fk.u8 x, Fk.u8 (UInt8.ofNat bu), Fk.u8 (UInt8.ofNat d), Fk.u8 (UInt8.ofNat q)]
   rw [u8v bu hb, u8v d hd, u8v q hq]) (by show 4 ≤ maxLen; unfold maxLen; omega)
 have:=all5_any _ p0 ⟨some ⟨W.heap.size,0,none⟩,4,4⟩ p2 p3 p4 l0 _ l2 l3 l4 (h0.fr hf) h1 (h2.fr hf) (h3.fr hf) (h4.fr hf) (by simp;omega)
 rw [hs]at this
 refine this.mono ?_
 rintro e w' ⟨v,rfl,ho,hf2⟩
 exact⟨v,rfl,ho.rebase (by omega),hf.trans hf2⟩
abbrev hdB(sz:Nat)(p:Bool)(bu d q c n:Nat)(xv:Value:=.int .u8 0):Obj:=.cells #[N sz,.bool p,N bu,N d,N q,N c,N n,xv] 69 (0,0)
theorem HBytes_any(g sz bu d q c n:Nat)(p:Bool){xv:Value}(w:World)(hg:w.heap[g]? = some (hdB sz p bu d q c n xv))(ht:Crc w)(h1:sz<=32768)(h2:bu<256)(h3:d<256)(h4:q<256)(h5:c<=4096)(h6:n<=1000000) :
  Calls Tryz.prog 63 #[.pointer (some ⟨g,0,none⟩)] w fun e w'=>∃ v,e=.returned v/\Ow w' w.heap.size eB v (putB (headL sz p bu d q c n))/\Fr w w':=by
 have hc2:c<256 ^ 2:=by rw [show(256:Nat) ^ 2=65536 from by decide];omega
 have hs2:sz<256 ^ 2:=by rw [show(256:Nat) ^ 2=65536 from by decide];omega
 have hn4:n<256 ^ 4:=by rw [show(256:Nat) ^ 4=4294967296 from by decide];omega
 have HFc:=hid (Fixed_any c 2 (by omega) (by omega) hc2 (by omega))
 have HFs:=hid (Fixed_any sz 2 (by omega) (by omega) hs2 (by omega))
 have HFn:=hid (Fixed_any n 4 (by omega) (by omega) hn4 (by omega))
 have lc:=fixB_len 2 c
 have ls:=fixB_len 2 sz
 have ln:=fixB_len 4 n
 have HM:=hid (Mark_any)
 have hlen:=headL_len sz p bu d q c n
 have HP:=hid (fun v W (h:Fr w W) (h2:See W eB v (headL sz p bu d q c n))=>Put_any v _ W h2 (by omega) (ht.fr h))
 have HH:=hid (fun W p0 p2 p3 p4 h0 h2' h3' h4'=>head_all W p0 p2 p3 p4 markB (fixB 2 c) (fixB 2 sz) (fixB 4 n) (if p then 1 else 0) bu d q h2 h3 h4 h0 h2' h3' h4' (by rw [lc,ls,ln];simp [markB]))
 have HE:Hid (headL sz p bu d q c n=markB++[(if p then 1 else 0),UInt8.ofNat bu,UInt8.ofNat d,UInt8.ofNat q]++fixB 2 c++fixB 2 sz++fixB 4 n):=rfl
 rw [<- HE.out]at HH
 have hm5:markB.length=5:=rfl
 have Hlc:=hid lc
 have Hls:=hid ls
 have Hln:=hid ln
 have Hm:=hid hm5
 clear hc2 hs2 hn4 ht HE hlen lc ls ln hm5
 generalize headL sz p bu d q c n=HL at *
 generalize putB HL=T at *
 generalize fixB 2 c=FC at *
 generalize fixB 2 sz=Fq at *
 generalize fixB 4 n=FN at *
 generalize markB=MK at *
 have hwc:IntKind.u64.wrap (c:Int)=(c:Int):=IntWalk.u64_in _ (by omega)
 have hws:IntKind.u64.wrap (sz:Int)=(sz:Int):=IntWalk.u64_in _ (by omega)
 have hwn:IntKind.u64.wrap (n:Int)=(n:Int):=IntWalk.u64_in _ (by omega)
 have hb1:IntKind.u8.wrap (bu:Int)=(bu:Int):=IntWalk.u8_in _ (by omega)
 have hb2:IntKind.u8.wrap (d:Int)=(d:Int):=IntWalk.u8_in _ (by omega)
 have hb3:IntKind.u8.wrap (q:Int)=(q:Int):=IntWalk.u8_in _ (by omega)
 go_enter Tryz.func63, Tryz.ntmps63
 go_wp2_with fail
 refine(HM.out _).mono ?_
 rintro e w1 ⟨v1,rfl,hM1,hf1⟩
 obtain⟨p1,z1,rfl⟩:=hM1.shape'
 have hg1:=hf1.heap hg
 have x1:=cellx hg1 1 rfl
 have x5:=cellx hg1 5 rfl
 go_upto_if 20 with fail
 go_cut [5]from 16 to 21 (fun bv wx=>bv=Fk.u8 (if p then 1 else 0)/\wx=w1)
 case first=>
  cases p with
  | true=>
   go_wp2_with fail
   go_meet
   exact⟨rfl,rfl⟩
  | false=>
   go_wp2_with fail
   go_meet
   exact⟨rfl,rfl⟩
 case rest=>
  obtain⟨rfl,rfl⟩:=hcut
  generalize hpx:(if p=true then(1:UInt8)else 0)=px at *
  clear hpx x1
  go_wp2_with fail
  refine(HFc.out _).mono ?_
  rintro e w2 ⟨v2,rfl,hC2,hf2⟩
  have hg2:=hf2.heap hg1
  have hM2:=hM1.fr hf2
  have hf02:=hf1.trans hf2
  have x0:=cellx hg2 0 rfl
  obtain⟨p2,z2,rfl⟩:=hC2.shape'
  clear hM1 hg1 x5 hf1 hf2
  go_wp2_with fail
  refine(HFs.out _).mono ?_
  rintro e w3 ⟨v3,rfl,hS3,hf3⟩
  have hg3:=hf3.heap hg2
  have hM3:=hM2.fr hf3
  have hC3:=hC2.fr hf3
  have hf03:=hf02.trans hf3
  have x6:=cellx hg3 6 rfl
  obtain⟨p3,z3,rfl⟩:=hS3.shape'
  clear hM2 hC2 hg2 x0 hf02 hf3
  go_wp2_with fail
  refine(HFn.out _).mono ?_
  rintro e w4 ⟨v4,rfl,hN4,hf4⟩
  have hg4:=hf4.heap hg3
  have hM4:=hM3.fr hf4
  have hC4:=hC3.fr hf4
  have hS4:=hS3.fr hf4
  have hf04:=hf03.trans hf4
  have y2:=cellx hg4 2 rfl
  have y3:=cellx hg4 3 rfl
  have y4:=cellx hg4 4 rfl
  obtain⟨p4,z4,rfl⟩:=hN4.shape'
  have HA:=hid (HH.out w4.drew ⟨p1,MK.length,z1⟩ ⟨p2,FC.length,z2⟩ ⟨p3,Fq.length,z3⟩ ⟨p4,FN.length,z4⟩ hM4.see.drew hC4.see.drew hS4.see.drew hN4.see.drew)
  clear HH hM3 hC3 hS3 hg3 x6 hf03 hf4
  go_upto_region 8 with fail
  go_region_held3 (fun w' => w'.cell? ⟨g, 2, none⟩ = some (N bu) ∧ w'.cell? ⟨g, 3, none⟩ = some (N d) ∧ w'.cell? ⟨g, 4, none⟩ = some (N q))
   (first | go_keep)
   ((first
    | (go_at_call 26; refine HA.out.mono ?_; rintro e w5 ⟨v5, rfl, hA5, hf5⟩; have u2 := hf5.cell y2; have u3 := hf5.cell y3; have u4 := hf5.cell y4)
    | (go_at_call 31; refine (HP.out _ _ (hf04.trans ((Fr.refl w4).drew.trans hf5)) hA5.see).mono ?_; rintro e w6 ⟨v6, rfl, hP6, hf6⟩; have t2 := hf6.cell u2; have t3 := hf6.cell u3; have t4 := hf6.cell u4)))
  have hf05:Fr w w5:=hf04.trans ((Fr.refl w4).drew.trans hf5)
  have HR:=hid (hP6.rebase hf05.size)
  obtain⟨p6,z6,rfl⟩:=hP6.shape'
  clear hP6 t2 t3 t4 u2 u3 u4 y2 y3 y4 hA5 hM4 hC4 hS4 hN4 hg4
  go_wp2_with fail
  go_ret
  exact⟨_,rfl,HR.out,hf05.trans hf6⟩
end Go.Proofs.YtdagmoonnbnceaaGreatDoor
