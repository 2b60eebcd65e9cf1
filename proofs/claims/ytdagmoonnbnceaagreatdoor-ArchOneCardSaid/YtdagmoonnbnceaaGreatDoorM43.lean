/- Parts of the proof of ArchOne: Pb Pc On1 Pj Pd On2 On3. -/
import Derived.Test.YtdagmoonnbnceaaGreatDoorM38
import Derived.Test.YtdagmoonnbnceaaGreatDoorM42
import Derived.Test.YtdagmoonnbnceaaGreatDoorM39
import Derived.Test.YtdagmoonnbnceaaGreatDoorM13
import Derived.Test.YtdagmoonnbnceaaGreatDoorM30
import Derived.Test.YtdagmoonnbnceaaGreatDoorM32
import Derived.Test.YtdagmoonnbnceaaGreatDoorM07
import Derived.Test.YtdagmoonnbnceaaGreatDoorM22
import Derived.Test.YtdagmoonnbnceaaGreatDoorM01
set_option linter.unusedVariables false
set_option linter.unusedSectionVars false
set_option linter.unusedSimpArgs false
set_option maxHeartbeats 8000000
set_option maxRecDepth 100000
namespace Go.Proofs.YtdagmoonnbnceaaGreatDoor
open Go.RowKit Go.Fk
theorem Mark2_any(w:World):Calls Tryz.prog 25 #[.int .i64 2] w fun e w'=>∃ v,e=.returned (.tuple #[v,.int .i64 0])/\Ow w' w.heap.size eB v (markO 2)/\Fr w w':=by
 have H1:=hid (ow_any 2 1 3)
 rw [show(decide ((1:Int)<=2/\(2:Int)<=3))=true from rfl]at H1
 have hcv:(convert 27 27 (.slice (some ⟨w.heap.size,0,none⟩) 4 4)).run Tryz.prog (w.alloc (.cells #[.int .u8 70,.int .u8 73,.int .u8 82,.int .u8 75] 5))=.ok (.slice (some ⟨w.heap.size,0,none⟩) 4 4) (w.alloc (.cells #[.int .u8 70,.int .u8 73,.int .u8 82,.int .u8 75] 5 (4,5))):=
  Go.Joins.run_convert_bytes_const_at w 27 5 #[.int .u8 70,.int .u8 73,.int .u8 82,.int .u8 75] 4 4 w.heap.size rfl Tryz.underlying27 Tryz.underlying5
 obtain⟨v,w4,hr,own4,hf⟩:=marko_run 2 w
 obtain⟨va,vc,rfl⟩:=own4.shape'
 replace hr:(Builtin.append_ #[27,27] 27 #[.slice (some ⟨w.heap.size,0,none⟩) 4 4,.slice (some ⟨w.heap.size+1,0,none⟩) 1 1]).run Tryz.prog ((w.alloc (.cells #[.int .u8 70,.int .u8 73,.int .u8 82,.int .u8 75] 5 (4,5))).alloc (.cells #[.int .u8 2] 5))=.ok (.slice va (markO 2).length vc) w4:=hr
 go_enter Tryz.func25, Tryz.ntmps25
 go_wp2_with fail
 refine(H1.out _).mono ?_
 rintro e w1 ⟨rfl,rfl⟩
 go_wp2_with (at_builtin;refine Lib.wpList_append_run _ rfl (.tmp 8) (.tmp 11) 27 27 rfl _ _ rfl rfl _ _ hr ?_)
 exact bodyPost_ret (v:=.tuple #[.slice va (markO 2).length vc,.int .i64 0]) (by simp [results,Tryz.results25,go_sem, *]) rfl ⟨_,rfl,own4,hf⟩
theorem OPack_no(o:Opt)(ho:opt1g o=false)(v:Value)(l:List Rec)(w:World)(hs:See w eR v l) :
  Calls Tryz.prog 14 #[optV o,v] w fun e w'=>e=.returned (.tuple #[.slice none 0 0,.int .i64 9])/\Fr w w':=by
 have HC:=hid (fun W=>OCheck1_gen o W)
 rw [if_neg (by rw [ho];simp)]at HC
 obtain⟨a0,cap,rfl,_⟩:=hs.shape
 clear hs ho
 go_enter Tryz.func14, Tryz.ntmps14
 go_wp2_with fail
 refine(HC.out _).mono ?_
 rintro e w1 ⟨rfl,hf1⟩
 have hf01:Fr w w1:=((Fr.refl w).alloc _).trans hf1
 go_wp2_with fail
 go_ret2
 exact⟨rfl,hf01⟩
theorem T2Pack_no(o:Opt)(ho:opt2g o=false)(v:Value)(l:List Rec)(w:World)(hs:See w eR v l) :
  Calls Tryz.prog 15 #[optV o,v] w fun e w'=>e=.returned (.tuple #[.slice none 0 0,.int .i64 9])/\Fr w w':=by
 have HC:=hid (fun W=>OCheck2_gen o W)
 rw [if_neg (by rw [ho];simp)]at HC
 obtain⟨a0,cap,rfl,_⟩:=hs.shape
 clear hs ho
 go_enter Tryz.func15, Tryz.ntmps15
 go_wp2_with fail
 refine(HC.out _).mono ?_
 rintro e w1 ⟨rfl,hf1⟩
 have hf01:Fr w w1:=((Fr.refl w).alloc _).trans hf1
 go_wp2_with fail
 go_ret2
 exact⟨rfl,hf01⟩
theorem all4_any(W:World)(p0 p1 p2 p3:Hd)(l0 l1 l2 l3:List UInt8)(h0:See W eB p0.v l0)(h1:See W eB p1.v l1)(h2:See W eB p2.v l2)(h3:See W eB p3.v l3)(hn:l0.length+l1.length+l2.length+l3.length<=1000000) :
  Calls Tryz.prog 26 #[.slice (some ⟨W.heap.size,0,none⟩) 4 4] (W.alloc (.cells #[p0.v,p1.v,p2.v,p3.v] 27)) fun e w'=>∃ v,e=.returned v/\Ow w' W.heap.size eB v (l0++l1++l2++l3)/\Fr W w':=by
 have h5 := lit_sees2 W #[p0.v, p1.v, p2.v, p3.v] 27 [p0, p1, p2, p3] [l0, l1, l2, l3] 4 rfl rfl rfl (by simp) (fun i ha hb => by
  match i, ha with
  | 0, _ => exact h0
  | 1, _ => exact h1
  | 2, _ => exact h2
  | 3, _ => exact h3)
 refine(All_any _ _ _ _ h5 (by simp;omega)).mono ?_
 rintro e w' ⟨v,rfl,ho,hf⟩
 exact⟨v,rfl,by simpa using ho.rebase (b:=W.heap.size) (by simp),((Fr.refl W).alloc _).trans hf⟩
def twoH(sz:Nat)(p:Bool)(bu:Nat):List UInt8:=markO 2++numB sz++[(if p then 1 else 0)]++numB bu
theorem THead_any (sz bu : Nat) (p : Bool) (d q c : Int) (h2 : sz ≤ 32768) (h4 : bu ≤ 64) (w : World) (ht : Crc w) :
    Calls Tryz.prog 33 #[optV ⟨(sz:Int),p,(bu:Int),d,q,c⟩] w fun e w'=>∃ v,e=.returned v/\Ow w' w.heap.size eB v (putB (twoH sz p bu))/\Fr w w':=by
  have HMk:=hid Mark2_any
  have HN1:=hid (Num_any sz (by omega))
  have HN2:=hid (Num_any bu (by omega))
  have HPo:=hid (fun v q W (h:Fr w W) (h2:See W eB v q) (h3:q.length<=1000000)=>Put_any v q W h2 h3 (ht.fr h))
  have n1:=numB_le sz (by omega)
  have n2:=numB_le bu (by omega)
  have HMl:Hid ((markO 2).length=5):=rfl
  have HHe:Hid (twoH sz p bu=markO 2++numB sz++[(if p then 1 else 0)]++numB bu):=rfl
  have HHl:Hid ((twoH sz p bu).length<=1000):=by show _<=_;rw [HHe.out];simp only [List.length_append];rw [HMl.out];simp;omega
  generalize twoH sz p bu=H at *
  generalize numB sz=nb1 at *
  generalize numB bu=nb2 at *
  generalize markO 2=MK at *
  have HA4:=hid (fun W p0 p1 p2 p3 h0 h1 h2 h3=>all4_any W p0 p1 p2 p3 MK nb1 [(if p then 1 else 0)] nb2 h0 h1 h2 h3 (by have:=HMl.out;simp;omega))
  rw [<- HHe.out]at HA4
  have w1:IntKind.u64.wrap (sz:Int)=(sz:Int):=IntWalk.u64_in _ (by omega)
  have w2:IntKind.u64.wrap (bu:Int)=(bu:Int):=IntWalk.u64_in _ (by omega)
  have hO0:=heap_new w (.cells #[N sz,.bool p,N bu,.int .i64 d,.int .i64 q,.int .i64 c] 23) w.heap.size rfl
  have hf0:Fr w (w.alloc (.cells #[N sz,.bool p,N bu,.int .i64 d,.int .i64 q,.int .i64 c] 23)):=(Fr.refl w).alloc _
  generalize hW0:w.alloc (.cells #[N sz,.bool p,N bu,.int .i64 d,.int .i64 q,.int .i64 c] 23)=W0 at *
  have a1:=cellx hO0 1 rfl
  obtain⟨fl,hfl⟩:∃ fl:UInt8,fl=(if p then 1 else 0):=⟨_,rfl⟩
  rw [<- hfl]at HA4
  have HFl:=hid (And.intro hfl trivial)
  clear hfl HHe HMl n1 n2 ht
  go_enter Tryz.func33, Tryz.ntmps33
  go_upto_if 7 with fail
  go_cut [3]from 7 to 8 (fun cv wx=>cv=Fk.u8 fl/\W0=wx)
  case first=>
    cases p with
    | true=>
      have e:fl=1:=HFl.out.1
      subst e
      go_wp2_with fail
      go_meet
      exact⟨rfl,rfl⟩
    | false=>
      have e:fl=0:=HFl.out.1
      subst e
      go_wp2_with fail
      go_meet
      exact⟨rfl,rfl⟩
  case rest=>
    obtain⟨rfl,rfl⟩:=hcut
    clear a1 HFl
    go_wp2_with fail
    refine(HMk.out _).mono ?_
    rintro e W4 ⟨mv,rfl,hM4,hf4⟩
    obtain⟨ma,mc,rfl⟩:=hM4.shape'
    have hO4:=hf4.heap hO0
    have hf04:=hf0.trans hf4
    have y0:=cellx hO4 0 rfl
    have y2:=cellx hO4 2 rfl
    have HL:=hid (fun W=>see_new eB W [fl] #[Fk.u8 fl] 5 1 rfl rfl (by show 1<=maxLen;unfold maxLen;omega))
    have HCe:=hid (fun W (h:Fr W4 W)=>And.intro (h.cell y0) (h.cell y2))
    have hal:∀ W:World,Fr W (W.alloc (.cells #[Fk.u8 fl] 5)):=fun W=>(Fr.refl W).alloc _
    have HAl:=hid hal
    have HP:=hid (fun v W (h:Fr w W) (h2:See W eB v H)=>HPo.out v H W h h2 (Nat.le_trans HHl.out (by omega)))
    obtain⟨k0,k2⟩:=HCe.out _ (HAl.out W4)
    clear hO0 hf0 hf4 hO4 HMk HPo HHl hal
    go_upto_region 5 with fail
    go_region_held_law (fun w' => w'.cell? ⟨w.heap.size, 0, none⟩ = some (N sz) ∧ w'.cell? ⟨w.heap.size, 2, none⟩ = some (N bu))
      (first | go_keep)
      (((first
        | (go_at_call_of 27 (Value.int IntKind.u64 (sz : Int)); refine (HN1.out W4.drew).mono ?_; rintro e w5 ⟨v5, rfl, hO5, hf5⟩; obtain ⟨p5, z5, hq5⟩ := hO5.shape'; subst hq5
           have g5 : Fr W4 w5 := (Fr.refl W4).drew.trans hf5
           obtain ⟨u0, u2⟩ := HCe.out w5 g5
           obtain ⟨uu0, uu2⟩ := HCe.out _ (g5.trans (HAl.out w5)))
        | (go_at_call_of 27 (Value.int IntKind.u64 (sz : Int)); refine (HN1.out (W4.drew.alloc (.cells #[Fk.u8 fl] 5))).mono ?_; rintro e w5 ⟨v5, rfl, hO5, hf5⟩; obtain ⟨p5, z5, hq5⟩ := hO5.shape'; subst hq5
           have g5 : Fr W4 w5 := ((Fr.refl W4).drew.trans (HAl.out W4.drew)).trans hf5
           have La5 := (HL.out W4.drew).fr hf5
           obtain ⟨u0, u2⟩ := HCe.out w5 g5)
        | (go_at_call_of 27 (Value.int IntKind.u64 (bu : Int)); refine (HN2.out w5).mono ?_; rintro e w7 ⟨v7, rfl, hO7, hf7⟩; obtain ⟨p7, z7, hq7⟩ := hO7.shape'; subst hq7
           have L7 := La5.fr hf7
           have g7 := g5.trans hf7
           have B7 := hO5.see.fr hf7
           obtain ⟨t0, t2⟩ := HCe.out w7 g7)
        | (go_at_call_of 27 (Value.int IntKind.u64 (bu : Int)); refine (HN2.out (w5.alloc (.cells #[Fk.u8 fl] 5))).mono ?_; rintro e w7 ⟨v7, rfl, hO7, hf7⟩; obtain ⟨p7, z7, hq7⟩ := hO7.shape'; subst hq7
           have L7 := (HL.out w5).fr hf7
           have g7 := (g5.trans (HAl.out w5)).trans hf7
           have B7 := hO5.see.fr ((HAl.out w5).trans hf7)
           obtain ⟨t0, t2⟩ := HCe.out w7 g7)
        | (go_at_call_of 27 (Value.int IntKind.u64 (bu : Int)); refine (HN2.out w5).mono ?_; rintro e w7 ⟨v7, rfl, hO7, hf7⟩; obtain ⟨p7, z7, hq7⟩ := hO7.shape'; subst hq7
           have g7 := g5.trans hf7
           have B7 := hO5.see.fr hf7
           obtain ⟨t0, t2⟩ := HCe.out w7 g7
           obtain ⟨tt0, tt2⟩ := HCe.out _ (g7.trans (HAl.out w7)))
        | (go_at_call 26; refine (HA4.out w7 ⟨ma, MK.length, mc⟩ ⟨p5, nb1.length, z5⟩ ⟨some ⟨W4.heap.size, 0, none⟩, 1, 1⟩ ⟨p7, nb2.length, z7⟩ (hM4.see.fr g7) B7 L7 hO7.see).mono ?_; rintro e w9 ⟨v9, rfl, hO9, hf9⟩; obtain ⟨p9, z9, hq9⟩ := hO9.shape'; subst hq9
           have g9 := g7.trans hf9
           obtain ⟨q0, q2⟩ := HCe.out _ g9)
        | (go_at_call 26; refine (HA4.out w7 ⟨ma, MK.length, mc⟩ ⟨p5, nb1.length, z5⟩ ⟨some ⟨w5.heap.size, 0, none⟩, 1, 1⟩ ⟨p7, nb2.length, z7⟩ (hM4.see.fr g7) B7 L7 hO7.see).mono ?_; rintro e w9 ⟨v9, rfl, hO9, hf9⟩; obtain ⟨p9, z9, hq9⟩ := hO9.shape'; subst hq9
           have g9 := g7.trans hf9
           obtain ⟨q0, q2⟩ := HCe.out _ g9)
        | (go_at_call 26; have hA := HA4.out (w7.alloc (.cells #[Fk.u8 fl] 5)) ⟨ma, MK.length, mc⟩ ⟨p5, nb1.length, z5⟩ ⟨some ⟨w7.heap.size, 0, none⟩, 1, 1⟩ ⟨p7, nb2.length, z7⟩ (hM4.see.fr (g7.trans (HAl.out w7))) (B7.fr (HAl.out w7)) (HL.out w7) (hO7.see.fr (HAl.out w7)); rw [size_alloc] at hA; refine hA.mono ?_; rintro e w9 ⟨v9, rfl, hO9, hf9⟩; obtain ⟨p9, z9, hq9⟩ := hO9.shape'; subst hq9
           have g9 := (g7.trans (HAl.out w7)).trans hf9
           obtain ⟨q0, q2⟩ := HCe.out _ g9)
        | (go_at_call 31; refine (HP.out _ w9 (hf04.trans g9) hO9.see).mono ?_; rintro e wa ⟨va, rfl, hOa, hfa⟩; obtain ⟨pa, za, hqa⟩ := hOa.shape'; subst hqa
           have ga := g9.trans hfa
           have hOa' := hOa.rebase (show w.heap.size ≤ w9.heap.size from Nat.le_trans hf04.size g9.size)
           obtain ⟨r0, r2⟩ := HCe.out _ ga))))
    all_goals go_wp2_with fail
    all_goals go_ret
    all_goals exact⟨_,rfl,hOa',hf04.trans ga⟩
theorem all2x_any(va vb:Value)(la lb:List UInt8)(W:World)(ha:See W eB va la)(hb:See W eB vb lb)(hn:la.length+lb.length<=100000000) :
  Calls Tryz.prog 26 #[.slice (some ⟨W.heap.size,0,none⟩) 2 2] (W.alloc (.cells #[va,vb] 27)) fun e w'=>∃ v,e=.returned v/\Ow w' W.heap.size eB v (la++lb)/\Fr W w':=by
 obtain⟨pa,rfl⟩:=hd_of ha
 obtain⟨pb,rfl⟩:=hd_of hb
 have h2 := lit_sees2 W #[pa.v, pb.v] 27 [pa, pb] [la, lb] 2 rfl rfl rfl (by simp) (fun i h1 h2 => by
  match i, h1 with
  | 0, _ => exact ha
  | 1, _ => exact hb)
 refine(All_big _ _ _ _ h2 (by simp;omega)).mono ?_
 rintro e w' ⟨v,rfl,ho,hf⟩
 exact⟨v,rfl,by simpa using ho.rebase (b:=W.heap.size) (by simp),((Fr.refl W).alloc _).trans hf⟩
def twoP(sz bu:Nat)(p:Bool)(l:List Rec):List UInt8:=putB (twoH sz p bu)++bodyL sz bu p l
theorem T2Pack_any(sz bu:Nat)(p:Bool)(h1:16<=sz)(h2:sz<=32768)(h3:1<=bu)(h4:bu<=64)(v:Value)(l:List Rec)(w:World)(hs:See w eR v l)(hl:SmallL l)(ht:Crc w) :
  Calls Tryz.prog 15 #[optV ⟨(sz:Int),p,(bu:Int),0,0,0⟩,v] w fun e w'=>∃ u,e=.returned (.tuple #[u,.int .i64 0])/\Ow w' w.heap.size eB u (twoP sz bu p l)/\Fr w w':=by
 have ho:opt2 ⟨(sz:Int),p,(bu:Int),0,0,0⟩=true:=(opt2_iff _).2 (by refine⟨?_,?_,?_,?_⟩ <;> simp only <;> omega)
 have HC:=hid (fun W=>OCheck2_any ⟨(sz:Int),p,(bu:Int),0,0,0⟩ ⟨rfl,rfl,rfl⟩ W)
 rw [if_pos ho]at HC
 have HM:=hid (fun W (h:Fr w W)=>BMake_any sz bu p 0 0 0 h1 h2 h3 h4 v l W (hs.fr h) hl (ht.fr h))
 have hbl:=bodyL_len sz bu p l h3 h4 hl
 have HH:=hid (fun W (h:Fr w W)=>THead_any sz bu p 0 0 0 h2 h4 W (ht.fr h))
 have hhl:(putB (twoH sz p bu)).length<=1000:=by
  have n1:=numB_le sz (by omega)
  have n2:=numB_le bu (by omega)
  rw [putB_len]
  unfold twoH markO
  simp only [List.length_append,List.length_cons,List.length_nil]
  omega
 have HT:Hid (twoP sz bu p l=putB (twoH sz p bu)++bodyL sz bu p l):=rfl
 obtain⟨a0,cap,rfl,_⟩:=hs.shape
 clear hs ho hl ht
 generalize twoP sz bu p l=TP at *
 generalize bodyL sz bu p l=T at *
 generalize putB (twoH sz p bu)=HD at *
 have HA:=hid (fun va vb W (ha:See W eB va HD) (hb:See W eB vb T)=>all2x_any va vb HD T W ha hb (by omega))
 rw [<- HT.out]at HA
 go_enter Tryz.func15, Tryz.ntmps15
 go_wp2_with fail
 refine(HC.out _).mono ?_
 rintro e w1 ⟨rfl,hf1⟩
 have hO1:=hf1.heap (heap_new w (.cells #[N sz,.bool p,N bu,.int .i64 0,.int .i64 0,.int .i64 0] 23) _ rfl)
 have hf01:Fr w w1:=((Fr.refl w).alloc _).trans hf1
 have c0:=cellx hO1 0 rfl
 have c1:=cellx hO1 1 rfl
 have c2:=cellx hO1 2 rfl
 have c3:=cellx hO1 3 rfl
 have c4:=cellx hO1 4 rfl
 have c5:=cellx hO1 5 rfl
 go_wp2_with fail
 refine(HM.out _ hf01).mono ?_
 rintro e w2 ⟨v2,rfl,hB2,hf2⟩
 have hf02:=hf01.trans hf2
 have HH2:=hid (HH.out w2 hf02)
 obtain⟨p2,z2,rfl⟩:=hB2.shape'
 have d0:=hf2.cell c0
 have d1:=hf2.cell c1
 have d2:=hf2.cell c2
 have d3:=hf2.cell c3
 have d4:=hf2.cell c4
 have d5:=hf2.cell c5
 clear c0 c1 c2 c3 c4 c5 hO1 hf01 hf1 HM HC
 go_wp2_with fail
 refine(HH2.out).mono ?_
 rintro e w3 ⟨v3,rfl,hH3,hf3⟩
 obtain⟨p3,z3,rfl⟩:=hH3.shape'
 have hf03:=hf02.trans hf3
 have HA3:=hid (HA.out _ _ w3 hH3.see (hB2.see.fr hf3))
 clear d0 d1 d2 d3 d4 d5 HH2 HH hf2 hf3
 go_wp2_with fail
 refine(HA3.out).mono ?_
 rintro e w4 ⟨v4,rfl,hR4,hf4⟩
 obtain⟨p4,z4,rfl⟩:=hR4.shape'
 have HR:=hid (hR4.rebase hf03.size)
 go_wp2_with fail
 go_ret2
 exact⟨_,rfl,HR.out,hf03.trans hf4⟩
theorem num_inj{x y:Nat}{q r:List UInt8}(hx:x<18446744073709551616)(hy:y<18446744073709551616)(h:numB x++q=numB y++r):x=y/\q=r:=by
 have h1:=numL_back x q hx
 rw [h,numL_back y r hy]at h1
 have e:y=x:=congrArg Prod.fst h1
 subst e
 exact⟨rfl,List.append_cancel_left h⟩
theorem text_inj{s t q r:List UInt8}(hs:s.length<=1000000)(ht:t.length<=1000000)(h:textB s++q=textB t++r):s=t/\q=r:=by
 unfold textB at h
 rw [List.append_assoc,List.append_assoc]at h
 obtain⟨h1,h2⟩:=num_inj (by omega) (by omega) h
 exact List.append_inj h2 h1
theorem putB_inj{a b:List UInt8}(h:putB a=putB b):a=b:=by
 unfold putB at h
 exact(List.append_inj' h rfl).1
theorem fix_inj(n:Nat):∀ x y:Nat,x<256 ^ n->y<256 ^ n->fixB n x=fixB n y->x=y:=by
 induction n with
 | zero=>intro x y hx hy _;simp at hx hy;omega
 | succ n ih=>
  intro x y hx hy h
  rw [fixB,fixB]at h
  have h1:=congrArg UInt8.toNat (List.cons.inj h).1
  rw [UInt8.toNat_ofNat',UInt8.toNat_ofNat']at h1
  rw [Nat.pow_succ]at hx hy
  have h2:=ih (x / 256) (y / 256) (by omega) (by omega) (List.cons.inj h).2
  omega
theorem u8_inj{x y:Nat}(hx:x<256)(hy:y<256)(h:UInt8.ofNat x=UInt8.ofNat y):x=y:=by
 have h1:=congrArg UInt8.toNat h
 rw [UInt8.toNat_ofNat',UInt8.toNat_ofNat']at h1
 omega
theorem flag_inj{p q:Bool}(h:(if p=true then(1:UInt8)else 0)=if q=true then 1 else 0):p=q:=by
 cases p <;> cases q <;> first | rfl | (exact absurd h (by decide))
def keyR(wh:Bool)(r:Rec):Rec:=if wh then r else⟨0,0,r.source,r.text⟩
def LowR(r:Rec):Prop:=r.source.length<=1000000/\r.text.length<=1000000
theorem one_inj(wh:Bool){r s:Rec}{q q':List UInt8}(hr:LowR r)(hs:LowR s)(h:oneB wh r++q=oneB wh s++q'):keyR wh r=keyR wh s/\q=q':=by
 obtain⟨t,c,x,y⟩:=r
 obtain⟨t',c',x',y'⟩:=s
 unfold LowR at hr hs
 unfold oneB at h
 simp only at hr hs h
 cases wh with
 | false=>
  simp only [Bool.false_eq_true,if_false,List.nil_append,List.append_assoc]at h
  obtain⟨rfl,h1⟩:=text_inj hr.1 hs.1 h
  obtain⟨rfl,h2⟩:=text_inj hr.2 hs.2 h1
  exact⟨rfl,h2⟩
 | true=>
  simp only [if_true,List.append_assoc,List.cons_append,List.nil_append]at h
  obtain⟨h0,h1⟩:=num_inj (UInt64.toNat_lt _) (UInt64.toNat_lt _) h
  obtain⟨rfl,h2⟩:=List.cons.inj h1
  obtain⟨rfl,h3⟩:=text_inj hr.1 hs.1 h2
  obtain⟨rfl,h4⟩:=text_inj hr.2 hs.2 h3
  obtain rfl:t=t':=UInt64.toNat_inj.1 h0
  exact⟨rfl,h4⟩
theorem bytes_inj(wh:Bool):∀ l m:List Rec,l.length=m.length->(∀ r∈l,LowR r)->(∀ r∈m,LowR r)->bytesB wh l=bytesB wh m->l.map (keyR wh)=m.map (keyR wh)
 | [],[],_,_,_,_=>rfl
 | [],_::_,h,_,_,_=>by simp at h
 | _::_,[],h,_,_,_=>by simp at h
 | r::l,s::m,h,h1,h2,e=>by
  unfold bytesB at e
  rw [List.map_cons,List.map_cons,List.flatten_cons,List.flatten_cons]at e
  obtain⟨e1,e2⟩:=one_inj wh (h1 r (by simp)) (h2 s (by simp)) e
  rw [List.map_cons,List.map_cons,e1,bytes_inj wh l m (by simpa using h) (fun x hx=>h1 x (by simp [hx])) (fun x hx=>h2 x (by simp [hx])) e2]
theorem bytesB_app(wh:Bool)(a b:List Rec):bytesB wh (a++b)=bytesB wh a++bytesB wh b:=by simp [bytesB]
def segR(l:List Rec)(cs:List Nat)(k:Nat):List Rec:=(l.drop (cs.take k).sum).take (cs.getD k 0)
theorem seg_all(wh:Bool)(l:List Rec)(cs:List Nat):∀ k,k<=cs.length->((List.range k).map fun i=>bytesB wh (segR l cs i)).flatten=bytesB wh (l.take (cs.take k).sum):=by
 intro k
 induction k with
 | zero=>intro _;simp [bytesB]
 | succ k ih=>
  intro h
  have e:(cs.take (k+1)).sum=(cs.take k).sum+cs.getD k 0:=by
   rw [List.take_succ_eq_append_getElem h,List.sum_append,List.getD_eq_getElem?_getD,List.getElem?_eq_getElem h]
   simp
  rw [List.range_succ,List.map_append,List.flatten_append,ih (by omega),e,List.take_add,bytesB_app]
  simp [segR]
theorem frmL_seg(p:Bool)(l:List Rec)(cs:List Nat)(k:Nat)(h:k<cs.length):frmL p l cs k=blockB p (bytesB false (segR l cs k)):=by
 have e:(cs.take (k+1)).sum=(cs.take k).sum+cs.getD k 0:=by
  rw [List.take_succ_eq_append_getElem h,List.sum_append,List.getD_eq_getElem?_getD,List.getElem?_eq_getElem h]
  simp
 unfold frmL segR
 rw [e,List.drop_take,show(cs.take k).sum+cs.getD k 0 - (cs.take k).sum=cs.getD k 0 by omega]
theorem frs_inj(p:Bool)(f g:Nat->List UInt8)(hf:∀ k,(f k).length<=32768)(hg:∀ k,(g k).length<=32768):∀ (n:Nat) {q q':List UInt8},((List.range n).map fun k=>blockB p (f k)).flatten++q=((List.range n).map fun k=>blockB p (g k)).flatten++q'->((List.range n).map f).flatten=((List.range n).map g).flatten/\q=q':=by
 intro n
 induction n with
 | zero=>intro q q' h;exact⟨rfl,by simpa using h⟩
 | succ n ih=>
  intro q q' h
  rw [List.range_succ,List.map_append,List.flatten_append,List.map_append,List.flatten_append,List.append_assoc,List.append_assoc]at h
  obtain⟨h1,h2⟩:=ih h
  simp only [List.map_cons,List.map_nil,List.flatten_cons,List.flatten_nil,List.append_nil]at h2
  obtain⟨h3,h4⟩:=blk_inj p (hf n) (hg n) h2
  rw [List.range_succ,List.map_append,List.flatten_append,List.map_append,List.flatten_append,h1]
  simp only [List.map_cons,List.map_nil,List.flatten_cons,List.flatten_nil,List.append_nil]
  exact⟨by rw [h3],h4⟩
theorem SmallL.low{l:List Rec}(h:SmallL l):∀ r∈l,LowR r:=by
 intro r hr
 have h1:=h.wt
 have h2:16+r.source.length+r.text.length<=wtS wt1 l:=wtS_mem wt1 l r hr
 exact⟨by omega,by omega⟩
theorem seg_sub(l:List Rec)(cs:List Nat)(k:Nat):(segR l cs k).Sublist l:=(List.take_sublist _ _).trans (List.drop_sublist _ _)
theorem oneP_inj{sz sz':Nat}{p p':Bool}{l l':List Rec}(h1:sz<=32768)(h2:sz'<=32768)(hl:SmallL l)(hl':SmallL l')(h:oneP sz p l=oneP sz' p' l'):sz=sz'/\p=p'/\l=l':=by
 unfold oneP oneH at h
 have h:=putB_inj h
 simp only [List.append_assoc]at h
 have h:=List.append_cancel_left h
 obtain⟨e1,h⟩:=num_inj (by omega) (by omega) h
 simp only [List.cons_append,List.nil_append]at h
 obtain⟨ep,h⟩:=List.cons.inj h
 have hg:=groups_len sz (lenR true) l
 have hg':=groups_len sz' (lenR true) l'
 have n1:=hl.len
 have n2:=hl'.len
 obtain⟨e2,h⟩:=num_inj (by omega) (by omega) h
 obtain⟨e3,h⟩:=num_inj (by omega) (by omega) h
 have ep:=flag_inj ep
 subst e1 ep
 refine⟨rfl,rfl,?_⟩
 have hs:=groupsL_sum sz (lenR true) l
 have hs':=groupsL_sum sz (lenR true) l'
 rw [<- e3]at h
 have k1:∀ k,(bytesB true (segR l (groupsL sz (lenR true) l) k)).length<=32768:=fun k=>Nat.le_trans (hl.bytesT _ (seg_sub _ _ _)) (by omega)
 have k2:∀ k,(bytesB true (segR l' (groupsL sz (lenR true) l') k)).length<=32768:=fun k=>Nat.le_trans (hl'.bytesT _ (seg_sub _ _ _)) (by omega)
 have h3:((List.range (groupsL sz (lenR true) l).length).map fun k=>blockB p (bytesB true (segR l (groupsL sz (lenR true) l) k))).flatten++[]=((List.range (groupsL sz (lenR true) l).length).map fun k=>blockB p (bytesB true (segR l' (groupsL sz (lenR true) l') k))).flatten++[]:=by
  rw [List.append_nil,List.append_nil]
  exact h
 have h4:=(frs_inj p _ _ k1 k2 _ h3).1
 have s1:=seg_all true l (groupsL sz (lenR true) l) _ (Nat.le_refl _)
 have s2:=seg_all true l' (groupsL sz (lenR true) l') _ (Nat.le_refl _)
 rw [List.take_length,hs,List.take_length]at s1
 rw [List.take_length,hs',List.take_length,<- e3]at s2
 rw [s1,s2]at h4
 have h5:=bytes_inj true l l' e2 hl.low hl'.low h4
 have e:keyR true=id:=by funext r;rfl
 rw [e,List.map_id,List.map_id]at h5
 exact h5
theorem prs_inj(cs cs':List Nat)(fr fr':Nat->List UInt8)(hc:∀ k,cs.getD k 0<1000000)(hc':∀ k,cs'.getD k 0<1000000)(hf:∀ k,(fr k).length<1000000)(hf':∀ k,(fr' k).length<1000000):∀ (n:Nat) {q q':List UInt8},prTo cs fr n++q=prTo cs' fr' n++q'->q=q':=by
 intro n
 induction n with
 | zero=>intro q q' h;simpa [prTo] using h
 | succ n ih=>
  intro q q' h
  unfold prTo at h ih
  rw [List.range_succ,List.map_append,List.flatten_append,List.map_append,List.flatten_append,List.append_assoc,List.append_assoc]at h
  have h2:=ih h
  simp only [List.map_cons,List.map_nil,List.flatten_cons,List.flatten_nil,List.append_nil,List.append_assoc]at h2
  obtain⟨_,h3⟩:=num_inj (Nat.lt_trans (hc n) (by omega)) (Nat.lt_trans (hc' n) (by omega)) h2
  exact(num_inj (Nat.lt_trans (hf n) (by omega)) (Nat.lt_trans (hf' n) (by omega)) h3).2
theorem getD_small(cs:List Nat)(h:∀ x∈cs,x<1000000)(k:Nat):cs.getD k 0<1000000:=by
 rw [List.getD_eq_getElem?_getD]
 cases e:cs[k]? with
 | none=>simp
 | some x=>exact h x (List.mem_of_getElem? e)
theorem rec_ext(l m:List Rec)(h1:l.map (keyR false)=m.map (keyR false))(h2:(l.map fun r=>r.time.toNat)=m.map fun r=>r.time.toNat)(h3:l.map (·.level)=m.map (·.level)):l=m:=by
 have hl:l.length=m.length:=by have:=congrArg List.length h1;simpa using this
 apply List.ext_getElem hl
 intro i a b
 have g1:=congrArg (·[i]?) h1
 have g2:=congrArg (·[i]?) h2
 have g3:=congrArg (·[i]?) h3
 simp only [List.getElem?_map,List.getElem?_eq_getElem a,List.getElem?_eq_getElem b,Option.map_some,Option.some.injEq]at g1 g2 g3
 generalize l[i]=r at *
 generalize m[i]=s at *
 obtain⟨t,c,x,y⟩:=r
 obtain⟨t',c',x',y'⟩:=s
 simp only [keyR,Bool.false_eq_true,if_false,Rec.mk.injEq,true_and]at g1 g2 g3
 obtain rfl:t=t':=UInt64.toNat_inj.1 g2
 rw [g1.1,g1.2,g3]
theorem col_inj{l m:List Rec}(hl:l.length=m.length)(h60:l.length<=60)(h:columnsL l=columnsL m):((l.map fun r=>r.time.toNat)=m.map fun r=>r.time.toNat)/\l.map (·.level)=m.map (·.level):=by
 have ht:∀ (k:List Rec),∀ t∈k.map (fun r=>r.time.toNat),t<18446744073709551616:=fun k t ht=>by
  obtain⟨r,_,rfl⟩:=List.mem_map.1 ht
  exact UInt64.toNat_lt _
 have a:=col_back (l.map fun r=>r.time.toNat) (l.map (·.level)) [] (by simp) (ht l) (by simp;omega)
 have b:=col_back (m.map fun r=>r.time.toNat) (m.map (·.level)) [] (by simp) (ht m) (by simp;omega)
 rw [List.length_map,List.append_nil]at a b
 change colR _ (columnsL l)=_ at a
 change colR _ (columnsL m)=_ at b
 rw [h,hl,b]at a
 exact⟨(congrArg Prod.fst a).symm,(congrArg (fun x=>x.2.1) a).symm⟩
theorem bodyL_inj{sz bu:Nat}{p:Bool}{l m:List Rec}(h3:1<=bu)(h4:bu<=64)(hl:SmallL l)(hm:SmallL m)(h:bodyL sz bu p l=bodyL sz bu p m):l=m:=by
 have b1:=bodyL_len sz bu p l h3 h4 hl
 have b2:=bodyL_len sz bu p m h3 h4 hm
 unfold bodyL joinL at h b1 b2
 have hg:=groups_len sz (lenR false) l
 have hg':=groups_len sz (lenR false) m
 have n1:=hl.len
 have n2:=hm.len
 have hs:=groupsL_sum sz (lenR false) l
 have hs':=groupsL_sum sz (lenR false) m
 generalize groupsL sz (lenR false) l=cs at *
 generalize groupsL sz (lenR false) m=cs' at *
 have q1:∀ x∈cs,x<1000000:=fun x hx=>by have:=sum_mem_le _ _ hx;omega
 have q2:∀ x∈cs',x<1000000:=fun x hx=>by have:=sum_mem_le _ _ hx;omega
 have f1:∀ k,(frmL p l cs k).length<1000000:=fun k=>Nat.lt_of_le_of_lt (hl.frm p cs k).2 (by omega)
 have f2:∀ k,(frmL p m cs' k).length<1000000:=fun k=>Nat.lt_of_le_of_lt (hm.frm p cs' k).2 (by omega)
 generalize putB (postB bu l.length (idxT (l.map Rec.ts)) (idxL (l.map Rec.ts)))=IX at *
 generalize putB (postB bu m.length (idxT (m.map Rec.ts)) (idxL (m.map Rec.ts)))=IX' at *
 have F1:frTo (frmL p l cs) cs.length=(List.range cs.length).map fun k=>blockB p (bytesB false (segR l cs k)):=by
  unfold frTo;exact List.map_congr_left fun k hk=>frmL_seg p l cs k (List.mem_range.1 hk)
 have F2:frTo (frmL p m cs') cs'.length=(List.range cs'.length).map fun k=>blockB p (bytesB false (segR m cs' k)):=by
  unfold frTo;exact List.map_congr_left fun k hk=>frmL_seg p m cs' k (List.mem_range.1 hk)
 obtain⟨h5,h6⟩:=List.append_inj' h (by rw [fixB_len,fixB_len])
 have p4:(256:Nat) ^ 4=4294967296:=by decide
 simp only [List.length_append]at b1 b2
 have h7:=fix_inj 4 _ _ (by rw [p4];omega) (by rw [p4];omega) h6
 obtain⟨h8,h9⟩:=List.append_inj' h5 h7
 have h10:=putB_inj h9
 unfold dirL at h10
 simp only [List.append_assoc]at h10
 obtain⟨e1,h10⟩:=num_inj (by omega) (by omega) h10
 obtain⟨e2,h10⟩:=num_inj (by omega) (by omega) h10
 rw [<- e2]at h10
 have h11:=prs_inj cs cs' _ _ (getD_small cs q1) (getD_small cs' q2) f1 f2 cs.length h10
 obtain⟨e3,_⟩:=num_inj (by omega) (by omega) h11
 rw [F1,F2,<- e2,List.append_assoc,List.append_assoc]at h8
 have k1:∀ k,(bytesB false (segR l cs k)).length<=32768:=fun k=>Nat.le_trans (hl.bytes _ (seg_sub _ _ _)) (by omega)
 have k2:∀ k,(bytesB false (segR m cs' k)).length<=32768:=fun k=>Nat.le_trans (hm.bytes _ (seg_sub _ _ _)) (by omega)
 obtain⟨h12,h13⟩:=frs_inj p _ _ k1 k2 _ h8
 have s1:=seg_all false l cs cs.length (Nat.le_refl _)
 have s2:=seg_all false m cs' cs'.length (Nat.le_refl _)
 rw [List.take_length,hs,List.take_length]at s1
 rw [List.take_length,hs',List.take_length,<- e2]at s2
 rw [s1,s2]at h12
 have hlen:l.length=m.length:=by omega
 have h14:=bytes_inj false l m hlen hl.low hm.low h12
 have h15:=putB_inj (List.append_inj h13 e3).1
 obtain⟨h16,h17⟩:=col_inj hlen n1 h15
 exact rec_ext l m h14 h16 h17
theorem putB_tail(l:List UInt8):∃ c,putB l=l++c/\c.length=4:=⟨_,rfl,rfl⟩
theorem twoP_inj{sz sz' bu bu':Nat}{p p':Bool}{l l':List Rec}(h1:sz<=32768)(h2:sz'<=32768)(h3:1<=bu)(h4:bu<=64)(h3':1<=bu')(h4':bu'<=64)(hl:SmallL l)(hl':SmallL l')(h:twoP sz bu p l=twoP sz' bu' p' l'):sz=sz'/\bu=bu'/\p=p'/\l=l':=by
 have key:∀ (x:Nat) (y:Bool) (z:Nat) (k:List Rec),∃ c,twoP x z y k=markO 2++(numB x++((if y then 1 else 0)::(numB z++(c++bodyL x z y k))))/\c.length=4:=fun x y z k=>by
  obtain⟨c,hc,h4⟩:=putB_tail (twoH x y z)
  refine⟨c,?_,h4⟩
  unfold twoP
  rw [hc]
  unfold twoH
  simp only [List.append_assoc,List.cons_append,List.nil_append]
 obtain⟨c,hc,hc4⟩:=key sz p bu l
 obtain⟨c',hc',hc4'⟩:=key sz' p' bu' l'
 rw [hc,hc']at h
 have h:=List.append_cancel_left h
 obtain⟨e1,h⟩:=num_inj (by omega) (by omega) h
 obtain⟨ep,h⟩:=List.cons.inj h
 have ep:=flag_inj ep
 obtain⟨e2,h⟩:=num_inj (by omega) (by omega) h
 subst e1 e2 ep
 obtain⟨_,h⟩:=List.append_inj h (by rw [hc4,hc4'])
 exact⟨rfl,rfl,rfl,bodyL_inj h3 h4 hl hl' h⟩
theorem puts_inj(c:Nat):∀ ls ms:List (List UInt8),ls.length=ms.length->(∀ x∈ls,x.length=c)->(∀ x∈ms,x.length=c)->putsL ls=putsL ms->ls=ms
 | [],[],_,_,_,_=>rfl
 | [],_::_,h,_,_,_=>by simp at h
 | _::_,[],h,_,_,_=>by simp at h
 | x::l,y::m,h,h1,h2,e=>by
  unfold putsL at e
  rw [List.map_cons,List.map_cons,List.flatten_cons,List.flatten_cons]at e
  have hx:=h1 x (by simp)
  have hy:=h2 y (by simp)
  obtain⟨e1,e2⟩:=List.append_inj e (by simp [putB];omega)
  rw [putB_inj e1,puts_inj c l m (by simpa using h) (fun z hz=>h1 z (by simp [hz])) (fun z hz=>h2 z (by simp [hz])) e2]
theorem stripe_len(l:List UInt8)(k m c a:Nat):(putsL (partsS l c a k)).length=k*(c+4)/\(stripeL l k m c a).length=k*(c+4)+m*(c+4):=by
 have h1:(putsL (partsS l c a k)).length=k*(c+4):=by rw [putsL_len _ c (partsS_all l c a k),partsS_len]
 have h2:(putsL (parL m (partsS l c a k) c)).length=m*(c+4):=by rw [putsL_len _ c (parL_all m _ c (partsS_all l c a k)),parL_len]
 unfold stripeL
 rw [List.length_append,h1,h2]
 exact⟨rfl,rfl⟩
theorem lay_inj(a b:List UInt8)(k m c:Nat)(hc:0<c):∀ s,layL a k m c s=layL b k m c s->∀ i,i<s*(k*c)->a.getD i 0=b.getD i 0:=by
 intro s
 induction s with
 | zero=>intro _ i h;simp at h
 | succ s ih=>
  intro h i hi
  rw [layL,layL]at h
  obtain⟨h1,h2⟩:=List.append_inj' h (by rw [(stripe_len a k m c _).2,(stripe_len b k m c _).2])
  by_cases hlt:i<s*(k*c)
  · exact ih h1 i hlt
  · unfold stripeL at h2
    obtain⟨h3,_⟩:=List.append_inj h2 (by rw [(stripe_len a k m c _).1,(stripe_len b k m c _).1])
    have h4:=puts_inj c _ _ (by rw [partsS_len,partsS_len]) (partsS_all a c _ k) (partsS_all b c _ k) h3
    obtain⟨t,ht⟩:∃ t,i=s*(k*c)+t:=⟨i - s*(k*c),by omega⟩
    rw [Nat.add_mul,Nat.one_mul]at hi
    have htk:t<k*c:=by omega
    have hq:t / c<k:=(Nat.div_lt_iff_lt_mul hc).2 htk
    have hr:t % c<c:=Nat.mod_lt _ hc
    have hd:=Nat.div_add_mod t c
    have h5:=congrArg (·[t / c]?) h4
    simp only [partsS,List.getElem?_map,List.getElem?_range hq,Option.map_some,Option.some.injEq]at h5
    have h6:=congrArg (·[t % c]?) h5
    simp only [cutP,List.getElem?_map,List.getElem?_range hr,Option.map_some,Option.some.injEq]at h6
    rw [ht,show s*(k*c)+t=s*(k*c)+t / c*c+t % c by rw [Nat.mul_comm (t / c) c];omega]
    exact h6
theorem headL_inj{sz sz' bu bu' d d' q q' c c' n n':Nat}{p p':Bool}(h1:sz<=32768)(h2:sz'<=32768)(h3:bu<256)(h4:bu'<256)(h5:d<256)(h6:d'<256)(h7:q<256)(h8:q'<256)(h9:c<=4096)(h10:c'<=4096)(h11:n<=1000000)(h12:n'<=1000000)
  (h:headL sz p bu d q c n=headL sz' p' bu' d' q' c' n'):sz=sz'/\p=p'/\bu=bu'/\d=d'/\q=q'/\c=c'/\n=n':=by
 unfold headL at h
 have p4:(256:Nat) ^ 4=4294967296:=by decide
 have p2:(256:Nat) ^ 2=65536:=by decide
 obtain⟨h,e1⟩:=List.append_inj' h (by rw [fixB_len,fixB_len])
 obtain⟨h,e2⟩:=List.append_inj' h (by rw [fixB_len,fixB_len])
 obtain⟨h,e3⟩:=List.append_inj' h (by rw [fixB_len,fixB_len])
 have h:=List.append_cancel_left h
 obtain⟨e4,h⟩:=List.cons.inj h
 obtain⟨e5,h⟩:=List.cons.inj h
 obtain⟨e6,h⟩:=List.cons.inj h
 obtain⟨e7,_⟩:=List.cons.inj h
 exact⟨fix_inj 2 _ _ (by omega) (by omega) e2,flag_inj e4,u8_inj h3 h4 e5,u8_inj h5 h6 e6,u8_inj h7 h8 e7,fix_inj 2 _ _ (by omega) (by omega) e3,fix_inj 4 _ _ (by omega) (by omega) e1⟩
theorem archL_inj{sz sz' bu bu' d d' q q' c c':Nat}{p p':Bool}{b b':List UInt8}(h1:sz<=32768)(h2:sz'<=32768)(h3:bu<256)(h4:bu'<256)(h5:d<256)(h6:d'<256)(h7:q<256)(h8:q'<256)(h9:c<=4096)(h10:c'<=4096)(h11:b.length<=1000000)(h12:b'.length<=1000000)(hd:1<=d)(hc:1<=c)
  (h:archL sz p bu d q c b=archL sz' p' bu' d' q' c' b'):sz=sz'/\p=p'/\bu=bu'/\d=d'/\q=q'/\c=c'/\b=b':=by
 unfold archL at h
 rw [List.append_assoc,List.append_assoc]at h
 obtain⟨e,h⟩:=List.append_inj h (by simp [putB,headL_len])
 obtain⟨rfl,rfl,rfl,rfl,rfl,rfl,hn⟩:=headL_inj h1 h2 h3 h4 h5 h6 h7 h8 h9 h10 h11 h12 (putB_inj e)
 rw [hn]at h
 have h13:=List.append_cancel_right h
 refine⟨rfl,rfl,rfl,rfl,rfl,rfl,?_⟩
 have hp:0<d*c:=Nat.mul_pos hd hc
 have hs:¬strN d c b'.length<strN d c b'.length:=Nat.lt_irrefl _
 rw [strN_lt d c b'.length hp]at hs
 have h14:=lay_inj b b' d q c hc _ h13
 apply List.ext_getElem hn
 intro i i1 i2
 have:=h14 i (by omega)
 rw [List.getD_eq_getElem?_getD,List.getD_eq_getElem?_getD,List.getElem?_eq_getElem i1,List.getElem?_eq_getElem i2]at this
 exact this
def Arc(v:Int)(o:Opt)(l:List Rec)(A:List UInt8):Prop:=
 (v=1/\∃ (sz:Nat) (p:Bool),sz<=32768/\o=⟨(sz:Int),p,0,0,0,0⟩/\A=oneP sz p l) \/
 (v=2/\∃ (sz bu:Nat) (p:Bool),sz<=32768/\1<=bu/\bu<=64/\o=⟨(sz:Int),p,(bu:Int),0,0,0⟩/\A=twoP sz bu p l) \/
 (v=3/\∃ (sz bu d q c:Nat) (p:Bool),sz<=32768/\1<=bu/\bu<=64/\1<=d/\d+q<=255/\1<=c/\c<=4096/\o=⟨(sz:Int),p,(bu:Int),(d:Int),(q:Int),(c:Int)⟩/\A=archL sz p bu d q c (bodyL sz bu p l))
theorem oneP_mark(sz:Nat)(p:Bool)(l:List Rec):∃ r,oneP sz p l=markO 1++r:=by
 unfold oneP putB oneH
 simp only [List.append_assoc]
 exact⟨_,rfl⟩
theorem twoP_mark(sz bu:Nat)(p:Bool)(l:List Rec):∃ r,twoP sz bu p l=markO 2++r:=by
 unfold twoP putB twoH
 simp only [List.append_assoc]
 exact⟨_,rfl⟩
theorem archL_mark(sz bu d q c:Nat)(p:Bool)(b:List UInt8):∃ r,archL sz p bu d q c b=markO 3++r:=by
 unfold archL putB headL
 simp only [List.append_assoc]
 exact⟨_,rfl⟩
theorem mark_inj{x y:UInt8}{r s:List UInt8}(h:markO x++r=markO y++s):x=y:=by
 simp only [markO,List.cons_append,List.nil_append,List.cons.injEq,true_and]at h
 exact h.1
theorem arc_inj{v w:Int}{o p:Opt}{l m:List Rec}{A B:List UInt8}(hl:SmallL l)(hm:SmallL m)(h:Arc v o l A)(k:Arc w p m B):A=B↔v=w/\o=p/\l=m:=by
 constructor
 · intro e
   rcases h with⟨rfl,sz,f,a1,rfl,rfl⟩ | ⟨rfl,sz,bu,f,a1,a2,a3,rfl,rfl⟩ | ⟨rfl,sz,bu,d,q,c,f,a1,a2,a3,a4,a5,a6,a7,rfl,rfl⟩ <;>
    rcases k with⟨rfl,sz',f',b1,rfl,rfl⟩ | ⟨rfl,sz',bu',f',b1,b2,b3,rfl,rfl⟩ | ⟨rfl,sz',bu',d',q',c',f',b1,b2,b3,b4,b5,b6,b7,rfl,rfl⟩
   · obtain⟨rfl,rfl,rfl⟩:=oneP_inj a1 b1 hl hm e
     exact⟨rfl,rfl,rfl⟩
   · obtain⟨r,hr⟩:=oneP_mark sz f l
     obtain⟨s,hs⟩:=twoP_mark sz' bu' f' m
     rw [hr,hs]at e
     exact absurd (mark_inj e) (by decide)
   · obtain⟨r,hr⟩:=oneP_mark sz f l
     obtain⟨s,hs⟩:=archL_mark sz' bu' d' q' c' f' (bodyL sz' bu' f' m)
     rw [hr,hs]at e
     exact absurd (mark_inj e) (by decide)
   · obtain⟨r,hr⟩:=twoP_mark sz bu f l
     obtain⟨s,hs⟩:=oneP_mark sz' f' m
     rw [hr,hs]at e
     exact absurd (mark_inj e) (by decide)
   · obtain⟨rfl,rfl,rfl,rfl⟩:=twoP_inj a1 b1 a2 a3 b2 b3 hl hm e
     exact⟨rfl,rfl,rfl⟩
   · obtain⟨r,hr⟩:=twoP_mark sz bu f l
     obtain⟨s,hs⟩:=archL_mark sz' bu' d' q' c' f' (bodyL sz' bu' f' m)
     rw [hr,hs]at e
     exact absurd (mark_inj e) (by decide)
   · obtain⟨r,hr⟩:=archL_mark sz bu d q c f (bodyL sz bu f l)
     obtain⟨s,hs⟩:=oneP_mark sz' f' m
     rw [hr,hs]at e
     exact absurd (mark_inj e) (by decide)
   · obtain⟨r,hr⟩:=archL_mark sz bu d q c f (bodyL sz bu f l)
     obtain⟨s,hs⟩:=twoP_mark sz' bu' f' m
     rw [hr,hs]at e
     exact absurd (mark_inj e) (by decide)
   · obtain⟨rfl,rfl,rfl,rfl,rfl,rfl,h2⟩:=archL_inj a1 b1 (by omega) (by omega) (by omega) (by omega) (by omega) (by omega) a7 b7 (bodyL_len _ _ _ _ a2 a3 hl) (bodyL_len _ _ _ _ b2 b3 hm) a4 a6 e
     exact⟨rfl,rfl,bodyL_inj a2 a3 hl hm h2⟩
 · rintro⟨rfl,rfl,rfl⟩
   rcases h with⟨rfl,sz,f,a1,rfl,rfl⟩ | ⟨rfl,sz,bu,f,a1,a2,a3,rfl,rfl⟩ | ⟨rfl,sz,bu,d,q,c,f,a1,a2,a3,a4,a5,a6,a7,rfl,rfl⟩ <;>
    rcases k with⟨k0,sz',f',b1,k1,rfl⟩ | ⟨k0,sz',bu',f',b1,b2,b3,k1,rfl⟩ | ⟨k0,sz',bu',d',q',c',f',b1,b2,b3,b4,b5,b6,b7,k1,rfl⟩ <;>
    first | (exact absurd k0 (by decide)) | skip
   · simp only [Opt.mk.injEq,Int.natCast_inj]at k1
     rw [k1.1,k1.2.1]
   · simp only [Opt.mk.injEq,Int.natCast_inj]at k1
     rw [k1.1,k1.2.1,k1.2.2.1]
   · simp only [Opt.mk.injEq,Int.natCast_inj]at k1
     obtain⟨k1,k2,k3,k4,k5,k6⟩:=k1
     rw [k1,k2,k3,k4,k5,k6]
def grtB(l:List Rec):Bool:=decide (20<l.length) || decide ((800:Int)<wtGo 0 l)
def lightB(v:Int)(o:Opt)(l:List Rec):Bool:=!grtB l && (decide (v≠3) || (!opt3 o || smallB o))
theorem Light_any (ver : Int) (o : Opt) (v : Value) (l : List Rec) (w : World) (hs : See w eR v l) :
    Calls Tryz.prog 5 #[.int .i64 ver,optV o,v,.int .i64 20,.int .i64 800] w fun e w'=>e=.returned (.bool (lightB ver o l))/\Fr w w':=by
  have HG:=hid (fun W (h:Fr w W)=>(show Calls Tryz.prog 11 #[v,.int .i64 20,.int .i64 800] W (fun e w'=>e=.returned (.bool (grtB l))/\Fr W w')from Great_any v l W (hs.fr h) 20 800 (by omega)))
  have HC:=hid (fun W=>ROCheck3_any o W)
  have HM:=hid (fun(h:opt3 o=true) W=>RSmall_any o (((opt3_iff o).1 h).2.2.1) (((opt3_iff o).1 h).2.2.2.1) W)
  have HL:Hid (lightB ver o l=(!grtB l && (decide (ver≠3) || (!opt3 o || smallB o)))):=rfl
  obtain⟨a0,cap,rfl,_⟩:=hs.shape
  clear hs
  generalize lightB ver o l=R at *
  generalize grtB l=g at *
  have hfa:Fr w (w.alloc (.cells #[.int .i64 o.b,.bool o.plain,.int .i64 o.bu,.int .i64 o.d,.int .i64 o.p,.int .i64 o.c] 23)):=(Fr.refl w).alloc _
  have H6:=hid (fun W (h:Fr (w.alloc (.cells #[.int .i64 o.b,.bool o.plain,.int .i64 o.bu,.int .i64 o.d,.int .i64 o.p,.int .i64 o.c] 23)) W)=>six_box o h)
  generalize ho3:opt3 o=o3 at *
  have HO3:=hid ho3
  clear ho3
  generalize smallB o=sm at *
  cases g with
  | true=>
    obtain rfl:R=false:=by rw [HL.out];rfl
    clear HL HC HM
    obtain⟨ob,opl,obu,od,op,oc⟩:=o
    go_enter Tryz.func5, Tryz.ntmps5
    go_wp2_with fail
    refine(HG.out _ hfa).mono ?_
    rintro e w1 ⟨rfl,hf1⟩
    go_wp2_with fail
    go_ret
    exact⟨rfl,hfa.trans hf1⟩
  | false=>
    by_cases hv3:ver=3
    · subst hv3
      cases o3 with
      | false=>
        obtain rfl:R=true:=by rw [HL.out];rfl
        rw [if_neg (by simp)]at HC
        clear HL HM
        obtain⟨ob,opl,obu,od,op,oc⟩:=o
        go_enter Tryz.func5, Tryz.ntmps5
        go_wp2_with fail
        refine(HG.out _ hfa).mono ?_
        rintro e w1 ⟨rfl,hf1⟩
        obtain⟨c0,c1,c2,c3,c4,c5⟩:=H6.out _ hf1
        go_wp2_with fail
        refine(HC.out _).mono ?_
        rintro e w2 ⟨rfl,hf2⟩
        go_wp2_with fail
        go_ret
        exact⟨rfl,hfa.trans (hf1.trans hf2)⟩
      | true=>
        obtain rfl:R=sm:=by rw [HL.out];simp
        rw [if_pos rfl]at HC
        have HM2:=hid (HM.out rfl)
        clear HL HM HO3
        obtain⟨ob,opl,obu,od,op,oc⟩:=o
        go_enter Tryz.func5, Tryz.ntmps5
        go_wp2_with fail
        refine(HG.out _ hfa).mono ?_
        rintro e w1 ⟨rfl,hf1⟩
        obtain⟨c0,c1,c2,c3,c4,c5⟩:=H6.out _ hf1
        go_wp2_with fail
        refine(HC.out _).mono ?_
        rintro e w2 ⟨rfl,hf2⟩
        have g2:=hf1.trans hf2
        clear c0 c1 c2 c3 c4 c5
        obtain⟨c0,c1,c2,c3,c4,c5⟩:=H6.out _ g2
        go_wp2_with fail
        refine(HM2.out _).mono ?_
        rintro e w3 ⟨rfl,hf3⟩
        go_wp2_with fail
        go_ret
        exact⟨rfl,hfa.trans (g2.trans hf3)⟩
    · obtain rfl:R=true:=by rw [HL.out];simp [hv3]
      clear HL HM HC
      obtain⟨ob,opl,obu,od,op,oc⟩:=o
      go_enter Tryz.func5, Tryz.ntmps5
      go_wp2_with fail
      refine(HG.out _ hfa).mono ?_
      rintro e w1 ⟨rfl,hf1⟩
      go_wp2_with fail
      go_ret
      exact⟨rfl,hfa.trans hf1⟩
theorem APack1_any(o:Opt)(v:Value)(l:List Rec)(E:Int)(R:List UInt8)(w:World)(hs:See w eR v l)(hP:∀ W,Fr w W->Calls Tryz.prog 14 #[optV o,v] W fun e w'=>∃ u,e=.returned (.tuple #[u,.int .i64 E])/\Ow w' W.heap.size eB u R/\Fr W w') :
  Calls Tryz.prog 6 #[.int .i64 1,optV o,v] w fun e w'=>∃ u,e=.returned (.tuple #[u,.int .i64 E])/\Ow w' w.heap.size eB u R/\Fr w w':=by
 have HP:=hid hP
 obtain⟨a0,cap,rfl,_⟩:=hs.shape
 clear hs hP
 obtain⟨ob,opl,obu,od,op,oc⟩:=o
 have hO0:=heap_new w (.cells #[.int .i64 ob,.bool opl,.int .i64 obu,.int .i64 od,.int .i64 op,.int .i64 oc] 23) w.heap.size rfl
 have hf0:Fr w (w.alloc (.cells #[.int .i64 ob,.bool opl,.int .i64 obu,.int .i64 od,.int .i64 op,.int .i64 oc] 23)):=(Fr.refl w).alloc _
 generalize hW0:w.alloc (.cells #[.int .i64 ob,.bool opl,.int .i64 obu,.int .i64 od,.int .i64 op,.int .i64 oc] 23)=W0 at *
 have c0:=cellx hO0 0 rfl
 have c1:=cellx hO0 1 rfl
 have c2:=cellx hO0 2 rfl
 have c3:=cellx hO0 3 rfl
 have c4:=cellx hO0 4 rfl
 have c5:=cellx hO0 5 rfl
 go_enter Tryz.func6, Tryz.ntmps6
 go_wp2_with fail
 refine(HP.out _ hf0).mono ?_
 rintro e w1 ⟨u,rfl,hU,hf1⟩
 have HU:=hid (hU.rebase hf0.size)
 go_wp2_with fail
 go_ret2
 exact⟨_,rfl,HU.out,hf0.trans hf1⟩
theorem APack2_any(o:Opt)(v:Value)(l:List Rec)(E:Int)(R:List UInt8)(w:World)(hs:See w eR v l)(hP:∀ W,Fr w W->Calls Tryz.prog 15 #[optV o,v] W fun e w'=>∃ u,e=.returned (.tuple #[u,.int .i64 E])/\Ow w' W.heap.size eB u R/\Fr W w') :
  Calls Tryz.prog 6 #[.int .i64 2,optV o,v] w fun e w'=>∃ u,e=.returned (.tuple #[u,.int .i64 E])/\Ow w' w.heap.size eB u R/\Fr w w':=by
 have HP:=hid hP
 obtain⟨a0,cap,rfl,_⟩:=hs.shape
 clear hs hP
 obtain⟨ob,opl,obu,od,op,oc⟩:=o
 have hO0:=heap_new w (.cells #[.int .i64 ob,.bool opl,.int .i64 obu,.int .i64 od,.int .i64 op,.int .i64 oc] 23) w.heap.size rfl
 have hf0:Fr w (w.alloc (.cells #[.int .i64 ob,.bool opl,.int .i64 obu,.int .i64 od,.int .i64 op,.int .i64 oc] 23)):=(Fr.refl w).alloc _
 generalize hW0:w.alloc (.cells #[.int .i64 ob,.bool opl,.int .i64 obu,.int .i64 od,.int .i64 op,.int .i64 oc] 23)=W0 at *
 have c0:=cellx hO0 0 rfl
 have c1:=cellx hO0 1 rfl
 have c2:=cellx hO0 2 rfl
 have c3:=cellx hO0 3 rfl
 have c4:=cellx hO0 4 rfl
 have c5:=cellx hO0 5 rfl
 go_enter Tryz.func6, Tryz.ntmps6
 go_wp2_with fail
 refine(HP.out _ hf0).mono ?_
 rintro e w1 ⟨u,rfl,hU,hf1⟩
 have HU:=hid (hU.rebase hf0.size)
 go_wp2_with fail
 go_ret2
 exact⟨_,rfl,HU.out,hf0.trans hf1⟩
theorem APack3_any(o:Opt)(v:Value)(l:List Rec)(E:Int)(R:List UInt8)(w:World)(hs:See w eR v l)(hP:∀ W,Fr w W->Calls Tryz.prog 16 #[optV o,v] W fun e w'=>∃ u,e=.returned (.tuple #[u,.int .i64 E])/\Ow w' W.heap.size eB u R/\Fr W w') :
  Calls Tryz.prog 6 #[.int .i64 3,optV o,v] w fun e w'=>∃ u,e=.returned (.tuple #[u,.int .i64 E])/\Ow w' w.heap.size eB u R/\Fr w w':=by
 have HP:=hid hP
 obtain⟨a0,cap,rfl,_⟩:=hs.shape
 clear hs hP
 obtain⟨ob,opl,obu,od,op,oc⟩:=o
 have hO0:=heap_new w (.cells #[.int .i64 ob,.bool opl,.int .i64 obu,.int .i64 od,.int .i64 op,.int .i64 oc] 23) w.heap.size rfl
 have hf0:Fr w (w.alloc (.cells #[.int .i64 ob,.bool opl,.int .i64 obu,.int .i64 od,.int .i64 op,.int .i64 oc] 23)):=(Fr.refl w).alloc _
 generalize hW0:w.alloc (.cells #[.int .i64 ob,.bool opl,.int .i64 obu,.int .i64 od,.int .i64 op,.int .i64 oc] 23)=W0 at *
 have c0:=cellx hO0 0 rfl
 have c1:=cellx hO0 1 rfl
 have c2:=cellx hO0 2 rfl
 have c3:=cellx hO0 3 rfl
 have c4:=cellx hO0 4 rfl
 have c5:=cellx hO0 5 rfl
 go_enter Tryz.func6, Tryz.ntmps6
 go_wp2_with fail
 refine(HP.out _ hf0).mono ?_
 rintro e w1 ⟨u,rfl,hU,hf1⟩
 have HU:=hid (hU.rebase hf0.size)
 go_wp2_with fail
 go_ret2
 exact⟨_,rfl,HU.out,hf0.trans hf1⟩
theorem APack_no(ver:Int)(o:Opt)(v:Value)(l:List Rec)(w:World)(hs:See w eR v l)(h1:¬ver=1)(h2:¬ver=2)(h3:¬ver=3) :
  Calls Tryz.prog 6 #[.int .i64 ver,optV o,v] w fun e w'=>e=.returned (.tuple #[.slice none 0 0,.int .i64 4])/\Fr w w':=by
 obtain⟨a0,cap,rfl,_⟩:=hs.shape
 clear hs
 obtain⟨ob,opl,obu,od,op,oc⟩:=o
 go_enter Tryz.func6, Tryz.ntmps6
 go_wp2_with fail
 go_ret2
 exact⟨rfl,(Fr.refl w).alloc _⟩
theorem lightS{ver:Int}{o:Opt}{l:List Rec}(h:lightB ver o l=true):SmallL l:=by
 unfold lightB at h
 rw [Bool.and_eq_true]at h
 exact small_of (by simpa [grtB] using h.1)
theorem packArc(ver:Int)(o:Opt)(v:Value)(l:List Rec)(w:World)(hs:See w eR v l)(ht:Crc w)(hg:lightB ver o l=true) :
  ∃ (E:Int) (AR:List UInt8),(E=0->Arc ver o l AR)/\(∀ W,Fr w W->Calls Tryz.prog 6 #[.int .i64 ver,optV o,v] W fun e w'=>∃ u,e=.returned (.tuple #[u,.int .i64 E])/\See w' eB u AR/\Fr W w'):=by
 have sm:=lightS hg
 by_cases v1:ver=1
 · subst v1
   by_cases ho:opt1g o=true
   · have h3:=(opt1g_iff o).1 ho
     obtain⟨ob,opl,obu,od,op,oc⟩:=o
     simp only at h3
     obtain⟨k1,k2,rfl,rfl,rfl,rfl⟩:=h3
     obtain⟨sz,rfl⟩:=Int.eq_ofNat_of_zero_le (show 0<=ob by omega)
     exact⟨0,oneP sz opl l,fun _=>.inl ⟨rfl,sz,opl,by omega,rfl,rfl⟩,fun W h=>(APack1_any _ v l 0 _ W (hs.fr h) (fun W' h'=>OPack_any sz opl (by omega) (by omega) v l W' (hs.fr (h.trans h')) sm (ht.fr (h.trans h')))).mono fun e w' ⟨u,a,b,c⟩=>⟨u,a,b.see,c⟩⟩
   · have ho':opt1g o=false:=by simpa using ho
     exact⟨9,[],fun h=>absurd h (by decide),fun W h=>(APack1_any _ v l 9 [] W (hs.fr h) (fun W' h'=>(OPack_no o ho' v l W' (hs.fr (h.trans h'))).mono fun e w' ⟨a,c⟩=>⟨_,a,Ow.nil,c⟩)).mono fun e w' ⟨u,a,b,c⟩=>⟨u,a,b.see,c⟩⟩
 by_cases v2:ver=2
 · subst v2
   by_cases ho:opt2g o=true
   · have h3:=(opt2g_iff o).1 ho
     obtain⟨ob,opl,obu,od,op,oc⟩:=o
     simp only at h3
     obtain⟨k1,k2,k3,k4,rfl,rfl,rfl⟩:=h3
     obtain⟨sz,rfl⟩:=Int.eq_ofNat_of_zero_le (show 0<=ob by omega)
     obtain⟨bu,rfl⟩:=Int.eq_ofNat_of_zero_le (show 0<=obu by omega)
     exact⟨0,twoP sz bu opl l,fun _=>.inr (.inl ⟨rfl,sz,bu,opl,by omega,by omega,by omega,rfl,rfl⟩),fun W h=>(APack2_any _ v l 0 _ W (hs.fr h) (fun W' h'=>T2Pack_any sz bu opl (by omega) (by omega) (by omega) (by omega) v l W' (hs.fr (h.trans h')) sm (ht.fr (h.trans h')))).mono fun e w' ⟨u,a,b,c⟩=>⟨u,a,b.see,c⟩⟩
   · have ho':opt2g o=false:=by simpa using ho
     exact⟨9,[],fun h=>absurd h (by decide),fun W h=>(APack2_any _ v l 9 [] W (hs.fr h) (fun W' h'=>(T2Pack_no o ho' v l W' (hs.fr (h.trans h'))).mono fun e w' ⟨a,c⟩=>⟨_,a,Ow.nil,c⟩)).mono fun e w' ⟨u,a,b,c⟩=>⟨u,a,b.see,c⟩⟩
 by_cases v3:ver=3
 · subst v3
   by_cases ho:opt3 o=true
   · have h3:=(opt3_iff o).1 ho
     have hm:smallB o=true:=by
      unfold lightB at hg
      rw [ho]at hg
      simp only [Bool.and_eq_true]at hg
      simpa using hg.2
     obtain⟨ob,opl,obu,od,op,oc⟩:=o
     simp only [smallB,Bool.and_eq_true,decide_eq_true_eq]at hm
     simp only at h3
     obtain⟨m1,m2,m3,m4,m5⟩:=hm
     obtain⟨k1,k2,k3,k4,k5,k6,k7,k8,k9,k10⟩:=h3
     obtain⟨sz,rfl⟩:=Int.eq_ofNat_of_zero_le (show 0<=ob by omega)
     obtain⟨bu,rfl⟩:=Int.eq_ofNat_of_zero_le (show 0<=obu by omega)
     obtain⟨d,rfl⟩:=Int.eq_ofNat_of_zero_le (show 0<=od by omega)
     obtain⟨q,rfl⟩:=Int.eq_ofNat_of_zero_le k5
     obtain⟨c,rfl⟩:=Int.eq_ofNat_of_zero_le (show 0<=oc by omega)
     exact⟨0,archL sz opl bu d q c (bodyL sz bu opl l),fun _=>.inr (.inr ⟨rfl,sz,bu,d,q,c,opl,by omega,by omega,by omega,by omega,by omega,by omega,by omega,rfl,rfl⟩),fun W h=>(APack3_any _ v l 0 _ W (hs.fr h) (fun W' h'=>Pack_any sz bu d q c opl (by omega) (by omega) (by omega) (by omega) (by omega) (by omega) (by omega) (by omega) (by omega) (by omega) v l W' (hs.fr (h.trans h')) sm (ht.fr (h.trans h')))).mono fun e w' ⟨u,a,b,c⟩=>⟨u,a,b.see,c⟩⟩
   · have ho':opt3 o=false:=by simpa using ho
     exact⟨9,[],fun h=>absurd h (by decide),fun W h=>(APack3_any _ v l 9 [] W (hs.fr h) (fun W' h'=>(Pack_no o ho' v l W' (hs.fr (h.trans h'))).mono fun e w' ⟨a,c⟩=>⟨_,a,Ow.nil,c⟩)).mono fun e w' ⟨u,a,b,c⟩=>⟨u,a,b.see,c⟩⟩
 exact⟨4,[],fun h=>absurd h (by decide),fun W h=>(APack_no ver o v l W (hs.fr h) v1 v2 v3).mono fun e w' ⟨a,c⟩=>⟨_,a,See.nil,c⟩⟩
theorem two_box {w W : World} (o p : Opt) (h : Fr ((w.alloc (.cells #[.int .i64 o.b, .bool o.plain, .int .i64 o.bu, .int .i64 o.d, .int .i64 o.p, .int .i64 o.c] 23)).alloc (.cells #[.int .i64 p.b, .bool p.plain, .int .i64 p.bu, .int .i64 p.d, .int .i64 p.p, .int .i64 p.c] 23)) W) :
    (W.cell? ⟨w.heap.size,0,none⟩=some (.int .i64 o.b)/\W.cell? ⟨w.heap.size,1,none⟩=some (.bool o.plain)/\W.cell? ⟨w.heap.size,2,none⟩=some (.int .i64 o.bu)/\W.cell? ⟨w.heap.size,3,none⟩=some (.int .i64 o.d)/\W.cell? ⟨w.heap.size,4,none⟩=some (.int .i64 o.p)/\W.cell? ⟨w.heap.size,5,none⟩=some (.int .i64 o.c)) /\
    (W.cell? ⟨w.heap.size+1,0,none⟩=some (.int .i64 p.b)/\W.cell? ⟨w.heap.size+1,1,none⟩=some (.bool p.plain)/\W.cell? ⟨w.heap.size+1,2,none⟩=some (.int .i64 p.bu)/\W.cell? ⟨w.heap.size+1,3,none⟩=some (.int .i64 p.d)/\W.cell? ⟨w.heap.size+1,4,none⟩=some (.int .i64 p.p)/\W.cell? ⟨w.heap.size+1,5,none⟩=some (.int .i64 p.c)):=by
  have h1:=six_box (w:=w) o (((Fr.refl _).alloc _).trans h)
  have h2:=six_box (w:=w.alloc (.cells #[.int .i64 o.b,.bool o.plain,.int .i64 o.bu,.int .i64 o.d,.int .i64 o.p,.int .i64 o.c] 23)) p h
  rw [size_alloc]at h2
  exact⟨h1,h2⟩
theorem ArchOne_any(v u:Int)(o p:Opt)(lv mv:Value)(l m:List Rec)(w:World)(ht:Crc w)(hs:See w eR lv l)(hm:See w eR mv m) :
  Calls Tryz.prog 3 #[.int .i64 v,.int .i64 u,optV o,optV p,lv,mv] w fun e w'=>e=.returned (.bool true)/\Fr w w':=by
 have HA:=hid (fun W (h:Fr w W)=>alive25 W (ht.fr h))
 have HG1:=hid (fun W (h:Fr w W)=>Light_any v o lv l W (hs.fr h))
 have HG2:=hid (fun W (h:Fr w W)=>Light_any u p mv m W (hm.fr h))
 have HS:=hid (fun W (h:Fr w W) (hl:l.length<=1000000000)=>Same_any lv mv l m W (hs.fr h) (hm.fr h) hl)
 have HK:=hid (fun(h1:lightB v o l=true) (h2:lightB u p m=true) A B (hA:Arc v o l A) (hB:Arc u p m B)=>arc_inj (lightS h1) (lightS h2) hA hB)
 have HP1:=hid (fun h=>packArc v o lv l w hs ht h)
 have HP2:=hid (fun h=>packArc u p mv m w hm ht h)
 have HL1:=hid (fun(h:lightB v o l=true)=>(lightS h).len)
 obtain⟨a0,cap0,rfl,_⟩:=hs.shape
 obtain⟨a1,cap1,rfl,_⟩:=hm.shape
 have hfa:Fr w ((w.alloc (.cells #[.int .i64 o.b,.bool o.plain,.int .i64 o.bu,.int .i64 o.d,.int .i64 o.p,.int .i64 o.c] 23)).alloc (.cells #[.int .i64 p.b,.bool p.plain,.int .i64 p.bu,.int .i64 p.d,.int .i64 p.p,.int .i64 p.c] 23)):=((Fr.refl w).alloc _).alloc _
 have H2:=hid (fun W h=>two_box (w:=w) (W:=W) o p h)
 clear hs hm ht
 generalize lightB v o l=g1 at *
 generalize lightB u p m=g2 at *
 obtain⟨ob,opl,obu,od,op,oc⟩:=o
 obtain⟨pb,ppl,pbu,pd,pp,pc⟩:=p
 simp only at H2
 go_enter Tryz.func3, Tryz.ntmps3
 go_wp2_with fail
 refine(HA.out _ hfa).mono ?_
 rintro e w1 ⟨rfl,hf1⟩
 obtain⟨⟨c0,c1,c2,c3,c4,c5⟩,d0,d1,d2,d3,d4,d5⟩:=H2.out _ hf1
 go_wp2_with fail
 refine(HG1.out _ (hfa.trans hf1)).mono ?_
 rintro e w2 ⟨rfl,hf2⟩
 have g12:=hf1.trans hf2
 clear c0 c1 c2 c3 c4 c5 d0 d1 d2 d3 d4 d5
 obtain⟨⟨c0,c1,c2,c3,c4,c5⟩,d0,d1,d2,d3,d4,d5⟩:=H2.out _ g12
 cases g1 with
 | false=>
  clear HK HP1 HP2 HL1
  go_wp2_with fail
  go_ret
  exact⟨rfl,hfa.trans g12⟩
 | true=>
  cases g2 with
  | false=>
   clear HK HP1 HP2 HL1
   go_wp2_with (first | (refine(HG2.out _ (hfa.trans g12)).mono ?_;rintro e w3 ⟨rfl,hf3⟩))
   go_ret
   exact⟨rfl,hfa.trans (g12.trans hf3)⟩
  | true=>
   obtain⟨E,A,hE,hPa⟩:=HP1.out rfl
   obtain⟨F,B,hF,hPb⟩:=HP2.out rfl
   have HPa:=hid hPa
   have HPb:=hid hPb
   have HE:=hid hE
   have HF:=hid hF
   have HLl:=hid (HL1.out rfl)
   have HK1:=hid (fun A B hA hB=>HK.out rfl rfl A B hA hB)
   clear HP1 HP2 hE hF hPa hPb HL1 HK HG1 HA
   go_wp2_with (first | (refine(HG2.out _ (hfa.trans g12)).mono ?_;rintro e w3 ⟨rfl,hf3⟩;obtain⟨⟨c0,c1,c2,c3,c4,c5⟩,d0,d1,d2,d3,d4,d5⟩:=H2.out _ (g12.trans hf3)))
   have g13:=g12.trans hf3
   refine(HPa.out _ (hfa.trans g13)).mono ?_
   rintro e w4 ⟨u4,rfl,hA4,hf4⟩
   have g14:=g13.trans hf4
   obtain⟨p4,z4,rfl,_⟩:=hA4.shape
   clear c0 c1 c2 c3 c4 c5 d0 d1 d2 d3 d4 d5
   obtain⟨⟨c0,c1,c2,c3,c4,c5⟩,d0,d1,d2,d3,d4,d5⟩:=H2.out _ g14
   go_wp2_with fail
   refine(HPb.out _ (hfa.trans g14)).mono ?_
   rintro e w5 ⟨u5,rfl,hB5,hf5⟩
   have g15:=g14.trans hf5
   have HS1:=hid (RSame1_any _ _ A B w5 (hA4.fr hf5) hB5)
   obtain⟨p5,z5,rfl,_⟩:=hB5.shape
   clear c0 c1 c2 c3 c4 c5 d0 d1 d2 d3 d4 d5
   obtain⟨⟨c0,c1,c2,c3,c4,c5⟩,d0,d1,d2,d3,d4,d5⟩:=H2.out _ g15
   clear HPa HPb hA4 hB5 hf4 hf5
   by_cases hE0:E=0
   · subst hE0
     by_cases hF0:F=0
     · subst hF0
       have HAB:=hid (HK1.out A B (HE.out rfl) (HF.out rfl))
       have HS2:=hid (fun W (h:Fr w W)=>HS.out W h (by have:=HLl.out;omega))
       clear HE HF HK1 HS HLl
       by_cases hvu:v=u
       · subst hvu
         have hcs:(ob=pb/\opl=ppl/\obu=pbu/\od=pd/\op=pp/\oc=pc)\/(¬ob=pb\/¬opl=ppl\/¬obu=pbu\/¬od=pd\/¬op=pp\/¬oc=pc):=by
          by_cases h0:ob=pb <;> by_cases h1:opl=ppl <;> by_cases h2:obu=pbu <;> by_cases h3:od=pd <;> by_cases h4:op=pp <;> by_cases h5:oc=pc <;> simp [h0,h1,h2,h3,h4,h5]
         rcases hcs with⟨rfl,rfl,rfl,rfl,rfl,rfl⟩ | hd
         · have hab:Hid (decide (A=B)=decide (l=m)):=by
             show _=_
             by_cases hlm:l=m
             · rw [decide_eq_true hlm,decide_eq_true (HAB.out.2 ⟨rfl,rfl,hlm⟩)]
             · rw [decide_eq_false hlm,decide_eq_false fun e=>hlm (HAB.out.1 e).2.2]
           have HS3:=hid (HS2.out w5 (hfa.trans g15))
           rw [hab.out]at HS1
           clear HAB hab HS2
           generalize decide (l=m)=dl at *
           go_wp2_with fail
           refine(HS1.out).mono ?_
           rintro e w6 ⟨rfl,rfl⟩
           cases dl with
           | true=>
            go_wp2_with (first | (refine(HS3.out).mono ?_;rintro e w7 ⟨rfl,hf7⟩))
            go_ret
            exact⟨rfl,hfa.trans (g15.trans hf7)⟩
           | false=>
            go_wp2_with (first | (refine(HS3.out).mono ?_;rintro e w7 ⟨rfl,hf7⟩))
            go_ret
            exact⟨rfl,hfa.trans (g15.trans hf7)⟩
         · have hab:Hid (decide (A=B)=false):=decide_eq_false fun e=>by
             have h2:=(HAB.out.1 e).2.1
             simp only [Opt.mk.injEq]at h2
             obtain⟨k0,k1,k2,k3,k4,k5⟩:=h2
             rcases hd with h | h | h | h | h | h
             · exact h k0
             · exact h k1
             · exact h k2
             · exact h k3
             · exact h k4
             · exact h k5
           rw [hab.out]at HS1
           clear HAB hab HS2
           rcases hd with h | h | h | h | h | h <;>
            (go_wp2_with fail
             refine (HS1.out).mono ?_
             rintro e w6 ⟨rfl, rfl⟩
             go_wp2_with fail
             all_goals go_ret
             all_goals exact ⟨rfl, hfa.trans g15⟩)
       · have hab:Hid (decide (A=B)=false):=decide_eq_false fun e=>hvu (HAB.out.1 e).1
         rw [hab.out]at HS1
         have hvu':decide (v=u)=false:=decide_eq_false hvu
         clear HAB
         go_wp2_with fail
         refine(HS1.out).mono ?_
         rintro e w6 ⟨rfl,rfl⟩
         go_wp2_with fail
         go_ret
         exact⟨rfl,hfa.trans g15⟩
     · clear HK1 HE HF HS HS1 HLl
       go_wp2_with fail
       go_ret
       exact⟨rfl,hfa.trans g15⟩
   · clear HK1 HE HF HS HS1 HLl
     go_wp2_with fail
     go_ret
     exact⟨rfl,hfa.trans g15⟩
end Go.Proofs.YtdagmoonnbnceaaGreatDoor
