/- Parts of the proof of ThreeOpens: Op1. -/
import Derived.Test.YtijghcbpfcjjnaaGreatDoorM44
import Derived.Test.YtijghcbpfcjjnaaGreatDoorM45
set_option linter.unusedVariables false
set_option linter.unusedSectionVars false
set_option linter.unusedSimpArgs false
set_option maxHeartbeats 8000000
namespace Go.Proofs.YtijghcbpfcjjnaaGreatDoor
open Go.RowKit Go.Fk
theorem listsGo_ok(bound:Nat)(b:List UInt8)(n:Nat):∀ (a:Nat) (ls:List (List Nat)),(∀ x∈ls,x.length<=bound)->(listsGo bound b n a ls).1.length<=ls.length+n/\∀ x∈(listsGo bound b n a ls).1,x.length<=bound:=by
 induction n with
 | zero=>
  intro a ls h
  rw [listsGo]
  split
  · exact⟨Nat.zero_le _,fun x hx=>(List.not_mem_nil hx).elim⟩
  · exact⟨Nat.le_refl _,h⟩
 | succ n ih=>
  intro a ls h
  rw [listsGo]
  split
  · rename_i h0
    split
    · exact⟨Nat.zero_le _,fun x hx=>(List.not_mem_nil hx).elim⟩
    · have h1:=(efR_ok bound (b.drop a) h0).2.2.1
      have h2 := ih (a + (efR bound (b.drop a)).2.1) (ls ++ [(efR bound (b.drop a)).1]) (fun x hx => by
       rcases List.mem_append.1 hx with h | h'
       · exact (by assumption : ∀ x ∈ ls, x.length ≤ bound) x h
       · rw [List.mem_singleton.1 h']; exact h1)
      rw [List.length_append]at h2
      simp only [List.length_cons,List.length_nil]at h2
      exact⟨by omega,h2.2⟩
  · exact⟨Nat.zero_le _,fun x hx=>(List.not_mem_nil hx).elim⟩
theorem postR_room(size bound:Nat)(b:List UInt8)(h1:1<=size)(h2:size<=64)(hb:bound<=20000):(postR size bound b).1.length<=100000000/\(postR size bound b).2.1.length<=100000000/\∀ x∈(postR size bound b).2.1,x.length<=100000000:=by
 have hd:=dictR_len size b h1 h2
 obtain⟨k1,k2⟩:=listsGo_ok bound (b.drop (dictR size b).2.1) (dictR size b).1.length 0 [] (fun x hx=>(List.not_mem_nil hx).elim)
 simp only [List.length_nil,Nat.zero_add]at k1
 unfold postR
 split
 · split
   · exact⟨hd,Nat.le_trans k1 hd,fun x hx=>by have:=k2 x hx;omega⟩
   · exact⟨Nat.zero_le _,Nat.zero_le _,fun x hx=>(List.not_mem_nil hx).elim⟩
 · exact⟨Nat.zero_le _,Nat.zero_le _,fun x hx=>(List.not_mem_nil hx).elim⟩
theorem opB_f(bu:Nat)(x:List UInt8):(opB bu x).counts=(dirG (bdDir x)).1/\(opB bu x).terms=(postR bu (dirN (bdDir x)).1 (cutB (bdIdx x))).1/\(opB bu x).lists=(postR bu (dirN (bdDir x)).1 (cutB (bdIdx x))).2.1:=by refine⟨?_,?_,?_⟩ <;> simp only [opB]
theorem openB_room(b:List UInt8)(h:openE b=0):(openB b).counts.length<=1000000/\(openB b).terms.length<=100000000/\(openB b).lists.length<=100000000/\∀ x∈(openB b).lists,x.length<=100000000:=by
 have hE:openE b=if(bodyR b).1=0 then opEE (optH (headOf b)) (bodyR b).2.1 else(bodyR b).1:=rfl
 have hm:(bodyR b).1=0:=Classical.byContradiction fun e=>by rw [if_neg e,h]at hE;exact e hE.symm
 rw [if_pos hm,h]at hE
 have ho:opt2 (optH (headOf b))=true:=by
  cases hh:opt2 (optH (headOf b))
  · unfold opEE at hE;rw [hh]at hE;cases hE
  · rfl
 obtain⟨_,_,k1,k2⟩:=(opt2_iff _).1 ho
 have k1:(1:Int)<=(hBu (headOf b):Int):=k1
 have k2:(hBu (headOf b):Int)<=64:=k2
 have k3:1<=hBu (headOf b):=by omega
 have k4:hBu (headOf b)<=64:=by omega
 unfold openB
 clear hE hm ho k1 k2 h
 generalize hBu (headOf b)=bu at *
 generalize (bodyR b).2.1=x at *
 obtain⟨e1,e2,e3⟩:=opB_f bu x
 rw [e1,e2,e3]
 have hr:=dir_room (bdDir x)
 obtain⟨p1,p2,p3⟩:=postR_room bu (dirN (bdDir x)).1 (cutB (bdIdx x)) k3 k4 hr.1
 exact⟨Nat.le_trans hr.2.2.1 (by omega),p1,p2,p3⟩
set_option maxRecDepth 100000
theorem ThreeOpens_any(v:Value)(b:List UInt8)(w:World)(ht:Crc w)(hs:See w eB v b) :
  Calls Tryz.prog 3 #[v] w fun e w'=>e=.returned (.bool true)/\Fr w w':=by
 have HA:=hid (alive0_any w ht)
 obtain⟨a0,cap,hv,hc1,hc2,_⟩:=hs.shape
 subst hv
 unfold maxLen at hc2
 by_cases hl:1500<b.length
 · have j1:(1500:Int)<b.length:=by omega
   clear hs ht
   go_enter Tryz.func3, Tryz.ntmps3
   go_wp2_with fail
   refine HA.out.mono ?_
   rintro e w1 ⟨rfl,hf1⟩
   go_wp2_with fail
   go_ret
   exact⟨rfl,hf1⟩
 · have j1:¬(1500:Int)<b.length:=by omega
   have HT:=hid (fun W (h:Fr w W)=>TOpen_any _ b W (hs.fr h) (by omega) (ht.fr h))
   have HR:=hid (fun W (h:Fr w W)=>R24Open_any _ b W (hs.fr h) (by omega))
   have HRm:=hid (openB_room b)
   clear hs ht hl
   generalize openE b=er at *
   generalize openK b=kk at *
   obtain⟨oo,hoo⟩:∃ oo,oo=openO b:=⟨_,rfl⟩
   rw [<- hoo]at HT HR
   clear hoo
   obtain⟨ob,op,ou,od,oq,oc⟩:=oo
   generalize openB b=OB at *
   have hinf:(Tryz.prog.info? 38).map (·.size)=some rbZ.size:=by kernel_rfl
   go_enter Tryz.func3, Tryz.ntmps3
   go_wp2_with fail
   refine HA.out.mono ?_
   rintro e w1 ⟨rfl,hf1⟩
   have HT1:=hid (HT.out w1 hf1)
   clear HA HT
   go_wp2_with fail
   refine HT1.out.mono ?_
   rintro e w2 ⟨pv,rfl,hok2,hno2,hf2⟩
   have hf02:=hf1.trans hf2
   have hfa:Fr w2 (w2.alloc (.cells #[.int .i64 ob,.bool op,.int .i64 ou,.int .i64 od,.int .i64 oq,.int .i64 oc] 25)):=(Fr.refl w2).alloc _
   have hP3:=heap_new w2 (.cells #[.int .i64 ob,.bool op,.int .i64 ou,.int .i64 od,.int .i64 oq,.int .i64 oc] 25) w2.heap.size rfl
   have HR1:=hid (HR.out _ (hf02.trans hfa))
   have hf03:=hf02.trans hfa
   clear HT1 HR hf1 hf02
   go_upto_region 6 with fail
   obtain⟨P3,hP3s⟩:∃ P3,P3=w2.heap.size:=⟨_,rfl⟩
   rw [<- hP3s]at hP3 ⊢
   have HPs:=hid hP3s
   clear hP3s
   generalize w2.alloc (.cells #[.int .i64 ob,.bool op,.int .i64 ou,.int .i64 od,.int .i64 oq,.int .i64 oc] 25)=w3 at *
   go_wp2_with fail
   refine HR1.out.mono ?_
   rintro e w4 ⟨cs,rfl,hok4,hno4,hf4⟩
   have hP4:=hf4.heap hP3
   have hf04:=hf03.trans hf4
   have hf24:=hfa.trans hf4
   clear HR1 hP3 hf03
   by_cases he:er=0
   · obtain⟨r1,r2,r3,r4⟩:=HRm.out he
     obtain⟨q,rfl,hB⟩:=hok2 he
     obtain⟨cv,xv,yv,f1,t1,l1,f2,f3,t2,t3,l2,l3,rfl,k1,k2,qs,k3,k4⟩:=(hok4 he).h
     obtain⟨⟨bv,sv,btv,blv,bxv,byv,bfv,bav,g0,g1,g2,g3,g4,g5,⟨qs2,g6,g7⟩,_⟩,g10⟩:=hB
     subst he
     obtain⟨c1,d1,hx⟩:=k1.shape'
     subst hx
     obtain⟨c4,d4,hx⟩:=k2.shape'
     subst hx
     obtain⟨c5,d5,hx⟩:=k3.shape'
     subst hx
     clear hok2 hno2 hok4 hno4 HRm
     have hfb:Fr w4 ((w4.alloc (.cells #[.int .i64 ob,.bool op,.int .i64 ou,.int .i64 od,.int .i64 oq,.int .i64 oc] 25)).alloc (.cells #[.slice c1 OB.counts.length d1,.slice f1 f2 f3,.slice t1 t2 t3,.slice l1 l2 l3,.slice c4 OB.terms.length d4,.slice c5 qs.length d5] 38)):=((Fr.refl w4).alloc _).alloc _
     have hA5:=((Fr.refl (w4.alloc (.cells #[.int .i64 ob,.bool op,.int .i64 ou,.int .i64 od,.int .i64 oq,.int .i64 oc] 25))).alloc (.cells #[.slice c1 OB.counts.length d1,.slice f1 f2 f3,.slice t1 t2 t3,.slice l1 l2 l3,.slice c4 OB.terms.length d4,.slice c5 qs.length d5] 38)).heap (heap_new w4 (.cells #[.int .i64 ob,.bool op,.int .i64 ou,.int .i64 od,.int .i64 oq,.int .i64 oc] 25) w4.heap.size rfl)
     have hB5:=heap_new (w4.alloc (.cells #[.int .i64 ob,.bool op,.int .i64 ou,.int .i64 od,.int .i64 oq,.int .i64 oc] 25)) (.cells #[.slice c1 OB.counts.length d1,.slice f1 f2 f3,.slice t1 t2 t3,.slice l1 l2 l3,.slice c4 OB.terms.length d4,.slice c5 qs.length d5] 38) (w4.heap.size+1) (by simp)
     have hP5:=hfb.heap hP4
     have hf05:=hf04.trans hfb
     have hf25:=hf24.trans hfb
     go_upto_region 7 with fail
     obtain⟨P7,hP7⟩:∃ P7,P7=w4.heap.size:=⟨_,rfl⟩
     rw [<- hP7]at hA5 hB5 ⊢
     have HP7:=hid hP7
     clear hP7
     have hf45:=hfb
     generalize (w4.alloc (.cells #[.int .i64 ob,.bool op,.int .i64 ou,.int .i64 od,.int .i64 oq,.int .i64 oc] 25)).alloc (.cells #[.slice c1 OB.counts.length d1,.slice f1 f2 f3,.slice t1 t2 t3,.slice l1 l2 l3,.slice c4 OB.terms.length d4,.slice c5 qs.length d5] 38)=w5 at *
     obtain⟨x0,x1,x2,x3,x4,x5⟩:=cells6 hP5
     obtain⟨y0,y1,y2,y3,y4,y5⟩:=cells6 hA5
     obtain⟨z0,_,_,_,z4,z5⟩:=cells6 hB5
     have HSs:=hid (fun W (h:Fr w5 W)=>(show W.cell? ⟨P3,0,none⟩=some (.int .i64 ob)/\W.cell? ⟨P3,1,none⟩=some (.bool op)/\W.cell? ⟨P3,2,none⟩=some (.int .i64 ou)/\W.cell? ⟨P3,3,none⟩=some (.int .i64 od)/\W.cell? ⟨P3,4,none⟩=some (.int .i64 oq)/\W.cell? ⟨P3,5,none⟩=some (.int .i64 oc)/\W.cell? ⟨P7,0,none⟩=some (.int .i64 ob)/\W.cell? ⟨P7,1,none⟩=some (.bool op)/\W.cell? ⟨P7,2,none⟩=some (.int .i64 ou)/\W.cell? ⟨P7,3,none⟩=some (.int .i64 od)/\W.cell? ⟨P7,4,none⟩=some (.int .i64 oq)/\W.cell? ⟨P7,5,none⟩=some (.int .i64 oc)/\W.cell? ⟨P7+1,0,none⟩=some (.slice c1 OB.counts.length d1)/\W.cell? ⟨P7+1,4,none⟩=some (.slice c4 OB.terms.length d4)/\W.cell? ⟨P7+1,5,none⟩=some (.slice c5 qs.length d5)from⟨h.cell x0,h.cell x1,h.cell x2,h.cell x3,h.cell x4,h.cell x5,h.cell y0,h.cell y1,h.cell y2,h.cell y3,h.cell y4,h.cell y5,h.cell z0,h.cell z4,h.cell z5⟩))
     have HBl:=hid (fun W (h:Fr w5 W)=>BdBlocks_any q OB.counts W _ _ _ _ _ _ _ _ _ _ ((hf25.trans h).heap g0) (g1.see.fr (hf25.trans h)) r1)
     have HIx:=hid (fun W (h:Fr w5 W)=>BdIndex_any q OB.terms OB.lists qs2 _ W _ _ _ _ _ _ _ _ _ _ ((hf25.trans h).heap g0) (g5.see.fr (hf25.trans h)) (g6.see.fr (hf25.trans h)) (g7.fr (hf25.trans h)) r2 (by rw [g7.1];exact r3) r4)
     have HSj:=hid (fun u W (h:Fr w5 W) (h2:See W eJ u OB.counts)=>RSameJ_eq u (.slice c1 OB.counts.length d1) OB.counts W h2 (k1.see.fr (hf45.trans h)) (by omega))
     have HSi:=hid (fun tu lu qs3 base W (h:Fr w5 W) (h2:See W eS tu OB.terms) (h3:See W eHi lu qs3) (h4:Owns W base eJ qs3 OB.lists)=>RSameI_eq tu lu (.slice c4 OB.terms.length d4) (.slice c5 qs.length d5) OB.terms OB.lists qs3 qs base _ W h2 h3 h4 (k2.see.fr (hf45.trans h)) (k3.see.fr (hf45.trans h)) (k4.fr (hf45.trans h)) r2 (by rw [h4.1];exact r3) r4)
     clear g0 g1 g2 g3 g4 g5 g6 g7 k1 k2 k3 k4 hP4 hP5 hA5 hB5 hf45 hf25 hf24 hf04 r1 r2 r3 r4 hfa
     go_region_held3 (fun W => W.cell? ⟨P3, 0, none⟩ = some (.int .i64 ob) ∧ W.cell? ⟨P3, 1, none⟩ = some (.bool op) ∧ W.cell? ⟨P3, 2, none⟩ = some (.int .i64 ou) ∧ W.cell? ⟨P3, 3, none⟩ = some (.int .i64 od) ∧ W.cell? ⟨P3, 4, none⟩ = some (.int .i64 oq) ∧ W.cell? ⟨P3, 5, none⟩ = some (.int .i64 oc) ∧ W.cell? ⟨P7, 0, none⟩ = some (.int .i64 ob) ∧ W.cell? ⟨P7, 1, none⟩ = some (.bool op) ∧ W.cell? ⟨P7, 2, none⟩ = some (.int .i64 ou) ∧ W.cell? ⟨P7, 3, none⟩ = some (.int .i64 od) ∧ W.cell? ⟨P7, 4, none⟩ = some (.int .i64 oq) ∧ W.cell? ⟨P7, 5, none⟩ = some (.int .i64 oc) ∧ W.cell? ⟨P7 + 1, 0, none⟩ = some (.slice c1 OB.counts.length d1) ∧ W.cell? ⟨P7 + 1, 4, none⟩ = some (.slice c4 OB.terms.length d4) ∧ W.cell? ⟨P7 + 1, 5, none⟩ = some (.slice c5 qs.length d5))
      (first | exact HSs.out _ hF6 | exact HSs.out _ hF7 | exact HSs.out _ hF8 | exact HSs.out _ hF9 | go_keep)
      ((first
       | (go_at_call 8; refine (HBl.out _ (Fr.refl w5).drew).mono ?_; rintro e w6 ⟨bu, rfl, hU, hf6⟩; have hF6 : Fr w5 w6 := (Fr.refl w5).drew.trans hf6; obtain ⟨ua, uc, hbu⟩ := hU.shape'; subst hbu)
       | (go_at_call 7; refine (HSj.out _ _ hF6 hU.see).mono ?_; rintro e w7 ⟨rfl, hf7⟩; have hF7 : Fr w5 w7 := hF6.trans hf7)
       | (go_at_call 10; refine (HIx.out _ hF7).mono ?_; rintro e w8 ⟨tu, lu, rfl, hTu, ⟨qs3, hLu, hOu⟩, hf8⟩; have hF8 : Fr w5 w8 := hF7.trans hf8; obtain ⟨ta, tc, htu⟩ := hTu.shape'; subst htu; obtain ⟨la, lc, hlu⟩ := hLu.shape'; subst hlu)
       | (go_at_call 9; refine (HSi.out _ _ _ _ _ hF8 hTu.see hLu.see hOu).mono ?_; rintro e w9 ⟨rfl, hf9⟩; have hF9 : Fr w5 w9 := hF8.trans hf9)))
     go_wp2_with fail
     go_ret
     exact⟨rfl,hf05.trans hF9⟩
   · obtain rfl:=hno2 he
     obtain rfl:=hno4 he
     have i2:¬(er:Int)=0:=by omega
     clear hok2 hno2 hok4 hno4 HRm he
     have hfb:Fr w4 ((w4.alloc (.cells #[.int .i64 ob,.bool op,.int .i64 ou,.int .i64 od,.int .i64 oq,.int .i64 oc] 25)).alloc (.cells rbZ 38)):=((Fr.refl w4).alloc _).alloc _
     have hA5:=((Fr.refl (w4.alloc (.cells #[.int .i64 ob,.bool op,.int .i64 ou,.int .i64 od,.int .i64 oq,.int .i64 oc] 25))).alloc (.cells rbZ 38)).heap (heap_new w4 (.cells #[.int .i64 ob,.bool op,.int .i64 ou,.int .i64 od,.int .i64 oq,.int .i64 oc] 25) w4.heap.size rfl)
     have hB5:=heap_new (w4.alloc (.cells #[.int .i64 ob,.bool op,.int .i64 ou,.int .i64 od,.int .i64 oq,.int .i64 oc] 25)) (.cells rbZ 38) (w4.heap.size+1) (by simp)
     have hP5:=hfb.heap hP4
     have hf05:=hf04.trans hfb
     have hf25:=hf24.trans hfb
     go_upto_region 7 with fail
     obtain⟨P7,hP7⟩:∃ P7,P7=w4.heap.size:=⟨_,rfl⟩
     rw [<- hP7]at hA5 hB5 ⊢
     have HP7:=hid hP7
     clear hP7
     have hf45:=hfb
     generalize (w4.alloc (.cells #[.int .i64 ob,.bool op,.int .i64 ou,.int .i64 od,.int .i64 oq,.int .i64 oc] 25)).alloc (.cells rbZ 38)=w5 at *
     obtain⟨x0,x1,x2,x3,x4,x5⟩:=cells6 hP5
     obtain⟨y0,y1,y2,y3,y4,y5⟩:=cells6 hA5
     obtain⟨z0,_,_,_,z4,z5⟩:=cells6 hB5
     have HSs:=hid (fun W (h:Fr w5 W)=>(show W.cell? ⟨P3,0,none⟩=some (.int .i64 ob)/\W.cell? ⟨P3,1,none⟩=some (.bool op)/\W.cell? ⟨P3,2,none⟩=some (.int .i64 ou)/\W.cell? ⟨P3,3,none⟩=some (.int .i64 od)/\W.cell? ⟨P3,4,none⟩=some (.int .i64 oq)/\W.cell? ⟨P3,5,none⟩=some (.int .i64 oc)/\W.cell? ⟨P7,0,none⟩=some (.int .i64 ob)/\W.cell? ⟨P7,1,none⟩=some (.bool op)/\W.cell? ⟨P7,2,none⟩=some (.int .i64 ou)/\W.cell? ⟨P7,3,none⟩=some (.int .i64 od)/\W.cell? ⟨P7,4,none⟩=some (.int .i64 oq)/\W.cell? ⟨P7,5,none⟩=some (.int .i64 oc)/\W.cell? ⟨P7+1,0,none⟩=some (.slice none 0 0)/\W.cell? ⟨P7+1,4,none⟩=some (.slice none 0 0)/\W.cell? ⟨P7+1,5,none⟩=some (.slice none 0 0)from⟨h.cell x0,h.cell x1,h.cell x2,h.cell x3,h.cell x4,h.cell x5,h.cell y0,h.cell y1,h.cell y2,h.cell y3,h.cell y4,h.cell y5,h.cell z0,h.cell z4,h.cell z5⟩))
     have hnJ:∀ W,See W eJ (.slice none 0 0) []:=fun W=>(show Ow W 0 eJ (.slice none 0 0) []from Ow.nil).see
     have hnS:∀ W,See W eS (.slice none 0 0) []:=fun W=>(show Ow W 0 eS (.slice none 0 0) []from Ow.nil).see
     have hnH:∀ W,See W eHi (.slice none 0 0) []:=fun W=>(show Ow W 0 eHi (.slice none 0 0) []from Ow.nil).see
     have HSj:=hid (fun W=>RSameJ_eq (.slice none 0 0) (.slice none 0 0) [] W (hnJ W) (hnJ W) (by decide))
     have HSi:=hid (fun W=>RSameI_eq (.slice none 0 0) (.slice none 0 0) (.slice none 0 0) (.slice none 0 0) [] [] [] [] 0 0 W (hnS W) (hnH W) ⟨rfl,fun t h=>by simp at h⟩ (hnS W) (hnH W) ⟨rfl,fun t h=>by simp at h⟩ (by decide) (by decide) (fun x hx=>(List.not_mem_nil hx).elim))
     have i3:((er:Int) != 0)=true:=bne_iff_ne.2 i2
     clear hnJ hnS hnH
     clear hP4 hP5 hA5 hB5 hf45 hf25 hf24 hf04 hfa
     go_region_held3 (fun W => W.cell? ⟨P3, 0, none⟩ = some (.int .i64 ob) ∧ W.cell? ⟨P3, 1, none⟩ = some (.bool op) ∧ W.cell? ⟨P3, 2, none⟩ = some (.int .i64 ou) ∧ W.cell? ⟨P3, 3, none⟩ = some (.int .i64 od) ∧ W.cell? ⟨P3, 4, none⟩ = some (.int .i64 oq) ∧ W.cell? ⟨P3, 5, none⟩ = some (.int .i64 oc) ∧ W.cell? ⟨P7, 0, none⟩ = some (.int .i64 ob) ∧ W.cell? ⟨P7, 1, none⟩ = some (.bool op) ∧ W.cell? ⟨P7, 2, none⟩ = some (.int .i64 ou) ∧ W.cell? ⟨P7, 3, none⟩ = some (.int .i64 od) ∧ W.cell? ⟨P7, 4, none⟩ = some (.int .i64 oq) ∧ W.cell? ⟨P7, 5, none⟩ = some (.int .i64 oc) ∧ W.cell? ⟨P7 + 1, 0, none⟩ = some (.slice none 0 0) ∧ W.cell? ⟨P7 + 1, 4, none⟩ = some (.slice none 0 0) ∧ W.cell? ⟨P7 + 1, 5, none⟩ = some (.slice none 0 0))
      (first | exact HSs.out _ hF6 | exact HSs.out _ hF7 | exact HSs.out _ hF8 | exact HSs.out _ hF9 | go_keep)
      ((first
       | (go_at_call 8; refine (BdBlocks_nil _).mono ?_; rintro e w6 ⟨rfl, rfl⟩; have hF6 : Fr w5 w5.drew := (Fr.refl w5).drew)
       | (go_at_call 7; refine (HSj.out _).mono ?_; rintro e w7 ⟨rfl, hf7⟩; have hF7 : Fr w5 w7 := hF6.trans hf7)
       | (go_at_call 10; refine (BdIndex_nil _).mono ?_; rintro e w8 ⟨rfl, hf8⟩; have hF8 : Fr w5 w8 := hF7.trans hf8)
       | (go_at_call 9; refine (HSi.out _).mono ?_; rintro e w9 ⟨rfl, hf9⟩; have hF9 : Fr w5 w9 := hF8.trans hf9)))
     go_wp2_with fail
     go_ret
     exact⟨rfl,hf05.trans hF9⟩
set_option maxRecDepth 512
end Go.Proofs.YtijghcbpfcjjnaaGreatDoor
