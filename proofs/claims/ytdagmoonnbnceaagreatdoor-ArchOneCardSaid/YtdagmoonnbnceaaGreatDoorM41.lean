/- Parts of the proof of ArchOne: U1. -/
import Derived.Test.YtdagmoonnbnceaaGreatDoorM16
import Derived.Deep.RegionHeldLaw
set_option linter.unusedVariables false
set_option linter.unusedSectionVars false
set_option linter.unusedSimpArgs false
set_option maxHeartbeats 8000000
set_option maxRecDepth 100000
namespace Go.Proofs.YtdagmoonnbnceaaGreatDoor
open Go.RowKit Go.Fk
theorem onew_any (r : Rec) (w : World) (hs : r.source.length ≤ 100000) (ht : r.text.length ≤ 100000) :
    Calls Tryz.prog 45 #[.bool true,recV r] w fun e w'=>∃ v,e=.returned v/\Ow w' w.heap.size eB v (oneB true r)/\Fr w w':=by
  have HT:=hid (fun s (h:s.length<=1000000000) W=>Text_any s h W)
  have HNm:=hid (Num_any r.time.toNat (UInt64.toNat_lt _))
  have H1:=textB_len r.source (by omega)
  have H2:=textB_len r.text (by omega)
  have H3:=numB_le r.time.toNat (UInt64.toNat_lt _)
  have HE:Hid (oneB true r=(numB r.time.toNat++[r.level])++(textB r.source++textB r.text)):=by show _=_;simp [oneB]
  generalize numB r.time.toNat=nb at *
  go_enter Tryz.func45, Tryz.ntmps45
  go_upto_region 8 with fail
  generalize hW:w.alloc (.cells #[.int .u64 r.time.toNat,Fk.u8 r.level,S r.source,S r.text] 36)=W
  have hf0:Fr w W:=by rw [<- hW];exact(Fr.refl w).alloc _
  have hz0:W.heap.size=w.heap.size+1:=by rw [<- hW];simp
  have hB0:W.heap[w.heap.size]? = some (.cells #[.int .u64 r.time.toNat,Fk.u8 r.level,S r.source,S r.text] 36 (0,0)):=by rw [<- hW];exact heap_new _ _ _ rfl
  generalize hg:w.heap.size=g at *
  have a0:=cellx hB0 0 rfl
  have a1:=cellx hB0 1 rfl
  clear hW
  have HN1:=hid (HNm.out W.drew)
  have HN2:=hid (HNm.out (W.alloc (.cells #[Fk.u8 r.level] 5)).drew)
  have HC1:Hid (nb.length+[r.level].length<=2147483648):=by show _<=_;rw [show [r.level].length=1 from rfl];omega
  have HZ:=hid hz0
  clear hz0
  have hfl:Fr W (W.alloc (.cells #[Fk.u8 r.level] 5)):=(Fr.refl W).alloc _
  have hS0:See (W.alloc (.cells #[Fk.u8 r.level] 5)).drew eB (.slice (some ⟨W.heap.size,0,none⟩) 1 1) [r.level]:=(see_new eB W [r.level] #[Fk.u8 r.level] 5 1 rfl rfl (by show 1<=maxLen;unfold maxLen;omega)).drew
  have l0:=hfl.cell a0
  have l1:=hfl.cell a1
  go_cut [5]from 7 to 13 (fun hv wx=>Ow wx (g+1) eB hv (nb++[r.level])/\wx.heap[g]? = some (.cells #[.int .u64 r.time.toNat,Fk.u8 r.level,S r.source,S r.text] 36 (0,0))/\Fr W wx/\g+1<=wx.heap.size)
  case first=>
    go_region_held_law (fun w' => w'.cell? ⟨g, 0, none⟩ = some (.int .u64 r.time.toNat) ∧ w'.cell? ⟨g, 1, none⟩ = some (Fk.u8 r.level)) (first | go_keep) (((first
      | (go_at_call 27; refine (HN1.out).mono ?_; rintro e w1 ⟨v1, rfl, hO1, hf1⟩
         obtain ⟨p1, z1, rfl⟩ := hO1.shape'
         have hO1' := hO1.rebase (show g + 1 ≤ W.drew.heap.size from by rw [← HZ.out]; exact Nat.le_refl _)
         have hfw1 : Fr W w1 := (Fr.refl W).drew.trans hf1
         have hz1 : g + 1 ≤ w1.heap.size := by rw [← HZ.out]; exact hf1.size
         have hB1 := hfw1.heap hB0
         have b0 := cellx hB1 0 rfl
         have b1 := cellx hB1 1 rfl
         have b2 := ((Fr.refl w1).alloc (.cells #[Fk.u8 r.level] 5)).cell b0
         have b3 := ((Fr.refl w1).alloc (.cells #[Fk.u8 r.level] 5)).cell b1)
      | (go_at_call 27; refine (HN2.out).mono ?_; rintro e w1 ⟨v1, rfl, hO1, hf1⟩
         obtain ⟨p1, z1, rfl⟩ := hO1.shape'
         have hO1' := hO1.rebase (show g + 1 ≤ (W.alloc (.cells #[Fk.u8 r.level] 5)).drew.heap.size from by rw [← HZ.out]; exact hfl.size)
         have hfw1 : Fr W w1 := hfl.drew.trans hf1
         have hz1 : g + 1 ≤ w1.heap.size := by rw [← HZ.out]; exact hfw1.size
         have hS1 := hS0.fr hf1
         have hB1 := hfw1.heap hB0
         have b0 := cellx hB1 0 rfl
         have b1 : w1.cell? ⟨g, 1, none⟩ = some (Fk.u8 r.level) := by rw [cell_of_heap hB1]; rfl)
      | (refine step_app1 eB rfl (.tmp 9) (.tmp 12) 27 rfl Tryz.underlying27 (g + 1) rfl hO1' [r.level] _ _ _ rfl rfl rfl HC1.out hz1 ?_
         intro v' w4 hap
         have own4 := hap.own
         obtain ⟨va, vc, hv'⟩ := own4.shape'
         rw [List.length_append, show [r.level].length = 1 from rfl] at hv'
         subst hv'
         have hB4 := hap.chg'.heap hB1 (hO1'.ne_cells hB1 (by decide))
         have x0 := cellx hB4 0 rfl
         have x1 : w4.cell? ⟨g, 1, none⟩ = some (Fk.u8 r.level) := by rw [cell_of_heap hB4]; rfl)
      | (refine step_app eB rfl (.tmp 9) (.tmp 12) 27 rfl Tryz.underlying27 (g + 1) rfl hO1' _ [r.level] rfl hS1 HC1.out hz1 ?_
         intro v' w4 hap
         have own4 := hap.own
         obtain ⟨va, vc, hv'⟩ := own4.shape'
         rw [List.length_append, show [r.level].length = 1 from rfl] at hv'
         subst hv'
         have hB4 := hap.chg'.heap hB1 (hO1'.ne_cells hB1 (by decide))
         have x0 := cellx hB4 0 rfl
         have x1 : w4.cell? ⟨g, 1, none⟩ = some (Fk.u8 r.level) := by rw [cell_of_heap hB4]; rfl))))
    all_goals go_wp2_with fail
    all_goals(rename_i dst d hdd;obtain rfl:13=d:=Option.some.inj hdd)
    all_goals go_wp2_with fail
    all_goals go_meet
    all_goals exact⟨hap.own,hB4,hap.below hO1' hfw1 (Nat.le_of_eq HZ.out) hfw1.size,by have:=hap.size;omega⟩
  case rest=>
    obtain⟨hO4,hB4,hf4,hg4'⟩:=hcut
    have y2:=cellx hB4 2 rfl
    have y3:=cellx hB4 3 rfl
    obtain⟨hh,hhd⟩:∃ hh,hh=nb++[r.level]:=⟨_,rfl⟩
    rw [<- hhd]at hO4 HE
    have hhl:hh.length<=11:=by rw [hhd];simp;omega
    obtain⟨p4,z4,rfl⟩:=hO4.shape'
    have HF:=hid (hf0.trans hf4)
    have hg4:g<=wc.heap.size:=by omega
    clear hB4 hf4 hg4' HN1 HN2 HNm HC1 a0 a1 l0 l1 hS0 hfl hB0 hhd hf0
    have HA:=hid (fun W v1 v2 (s0:See W eB (.slice p4 hh.length z4) hh) (s1:See W eB v1 (textB r.source)) (s2:See W eB v2 (textB r.text))=>all3 W _ v1 v2 hh _ _ s0 s1 s2 (by omega))
    rw [<- HE.out]at HA
    go_upto_region 10 with fail
    go_region_held3 (fun w' => w'.cell? ⟨g, 2, none⟩ = some (S r.source) ∧ w'.cell? ⟨g, 3, none⟩ = some (S r.text))
      (first | go_keep)
      ((first
        | (go_at_call_of 75 (S r.source); refine (HT.out r.source (by omega) _).mono ?_; rintro e w5 ⟨v1, rfl, hown1, hf1⟩; obtain ⟨q1, z1, hq1⟩ := hown1.shape'; subst hq1; have b2 := hf1.cell y2; have b3 := hf1.cell y3)
        | (go_at_call_of 75 (S r.text); refine (HT.out r.text (by omega) _).mono ?_; rintro e w6 ⟨v2, rfl, hown2, hf2⟩; obtain ⟨q2, z2, hq2⟩ := hown2.shape'; subst hq2; have d2 := hf2.cell b2; have d3 := hf2.cell b3)
        | (go_at_call 26; refine (HA.out _ _ _ (hO4.see.fr (((Fr.refl wc).drew.trans hf1).trans hf2)) (hown1.see.fr hf2) hown2.see).mono ?_; rintro e w7 ⟨v3, rfl, hown3, hf3⟩; have x2 := hf3.cell d2; have x3 := hf3.cell d3)))
    go_wp2_with fail
    go_ret
    have hfin:=((((HF.out.trans (Fr.drew (Fr.refl wc))).trans hf1).trans hf2).trans hf3)
    exact⟨_,rfl,hown3.rebase (by have:=(((HF.out.trans (Fr.drew (Fr.refl wc))).trans hf1).trans hf2).size;omega),hfin⟩
end Go.Proofs.YtdagmoonnbnceaaGreatDoor
