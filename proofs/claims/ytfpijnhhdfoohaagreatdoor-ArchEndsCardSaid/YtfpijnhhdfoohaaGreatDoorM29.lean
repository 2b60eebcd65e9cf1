/- Parts of the proof of ArchEnds: U1 Nh. -/
import Derived.Test.YtfpijnhhdfoohaaGreatDoorM12
import Derived.Deep.RegionHeldLaw
import Derived.Test.YtfpijnhhdfoohaaGreatDoorM10
import Derived.Test.YtfpijnhhdfoohaaGreatDoorM00
import Derived.Test.YtfpijnhhdfoohaaGreatDoorM11
set_option linter.unusedVariables false
set_option linter.unusedSectionVars false
set_option linter.unusedSimpArgs false
set_option maxHeartbeats 8000000
set_option maxRecDepth 100000
namespace Go.Proofs.YtfpijnhhdfoohaaGreatDoor
open Go.RowKit Go.Fk
theorem BI (r : aF) (w : World) (hs : r.source.length ≤ 100000) (ht : r.text.length ≤ 100000) :
    Calls Tryz.prog 58 #[.bool true,lA r] w fun e z=>∃ v,e=.returned v/\Ow z w.heap.size eB v (lB true r)/\Fr w z:=by
  have HT:=ad (fun s (h:s.length<=1000000000) W=>QI s h W);have V:=ad (uX r.time.toNat (nW _));have H1:=tP r.source (by omega);have H2:=tP r.text (by omega);have H3:=jI r.time.toNat (nW _);have HE:Hid (lB true r=(bI r.time.toNat++[r.level])++(lw r.source++lw r.text)):=(by show _=_;simp [lB]);generalize bI r.time.toNat=X at *;go_enter Tryz.func58, Tryz.ntmps58;go_upto_region 8 with fail;generalize R:w.alloc (.cells #[.int .u64 r.time.toNat,Fk.u8 r.level,S r.source,S r.text] 40)=W;have a2:Fr w W:=(by rw [<- R];exact(Fr.refl w).alloc _);have a3:W.heap.size=w.heap.size+1:=(by rw [<- R];simp);have J:W.heap[w.heap.size]?=some (.cells #[.int .u64 r.time.toNat,Fk.u8 r.level,S r.source,S r.text] 40 (0,0)):=(by rw [<- R];exact a9 _ _ _ rfl);generalize hg:w.heap.size=g at *;have a0:=af J 0 rfl;have a1:=af J 1 rfl;clear R;have a6:=ad (V.out W.drew);have a7:=ad (V.out (W.alloc (.cells #[Fk.u8 r.level] 5)).drew);have Y:Hid (X.length+[r.level].length<=2147483648):=(by show _<=_;rw [show [r.level].length=1 from rfl];omega);have K:=ad a3;clear a3;have L:Fr W (W.alloc (.cells #[Fk.u8 r.level] 5)):=(Fr.refl W).alloc _;have aC:ai (W.alloc (.cells #[Fk.u8 r.level] 5)).drew eB (.slice (some ⟨W.heap.size,0,none⟩) 1 1) [r.level]:=(l8 eB W [r.level] #[Fk.u8 r.level] 5 1 rfl rfl (by show 1<=maxLen;unfold maxLen;omega)).drew;have l0:=L.cell a0;have l1:=L.cell a1;go_cut [5]from 7 to 13 (fun hv U=>Ow U (g+1) eB hv (X++[r.level])/\U.heap[g]?=some (.cells #[.int .u64 r.time.toNat,Fk.u8 r.level,S r.source,S r.text] 40 (0,0))/\Fr W U/\g+1<=U.heap.size)
  case first=>
    go_region_held_law (fun z => z.cell? ⟨g, 0, none⟩ = some (.int .u64 r.time.toNat) ∧ z.cell? ⟨g, 1, none⟩ = some (Fk.u8 r.level)) (first | go_keep) (((first
      | (go_at_call 33; refine (a6.out).mono ?_; rintro e A ⟨M, rfl, O, m⟩
         obtain ⟨p1, z1, rfl⟩ := O.shape'
         have D := O.rebase (show g + 1 ≤ W.drew.heap.size from by rw [← K.out]; exact am _)
         have F : Fr W A := (Fr.refl W).drew.trans m
         have Z : g + 1 ≤ A.heap.size := by rw [← K.out]; exact m.size
         have q := F.heap J
         have b0 := af q 0 rfl
         have b1 := af q 1 rfl
         have b2 := ((Fr.refl A).alloc (.cells #[Fk.u8 r.level] 5)).cell b0
         have b3 := ((Fr.refl A).alloc (.cells #[Fk.u8 r.level] 5)).cell b1)
      | (go_at_call 33; refine (a7.out).mono ?_; rintro e A ⟨M, rfl, O, m⟩
         obtain ⟨p1, z1, rfl⟩ := O.shape'
         have D := O.rebase (show g + 1 ≤ (W.alloc (.cells #[Fk.u8 r.level] 5)).drew.heap.size from by rw [← K.out]; exact L.size)
         have F : Fr W A := L.drew.trans m
         have Z : g + 1 ≤ A.heap.size := by rw [← K.out]; exact F.size
         have b6 := aC.fr m
         have q := F.heap J
         have b0 := af q 0 rfl
         have b1 : A.cell? ⟨g, 1, none⟩ = some (Fk.u8 r.level) := by rw [aA q]; rfl)
      | (refine q8 eB rfl (.tmp 9) (.tmp 12) 22 rfl Tryz.underlying22 (g + 1) rfl D [r.level] _ _ _ rfl rfl rfl Y.out Z ?_
         intro v' w4 B
         have aa := B.own
         obtain ⟨va, vc, Q⟩ := aa.shape'
         rw [aD, show [r.level].length = 1 from rfl] at Q
         subst Q
         have o := B.chg'.heap q (D.ne_cells q (by decide))
         have x0 := af o 0 rfl
         have x1 : w4.cell? ⟨g, 1, none⟩ = some (Fk.u8 r.level) := by rw [aA o]; rfl)
      | (refine rO eB rfl (.tmp 9) (.tmp 12) 22 rfl Tryz.underlying22 (g + 1) rfl D _ [r.level] rfl b6 Y.out Z ?_
         intro v' w4 B
         have aa := B.own
         obtain ⟨va, vc, Q⟩ := aa.shape'
         rw [aD, show [r.level].length = 1 from rfl] at Q
         subst Q
         have o := B.chg'.heap q (D.ne_cells q (by decide))
         have x0 := af o 0 rfl
         have x1 : w4.cell? ⟨g, 1, none⟩ = some (Fk.u8 r.level) := by rw [aA o]; rfl))))
    all_goals go_wp2_with fail
    all_goals(rename_i dst d bB;obtain rfl:13=d:=jy bB)
    all_goals go_wp2_with fail
    all_goals go_meet
    all_goals exact⟨B.own,o,B.below D F (fO K.out) F.size,by have:=B.size;omega⟩
  case rest=>
    obtain⟨ab,o,bk,bL⟩:=hcut;have y2:=af o 2 rfl;have y3:=af o 3 rfl;obtain⟨G,ac⟩:∃ G,G=X++[r.level]:=⟨_,rfl⟩;rw [<- ac]at ab HE;have c1:G.length<=11:=(by rw [ac];simp;omega);obtain⟨p4,z4,rfl⟩:=ab.shape';have HF:=ad (a2.trans bk);have c3:g<=wc.heap.size:=(by omega);clear o bk bL a6 a7 V Y a0 a1 l0 l1 aC L J ac a2;have HA:=ad (fun W M v2 (s0:ai W eB (.slice p4 G.length z4) G) (s1:ai W eB M (lw r.source)) (s2:ai W eB v2 (lw r.text))=>Q5 W _ M v2 G _ _ s0 s1 s2 (by omega));rw [<- HE.out]at HA;go_upto_region 10 with fail
    go_region_held3 (fun z => z.cell? ⟨g, 2, none⟩ = some (S r.source) ∧ z.cell? ⟨g, 3, none⟩ = some (S r.text))
      (first | go_keep)
      ((first
        | (go_at_call_of 94 (S r.source); refine (HT.out r.source (by omega) _).mono ?_; rintro e w5 ⟨M, rfl, bs, m⟩; obtain ⟨q1, z1, cj⟩ := bs.shape'; subst cj; have b2 := m.cell y2; have b3 := m.cell y3)
        | (go_at_call_of 94 (S r.text); refine (HT.out r.text (by omega) _).mono ?_; rintro e w6 ⟨v2, rfl, bu, I⟩; obtain ⟨q2, z2, ck⟩ := bu.shape'; subst ck; have d2 := I.cell b2; have d3 := I.cell b3)
        | (go_at_call 32; refine (HA.out _ _ _ (ab.see.fr (((Fr.refl wc).drew.trans m).trans I)) (bs.see.fr I) bu.see).mono ?_; rintro e w7 ⟨v3, rfl, cn, ak⟩; have x2 := ak.cell d2; have x3 := ak.cell d3)))
    go_wp2_with fail;go_ret;have cp:=((((HF.out.trans (Fr.drew (Fr.refl wc))).trans m).trans I).trans ak);exact⟨_,rfl,cn.rebase (by have:=(((HF.out.trans (Fr.drew (Fr.refl wc))).trans m).trans I).size;omega),cp⟩
end Go.Proofs.YtfpijnhhdfoohaaGreatDoor
