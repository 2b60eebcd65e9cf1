/- Parts of the proof of ArchPacks: U1. -/
import Derived.Test.YtdamnfpigajmoaaGreatDoorM18
import Derived.Deep.RegionHeldLaw
set_option linter.unusedVariables false
set_option linter.unusedSectionVars false
set_option linter.unusedSimpArgs false
set_option maxHeartbeats 8000000
set_option maxRecDepth 100000
namespace Go.Fk
abbrev gZQb:=@Nat.le_of_eq
end Go.Fk
namespace Go.Proofs.YtdamnfpigajmoaaGreatDoor
open Go.RowKit Go.Fk
theorem yz (r : am) (w : World) (hs : r.source.length ≤ 100000) (ht : r.text.length ≤ 100000) :
    Calls Tryz.prog 55 #[.bool true,jA r] w fun e w'=>∃ v,e=.returned v/\Ow w' w.heap.size eB v (ff true r)/\Fr w w':=by
  have HT:=ad (fun s (h:s.length<=1000000000) W=>uX s h W);have T:=ad (jK r.time.toNat (fY _));have H1:=iV r.source (by omega);have H2:=iV r.text (by omega);have H3:=aG r.time.toNat (fY _);have HE:Hid (ff true r=(ao r.time.toNat++[r.level])++(cZ r.source++cZ r.text)):=(by show _=_;simp [ff]);generalize ao r.time.toNat=U at *;go_enter Tryz.func55, Tryz.ntmps55;go_upto_region 8 with fail;generalize Q:w.alloc (.cells #[.int .u64 r.time.toNat,Fk.u8 r.level,S r.source,S r.text] 37)=W;have a2:Fr w W:=(by rw [<- Q];exact(Fr.refl w).alloc _);have a3:W.heap.size=w.heap.size+1:=(by rw [<- Q];simp);have I:W.heap[w.heap.size]? = some (.cells #[.int .u64 r.time.toNat,Fk.u8 r.level,S r.source,S r.text] 37 (0,0)):=(by rw [<- Q];exact au _ _ _ rfl);generalize hg:w.heap.size=g at *;have a0:=ae I 0 rfl;have a1:=ae I 1 rfl;clear Q;have a6:=ad (T.out W.drew);have a7:=ad (T.out (W.alloc (.cells #[Fk.u8 r.level] 5)).drew);have V:Hid (U.length+[r.level].length<=2147483648):=(by show _<=_;rw [show [r.level].length=1 from rfl];omega);have J:=ad a3;clear a3;have K:Fr W (W.alloc (.cells #[Fk.u8 r.level] 5)):=(Fr.refl W).alloc _;have ba:af (W.alloc (.cells #[Fk.u8 r.level] 5)).drew eB (.slice (some ⟨W.heap.size,0,none⟩) 1 1) [r.level]:=(iY eB W [r.level] #[Fk.u8 r.level] 5 1 rfl rfl (by show 1<=maxLen;unfold maxLen;omega)).drew;have l0:=K.cell a0;have l1:=K.cell a1;go_cut [5]from 7 to 13 (fun hv R=>Ow R (g+1) eB hv (U++[r.level])/\R.heap[g]? = some (.cells #[.int .u64 r.time.toNat,Fk.u8 r.level,S r.source,S r.text] 37 (0,0))/\Fr W R/\g+1<=R.heap.size)
  case first=>
    go_region_held_law (fun w' => w'.cell? ⟨g, 0, none⟩ = some (.int .u64 r.time.toNat) ∧ w'.cell? ⟨g, 1, none⟩ = some (Fk.u8 r.level)) (first | go_keep) (((first
      | (go_at_call 31; refine (a6.out).mono ?_; rintro e y ⟨L, rfl, M, m⟩
         obtain ⟨p1, z1, rfl⟩ := M.shape'
         have A := M.rebase (show g + 1 ≤ W.drew.heap.size from by rw [← J.out]; exact ag _)
         have D : Fr W y := (Fr.refl W).drew.trans m
         have X : g + 1 ≤ y.heap.size := by rw [← J.out]; exact m.size
         have q := D.heap I
         have b0 := ae q 0 rfl
         have b1 := ae q 1 rfl
         have b2 := ((Fr.refl y).alloc (.cells #[Fk.u8 r.level] 5)).cell b0
         have b3 := ((Fr.refl y).alloc (.cells #[Fk.u8 r.level] 5)).cell b1)
      | (go_at_call 31; refine (a7.out).mono ?_; rintro e y ⟨L, rfl, M, m⟩
         obtain ⟨p1, z1, rfl⟩ := M.shape'
         have A := M.rebase (show g + 1 ≤ (W.alloc (.cells #[Fk.u8 r.level] 5)).drew.heap.size from by rw [← J.out]; exact K.size)
         have D : Fr W y := K.drew.trans m
         have X : g + 1 ≤ y.heap.size := by rw [← J.out]; exact D.size
         have b5 := ba.fr m
         have q := D.heap I
         have b0 := ae q 0 rfl
         have b1 : y.cell? ⟨g, 1, none⟩ = some (Fk.u8 r.level) := by rw [aL q]; rfl)
      | (refine x9 eB rfl (.tmp 9) (.tmp 12) 29 rfl Tryz.underlying29 (g + 1) rfl A [r.level] _ _ _ rfl rfl rfl V.out X ?_
         intro v' w4 z
         have Y := z.own
         obtain ⟨va, vc, O⟩ := Y.shape'
         rw [an, show [r.level].length = 1 from rfl] at O
         subst O
         have o := z.chg'.heap q (A.ne_cells q (by decide))
         have x0 := ae o 0 rfl
         have x1 : w4.cell? ⟨g, 1, none⟩ = some (Fk.u8 r.level) := by rw [aL o]; rfl)
      | (refine qx eB rfl (.tmp 9) (.tmp 12) 29 rfl Tryz.underlying29 (g + 1) rfl A _ [r.level] rfl b5 V.out X ?_
         intro v' w4 z
         have Y := z.own
         obtain ⟨va, vc, O⟩ := Y.shape'
         rw [an, show [r.level].length = 1 from rfl] at O
         subst O
         have o := z.chg'.heap q (A.ne_cells q (by decide))
         have x0 := ae o 0 rfl
         have x1 : w4.cell? ⟨g, 1, none⟩ = some (Fk.u8 r.level) := by rw [aL o]; rfl))))
    all_goals go_wp2_with fail
    all_goals(rename_i dst d ca;obtain rfl:13=d:=ez ca)
    all_goals go_wp2_with fail
    all_goals go_meet
    all_goals exact⟨z.own,o,z.below A D (gZQb J.out) D.size,by have:=z.size;omega⟩
  case rest=>
    obtain⟨Z,o,bm,cb⟩:=hcut;have y2:=ae o 2 rfl;have y3:=ae o 3 rfl;obtain⟨F,aa⟩:∃ F,F=U++[r.level]:=⟨_,rfl⟩;rw [<- aa]at Z HE;have c5:F.length<=11:=(by rw [aa];simp;omega);obtain⟨p4,z4,rfl⟩:=Z.shape';have HF:=ad (a2.trans bm);have c6:g<=wc.heap.size:=(by omega);clear o bm cb a6 a7 T V a0 a1 l0 l1 ba K I aa a2;have HA:=ad (fun W L v2 (s0:af W eB (.slice p4 F.length z4) F) (s1:af W eB L (cZ r.source)) (s2:af W eB v2 (cZ r.text))=>uP W _ L v2 F _ _ s0 s1 s2 (by omega));rw [<- HE.out]at HA;go_upto_region 10 with fail
    go_region_held3 (fun w' => w'.cell? ⟨g, 2, none⟩ = some (S r.source) ∧ w'.cell? ⟨g, 3, none⟩ = some (S r.text))
      (first | go_keep)
      ((first
        | (go_at_call_of 98 (S r.source); refine (HT.out r.source (by omega) _).mono ?_; rintro e w5 ⟨L, rfl, bu, m⟩; obtain ⟨q1, z1, co⟩ := bu.shape'; subst co; have b2 := m.cell y2; have b3 := m.cell y3)
        | (go_at_call_of 98 (S r.text); refine (HT.out r.text (by omega) _).mono ?_; rintro e w6 ⟨v2, rfl, bv, G⟩; obtain ⟨q2, z2, cp⟩ := bv.shape'; subst cp; have d2 := G.cell b2; have d3 := G.cell b3)
        | (go_at_call 30; refine (HA.out _ _ _ (Z.see.fr (((Fr.refl wc).drew.trans m).trans G)) (bu.see.fr G) bv.see).mono ?_; rintro e w7 ⟨v3, rfl, cv, ac⟩; have x2 := ac.cell d2; have x3 := ac.cell d3)))
    go_wp2_with fail;go_ret;have cx:=((((HF.out.trans (Fr.drew (Fr.refl wc))).trans m).trans G).trans ac);exact⟨_,rfl,cv.rebase (by have:=(((HF.out.trans (Fr.drew (Fr.refl wc))).trans m).trans G).size;omega),cx⟩
end Go.Proofs.YtdamnfpigajmoaaGreatDoor
