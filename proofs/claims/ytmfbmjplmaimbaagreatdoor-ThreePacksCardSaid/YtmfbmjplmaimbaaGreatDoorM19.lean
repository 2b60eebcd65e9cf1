/- Parts of the proof of ThreePacks: We3 We4 We5. -/
import Derived.Test.YtmfbmjplmaimbaaGreatDoorM17
import Derived.Test.YtmfbmjplmaimbaaGreatDoorM18
set_option linter.unusedVariables false
set_option linter.unusedSectionVars false
set_option linter.unusedSimpArgs false
set_option maxHeartbeats 8000000
namespace Go.Proofs.YtmfbmjplmaimbaaGreatDoor
open Go.RowKit Go.Fk
set_option maxRecDepth 100000
theorem RMay16_any (v : Value) (l : List (List UInt8)) (w : World) (hs : See w eS v l) (hk : txtOk l) :
  Calls Tryz.prog 124 #[v] w fun e w' => e = .returned (.bool true) ∧ Fr w w' := by
 obtain ⟨hr, h25, hn⟩ := hk
 have HS := hid (fun W (h : Fr w W) k hk => strAt (hs.fr h) k hk)
 have HB := hid h25
 have HR : Hid (∀ k (h : k + 1 < l.length), l[k] < l[k + 1]) := fun k h => List.pairwise_iff_getElem.1 hr k (k + 1) (by omega) h (by omega)
 obtain ⟨a0, cap, hv, hcap1, hcap2, hnone⟩ := hs.shape
 subst hv
 clear hr h25 hnone
 have hle : ¬ (1048576 : Int) < l.length := by omega
 go_enter Tryz.func124, Tryz.ntmps124
 go_wp2_with fail
 go_loopw [3] (fun iv wr => ∃ k : Nat, k ≤ l.length ∧ iv = N k ∧ Fr w wr) (fun iv _ => l.length - (intOf iv).toNat)
 case atStart => exact ⟨0, Nat.zero_le _, rfl, Fr.refl w⟩
 case round =>
  obtain ⟨k, hk, rfl, hf⟩ := hrel
  by_cases hlt : k < l.length
  · obtain ⟨b, off, cap', hv, c0⟩ := HS.out wr hf k hlt
    cases hv
    have hbk := HB.out _ (List.getElem_mem hlt)
    have i1 : (0 : Int) ≤ k := by omega
    have i2 : (k : Int) < l.length := by omega
    by_cases h0 : k = 0
    · subst h0
      rw [Nat.add_zero] at c0
      generalize l[0] = x at *
      have n1 : ¬ (x.length : Int) < 1 := by omega
      have n2 : ¬ (25 : Int) < x.length := by omega
      go_upto_region 6 with fail
      go_quiet (fail)
      go_wp2_with fail
      exact ⟨⟨1, by omega, by go_num, hf.drewN _⟩, by simp [intOf]; omega⟩
    · obtain ⟨j, rfl⟩ : ∃ j, k = j + 1 := ⟨k - 1, by omega⟩
      obtain ⟨b', off', cap', hv, d0⟩ := HS.out wr hf j (by omega)
      cases hv
      have hlt2 := HR.out j hlt
      have hl1 := less_false (fun h => List.lt_irrefl _ (List.lt_trans h hlt2) : ¬ l[j + 1] < l[j])
      have he : (l[j + 1] == l[j]) = false := by
       rw [beq_eq_false_iff_ne]; intro e; rw [e] at hlt2; exact List.lt_irrefl _ hlt2
      clear hlt2
      generalize l[j + 1] = x at *
      generalize l[j] = y at *
      have n1 : ¬ (x.length : Int) < 1 := by omega
      have n2 : ¬ (25 : Int) < x.length := by omega
      have n3 : (0 : Int) < ((j + 1 : Nat) : Int) := by omega
      have n4 : IntKind.i64.wrap (((j + 1 : Nat) : Int) - 1) = (j : Int) := by rw [IntWalk.i64_in _ (by omega)]; omega
      have n5 : (0 : Int) ≤ j := by omega
      have n6 : (j : Int) < l.length := by omega
      go_upto_region 6 with fail
      go_quiet (fail)
      go_wp2_with fail
      exact ⟨⟨j + 1 + 1, by omega, by go_num, hf.drewN _⟩, by simp [intOf]; omega⟩
  · obtain rfl : k = l.length := by omega
    have hnl : ¬ (l.length : Int) < l.length := by omega
    go_wp2_with fail
    go_ret
    exact ⟨rfl, hf⟩
set_option maxRecDepth 512
def dictB (n : Nat) (l : List (List UInt8)) : List UInt8 := (numB l.length ++ ((chunksL l n).map fun c => numB (bktB c).length).flatten) ++ ((chunksL l n).map bktB).flatten
theorem chunks_len {α : Type} (l : List α) (n : Nat) : (chunksL l n).length = ckN l.length n := by simp [chunksL]
theorem chunks_at {α : Type} (l : List α) (n j : Nat) (h : j < (chunksL l n).length) : (chunksL l n)[j] = (l.drop (j * n)).take n := by simp [chunksL]
theorem ckN_mul (len n : Nat) (hn : 1 ≤ n) : ckN len n * n ≤ len + n - 1 := by unfold ckN; exact Nat.div_mul_le_self _ _
theorem chunk_mem {α : Type} {l : List α} {n : Nat} {c : List α} (h : c ∈ chunksL l n) : c.length ≤ n ∧ ∀ s ∈ c, s ∈ l := by
 obtain ⟨j, hj, rfl⟩ := List.mem_iff_getElem.1 h
 rw [chunks_at]
 exact ⟨by rw [List.length_take]; omega, fun s hs => List.mem_of_mem_drop (List.mem_of_mem_take hs)⟩
theorem heads_len (l : List (List UInt8)) (n j : Nat) (hn : 1 ≤ n) (hn2 : n ≤ 64) (hl : l.length ≤ 10000) (hb : ∀ s ∈ l, s.length ≤ 25) : ((((chunksL l n).take j).map fun c => numB (bktB c).length).flatten).length ≤ 100630 := by
 rw [flat_len]
 refine Nat.le_trans (wtS_le _ 10 _ fun c hc => ?_) ?_
 · have h1 := chunk_mem (List.mem_of_mem_take hc)
   have h2 := bktB_len 25 (by omega) c (fun s hs => hb s (h1.2 s hs))
   have h3 : c.length * (25 + 20) ≤ 64 * 45 := Nat.mul_le_mul (by omega) (Nat.le_refl _)
   exact numB_le _ (by omega)
 · have h1 := ckN_mul l.length n hn
   have h2 : ((chunksL l n).take j).length ≤ ckN l.length n := by rw [List.length_take, chunks_len]; omega
   have h3 : ckN l.length n * 1 ≤ ckN l.length n * n := Nat.mul_le_mul_left _ hn
   omega
theorem bodies_len (l : List (List UInt8)) (n j : Nat) (hn : 1 ≤ n) (hn2 : n ≤ 64) (hl : l.length ≤ 10000) (hb : ∀ s ∈ l, s.length ≤ 25) : ((((chunksL l n).take j).map bktB).flatten).length ≤ 452880 := by
 rw [flat_len]
 refine Nat.le_trans (wtS_le _ (45 * n) _ fun c hc => ?_) ?_
 · have h1 := chunk_mem (List.mem_of_mem_take hc)
   have h2 := bktB_len 25 (by omega) c (fun s hs => hb s (h1.2 s hs))
   have h3 : c.length * (25 + 20) ≤ n * 45 := Nat.mul_le_mul h1.1 (Nat.le_refl _)
   have h4 : 45 * n = n * 45 := Nat.mul_comm _ _
   show (bktB c).length ≤ _
   omega
 · have h1 := ckN_mul l.length n hn
   have h2 : ((chunksL l n).take j).length ≤ ckN l.length n := by rw [List.length_take, chunks_len]; omega
   have h3 : ((chunksL l n).take j).length * (45 * n) ≤ ckN l.length n * (45 * n) := Nat.mul_le_mul_right _ h2
   have h4 : ckN l.length n * (45 * n) = 45 * (ckN l.length n * n) := by rw [Nat.mul_left_comm]
   omega
set_option maxRecDepth 100000
theorem RWrite16_any (n : Nat) (hn1 : 1 ≤ n) (hn2 : n ≤ 64) (v : Value) (l : List (List UInt8)) (w : World) (hs : See w eS v l) (hk : txtOk l) (hl : l.length ≤ 10000) :
  Calls Tryz.prog 83 #[N n, v] w fun e w' => ∃ u, e = .returned (.tuple #[u, .int .i64 0]) ∧ Ow w' w.heap.size eB u (dictB n l) ∧ Fr w w' := by
 have HM := hid (RMay16_any v l w hs hk)
 have HS := hid (fun W (h : Fr w W) k hk => strAt (hs.fr h) k hk)
 have hb25 : ∀ s ∈ l, s.length ≤ 25 := fun s h => (hk.2.1 s h).2
 have HB := hid hb25
 have HTx := hid (fun s (h : s.length ≤ 1000000000) W => RText_any s h W)
 have HNm := hid (fun n (h : n < 18446744073709551616) W => RNum_any n h W)
 have HAl := hid (fun a b h W => RAlike16_any a b h W)
 have HHl := hid (fun j => heads_len l n j hn1 hn2 hl hb25)
 have HBl := hid (fun j => bodies_len l n j hn1 hn2 hl hb25)
 have HHs := hid (fun j h => flat_map_snoc (fun c => numB (bktB c).length) (chunksL l n) j h)
 have HBs := hid (fun j h => flat_map_snoc bktB (chunksL l n) j h)
 have HCk := hid (ckN_lt l.length n hn1)
 have HCm := hid (ckN_mul l.length n hn1)
 have HCa := hid (chunks_at l n)
 have HCl := hid (chunks_len l n)
 have HD : Hid (dictB n l = (numB l.length ++ (((chunksL l n).take (ckN l.length n)).map fun c => numB (bktB c).length).flatten) ++ (((chunksL l n).take (ckN l.length n)).map bktB).flatten) := by
  show _ = _
  rw [List.take_of_length_le (by rw [chunks_len]; omega)]; rfl
 generalize dictB n l = T at *
 generalize hck : chunksL l n = CK at *
 have HCK := hid hck
 clear hck
 generalize hcn : ckN l.length n = CN at *
 clear hcn
 obtain ⟨a0, cap, hv, hcap1, hcap2, hnone⟩ := hs.shape
 subst hv
 clear hs hk hb25 hnone
 have hnl := numB_le l.length (by omega)
 have HN0 := hid (HNm.out l.length (by omega))
 generalize numB l.length = nb at *
 have j1 : ¬ (n : Int) < 1 := by omega
 have j2 : ¬ (64 : Int) < n := by omega
 have hw1 : IntKind.u64.wrap (l.length : Int) = (l.length : Int) := IntWalk.u64_in _ (by omega)
 go_enter Tryz.func83, Tryz.ntmps83
 go_wp2_with fail
 refine HM.out.mono ?_
 rintro e w1 ⟨rfl, hf1⟩
 go_wp2_with fail
 refine (HN0.out _).mono ?_
 rintro e w2 ⟨v2, rfl, hO2, hf2⟩
 have hf12 := hf1.trans hf2
 go_wp2_with fail
 go_loopw [6, 7, 8] (fun hv bv iv wr => ∃ j : Nat, j ≤ CN ∧ iv = .int .i64 ((j * n : Nat) : Int) ∧ Ow wr w.heap.size eB hv (nb ++ ((CK.take j).map fun c => numB (bktB c).length).flatten) ∧ Ow wr w.heap.size eB bv ((CK.take j).map bktB).flatten ∧ (bv.ownBlock = none ∨ bv.ownBlock ≠ hv.ownBlock) ∧ Fr w wr) (fun _ _ iv _ => l.length - (intOf iv).toNat)
 case atStart => exact ⟨0, Nat.zero_le _, by simp, by simpa using hO2.rebase hf1.size, by simpa using Ow.nil, .inl rfl, hf12⟩
 case round =>
  clear hO2
  obtain ⟨j, hj, rfl, hH, hB, hap, hf⟩ := hrel
  have hhl := HHl.out j
  have hbl := HBl.out j
  by_cases hlt : j < CN
  · have hjn := (HCk.out j).1 hlt
    have hjl : j < CK.length := by rw [HCl.out]; exact hlt
    have HH2 := hid (HHs.out j hjl)
    have HB2 := hid (HBs.out j hjl)
    have hhl2 := HHl.out (j + 1)
    have hbl2 := HBl.out (j + 1)
    have HC := hid (HCa.out j hjl)
    have HNx : Hid ((j + 1) * n = j * n + n) := by show _ = _; rw [Nat.add_mul, Nat.one_mul]
    generalize j * n = i at *
    generalize ((CK.take j).map fun c => numB (bktB c).length).flatten = hd at *
    generalize hd2e : ((CK.take (j + 1)).map fun c => numB (bktB c).length).flatten = hd2 at *
    have HD2 := hid hd2e
    clear hd2e
    generalize ((CK.take j).map bktB).flatten = bd at *
    generalize bd2e : ((CK.take (j + 1)).map bktB).flatten = bd2 at *
    have HBD2 := hid bd2e
    clear bd2e
    generalize CK[j] = c at *
    have hcl : c.length = min n (l.length - i) := by rw [HC.out, List.length_take, List.length_drop]
    have HCat : Hid (∀ m (h : m < c.length), ∃ h2 : i + m < l.length, c[m] = l[i + m]) := fun m h => by
     refine ⟨by omega, ?_⟩
     have : c = (l.drop i).take n := HC.out
     subst this
     rw [List.getElem_take, List.getElem_drop]
    have hc25 : ∀ s ∈ c, s.length ≤ 25 := fun s h => HB.out s (by rw [HC.out] at h; exact List.mem_of_mem_drop (List.mem_of_mem_take h))
    have HLen : Hid (∀ k, (bktB (c.take k)).length ≤ 64 * 45) := fun k => by
     have h1 := bktB_len 25 (by omega) (c.take k) (fun s hs => hc25 s (List.mem_of_mem_take hs))
     have h2 : (c.take k).length ≤ 64 := by rw [List.length_take]; omega
     have h3 : (c.take k).length * (25 + 20) ≤ 64 * 45 := Nat.mul_le_mul h2 (Nat.le_refl _)
     omega
    have HSnoc := hid (fun k h1 h2 => bktB_snoc c k h1 h2)
    have HCAll : Hid (bktB (c.take c.length) = bktB c) := by show _ = _; rw [List.take_length]
    have HOne : Hid (∀ h : 0 < c.length, bktB (c.take 1) = textB c[0]) := fun h => by
     cases c with
     | nil => simp at h
     | cons x l => simp [bktB, bktGo]
    have HCL := hid hcl
    clear hc25 hcl
    obtain ⟨b0, off0, cap0, hv0, c00⟩ := HS.out wr hf i hjn
    cases hv0
    have hx25 := HB.out _ (List.getElem_mem hjn)
    have HT1 := hid (HTx.out l[i] (by omega) wr)
    have HO1 : Hid (bktB (c.take 1) = textB l[i]) := by
     show _ = _
     obtain ⟨h2, h3⟩ := HCat.out 0 (by have := HCL.out; omega)
     rw [HOne.out (by have := HCL.out; omega), h3]; rfl
    generalize l[i] = x0 at *
    have i1 : (0 : Int) ≤ i := by omega
    have i2 : (i : Int) < l.length := by omega
    have i3 : IntKind.i64.wrap ((i : Int) + n) = (i : Int) + n := IntWalk.i64_in _ (by omega)
    obtain ⟨hh, hhe⟩ : ∃ hh, hh = nb ++ hd := ⟨_, rfl⟩
    rw [← hhe] at hH
    have hhhl : hh.length ≤ 100640 := by rw [hhe, List.length_append]; omega
    have HHe := hid hhe
    clear hhe
    obtain ⟨ha, hc, hhv⟩ := hH.shape'
    subst hhv
    obtain ⟨ba, bc, hbv⟩ := hB.shape'
    subst hbv
    go_wp2_with fail
    refine HT1.out.mono ?_
    rintro e w3 ⟨v3, rfl, hO3, hf3⟩
    rw [← HO1.out] at hO3
    clear HO1 HT1 HOne
    go_wp2_with fail
    go_loopw [9, 10] (fun bv kv wq => ∃ m k : Nat, 1 ≤ m ∧ m ≤ c.length ∧ Hid (k = i + m) ∧ kv = N k ∧ Ow wq wr.heap.size eB bv (bktB (c.take m)) ∧ Fr wr wq) (fun _ kv _ => l.length - (intOf kv).toNat)
    case atStart => exact ⟨1, i + 1, Nat.le_refl _, by have := HCL.out; omega, rfl, by go_num, hO3, hf3⟩
    case round =>
     clear hO3 hf3
     obtain ⟨m, k, hm1, hmc, HKm, rfl, hO, hfq⟩ := hrel
     have hol := HLen.out m
     have hmn : m ≤ n ∧ k ≤ l.length := by have := HCL.out; have := HKm.out; omega
     obtain ⟨oa, oc, hov⟩ := hO.shape'
     subst hov
     by_cases hlt2 : m < c.length
     · have hmn2 : m < n ∧ k < l.length := by have := HCL.out; have := HKm.out; omega
       have k1 : (k : Int) < (i : Int) + n := by have := HKm.out; omega
       have k2 : (k : Int) < l.length := by omega
       have k3 : (0 : Int) ≤ (k : Int) := by omega
       obtain ⟨p, HP⟩ : ∃ p, Hid (p + 1 = k) := ⟨k - 1, by show _ = _; have := HKm.out; omega⟩
       have k4 : IntKind.i64.wrap ((k : Int) - 1) = (p : Int) := by rw [IntWalk.i64_in _ (by have := HP.out; omega)]; have := HP.out; omega
       have k5 : (0 : Int) ≤ (p : Int) := by omega
       have hpl : p < l.length := by have := HP.out; omega
       have k6 : (p : Int) < l.length := by omega
       obtain ⟨bx, offx, capx, hvx, cx⟩ := HS.out _ (hf.trans hfq) p hpl
       cases hvx
       obtain ⟨by_, offy, capy, hvy, cy⟩ := HS.out _ (hf.trans hfq) k hmn2.2
       cases hvy
       have hxl := HB.out _ (List.getElem_mem hpl)
       have hyl := HB.out _ (List.getElem_mem hmn2.2)
       have HN := hid (HSnoc.out m hm1 hlt2)
       have e1 : c[m - 1] = l[p] := by obtain ⟨h2, h3⟩ := HCat.out (m - 1) (by omega); rw [h3]; congr 1; have := HP.out; have := HKm.out; omega
       have e2 : c[m] = l[k] := by obtain ⟨h2, h3⟩ := HCat.out m hlt2; rw [h3]; congr 1; exact HKm.out.symm
       rw [e1, e2] at HN
       clear e1 e2
       have hol2 := HLen.out (m + 1)
       generalize bktB (c.take m) = o at *
       generalize hm2 : bktB (c.take (m + 1)) = m2 at *
       have HM2 := hid hm2
       clear hm2
       generalize l[p] = x at *
       generalize hy : l[k] = y at *
       have HY := hid hy
       clear hy
       have hsl := (sameN_le x y).2
       have HSa := hid (HAl.out x y (by omega))
       generalize sameN x y = q at *
       have hdy : (y.drop q).length ≤ 25 := by simp; omega
       have hex := str_from y q
       have htl := textB_len (y.drop q) (by omega)
       have hql := numB_le q (by omega)
       have HNn := hid (HNm.out q (by omega))
       have HTy := hid (HTx.out (y.drop q) (by omega))
       have hw2 : IntKind.u64.wrap (q : Int) = (q : Int) := IntWalk.u64_in _ (by omega)
       have k7 : (0 : Int) ≤ q := by omega
       have k8 : (q : Int) ≤ y.length := by omega
       generalize y.drop q = z at *
       go_upto_region 12 with fail
       go_still_tail 9, (by kernel_rfl)
       change wpList _ _ _ _ _ wr.drew
       have hd0 := (Fr.refl wr).drew
       generalize wr.drew = wd at *
       go_wp2_with fail
       refine (HSa.out _).mono ?_
       rintro e w4 ⟨rfl, hf4⟩
       have hO4 := hO.fr (hd0.trans hf4)
       have hfq4 := hfq.trans (hd0.trans hf4)
       have cy4 := (hd0.trans hf4).cell cy
       go_wp2_with fail
       refine (HNn.out _).mono ?_
       rintro e w5 ⟨v5, rfl, hO5, hf5⟩
       have hO45 := hO4.fr hf5
       go_wp2_with (at_builtin; refine wpList_app eB rfl (.tmp 64) (.tmp 67) 31 rfl Tryz.underlying31 _ rfl hO45 _ _ rfl hO5.see (by omega) (hfq4.trans hf5).size ?_)
       intro v6 w6 hap6
       have hf6 := hap6.below hO45 (hfq4.trans hf5) (Nat.le_refl _) (hfq4.trans hf5).size
       have hO6 := hap6.own
       obtain ⟨bz, offz, capz, hvz, cz⟩ := HS.out w6 (hf.trans hf6) k hmn2.2
       rw [HY.out] at cz
       cases hvz
       clear cx cy cy4 hO45 hO5 hap6 hO4 hO
       go_wp2_with fail
       refine (HTy.out _).mono ?_
       rintro e w7 ⟨v7, rfl, hO7, hf7⟩
       have hO67 := hO6.fr hf7
       have hf67 := Fr.trans hf6 hf7
       go_wp2_with (at_builtin; refine wpList_app eB rfl (.tmp 69) (.tmp 76) 31 rfl Tryz.underlying31 _ rfl hO67 _ _ rfl hO7.see ?c1 hf67.size ?_)
       case c1 => first | omega | (simp; omega)
       intro v8 w8 hap8
       have hf8 := hap8.below hO67 hf67 (Nat.le_refl _) hf67.size
       have hO8 := hap8.own
       clear hap8 hO67 hO7 cz
       have hEq : Hid (m2 = o ++ numB q ++ textB z) := by show _ = _; rw [HN.out]; simp
       go_wp2_with fail
       go_roundw
       case rel => exact ⟨m + 1, k + 1, by omega, by omega, by show _ = _; have := HKm.out; omega, by go_num, by rw [HM2.out, hEq.out]; simpa using hO8, hf8⟩
       case measure => simp [intOf]; omega
     · have HmE : Hid (m = c.length) := by show _ = _; omega
       rw [HmE.out, HCAll.out] at hO hol ⊢
       have hkE : ¬ ((k : Int) < (i : Int) + n ∧ (k : Int) < l.length) := by have := HCL.out; have := HKm.out; have := HmE.out; omega
       have hlen3 : (bktB c).length < 18446744073709551616 := by omega
       have HNl := hid (HNm.out (bktB c).length hlen3)
       have hnl3 := numB_le (bktB c).length hlen3
       have hw3 : IntKind.u64.wrap ((bktB c).length : Int) = ((bktB c).length : Int) := IntWalk.u64_in _ (by omega)
       clear hlen3
       have hHq := hH.fr hfq
       have hBq := hB.fr hfq
       have hfo := hf.trans hfq
       have hapb : (Value.slice oa (bktB c).length oc).ownBlock = none ∨ (Value.slice oa (bktB c).length oc).ownBlock ≠ (Value.slice ba bd.length bc).ownBlock := by
        exact apart_of hB hO (Nat.le_refl _)
       have hapH : (Value.slice oa (bktB c).length oc).ownBlock = none ∨ (Value.slice oa (bktB c).length oc).ownBlock ≠ (Value.slice ha hh.length hc).ownBlock := by
        have := apart_of hH hO (Nat.le_refl _)
        simpa using this
       clear hH hB
       generalize hbb : bktB c = bb at *
       have HCe := hid hbb
       clear hbb
       go_upto_region 10 with fail
       go_cut [51] from 41 to 51 (fun cv wx => cv = .bool false ∧ wx = wr)
       case first =>
        by_cases q1 : (k : Int) < (i : Int) + n
        · have q2 : ¬ (k : Int) < l.length := fun h => hkE ⟨q1, h⟩
          clear hkE
          go_wp2_with fail
          go_meet
          exact ⟨rfl, rfl⟩
        · clear hkE
          go_wp2_with fail
          go_meet
          exact ⟨rfl, rfl⟩
       case rest =>
        obtain ⟨rfl, hwx⟩ := hcut
        subst hwx
        clear hkE
        go_wp2_with fail
        refine (HNl.out _).mono ?_
        rintro e w4 ⟨v4, rfl, hO4, hf4⟩
        have hH4 := hHq.fr hf4
        have hB4 := hBq.fr hf4
        have hO4b := hO.fr hf4
        have hfo4 := hfo.trans hf4
        go_wp2_with (at_builtin; refine wpList_app eB rfl (.tmp 78) (.tmp 82) 31 rfl Tryz.underlying31 _ rfl hH4 _ _ rfl hO4.see ?c1 hfo4.size ?_)
        case c1 => first | omega | (simp; omega)
        intro v5 w5 hap5
        have hf5 := hap5.below hH4 hfo4 (Nat.le_refl _) hfo4.size
        have hH5 := hap5.own
        have hB5 := hap5.other hB4 (by simpa using hap)
        have hO5 := hap5.other hO4b (by simpa using hapH)
        have hap51 := hap5.apart hB4 (by simpa using hap)
        obtain ⟨h5a, h5c, hv5⟩ := hH5.shape'
        subst hv5
        clear hap5 hO4 hH4 hB4 hO4b
        go_wp2_with (at_builtin; refine wpList_app eB rfl (.tmp 84) (.tmp 85) 31 rfl Tryz.underlying31 _ rfl hB5 _ _ rfl hO5.see ?c1 hf5.size ?_)
        case c1 => first | omega | (simp; omega)
        intro v6 w6 hap6
        have hf6 := hap6.below hB5 hf5 (Nat.le_refl _) hf5.size
        have hB6 := hap6.own
        have hH6 := hap6.other hH5 (ne_flip hap51)
        have hap61 := hap6.apart hH5 (ne_flip hap51)
        obtain ⟨b6a, b6c, hv6⟩ := hB6.shape'
        subst hv6
        go_wp2_with fail
        go_roundw
        case rel => exact ⟨j + 1, by omega, by rw [HNx.out]; go_num, by rw [HD2.out, HH2.out, ← List.append_assoc, ← HHe.out]; simpa using hH6, by rw [HBD2.out, HB2.out]; simpa using hB6, by simpa using ne_flip hap61, hf6⟩
        case measure => simp [intOf]; omega
  · obtain rfl : j = CN := by omega
    have hnj : ¬ j * n < l.length := fun h => by have := (HCk.out j).2 h; omega
    have hle := HCm.out
    have HDD := hid HD.out
    clear HD HHs HBs
    generalize ((CK.take j).map fun c => numB (bktB c).length).flatten = hd at *
    generalize ((CK.take j).map bktB).flatten = bd at *
    obtain ⟨hh, hhe⟩ : ∃ hh, hh = nb ++ hd := ⟨_, rfl⟩
    rw [← hhe] at hH HDD
    have hhhl : hh.length ≤ 100640 := by rw [hhe, List.length_append]; omega
    clear hhe
    generalize j * n = i at *
    have i2 : ¬ (i : Int) < l.length := by omega
    obtain ⟨ha, hc, hhv⟩ := hH.shape'
    subst hhv
    obtain ⟨ba, bc, hbv⟩ := hB.shape'
    subst hbv
    go_wp2_with (at_builtin; refine wpList_app eB rfl (.tmp 87) (.tmp 88) 31 rfl Tryz.underlying31 _ rfl hH _ _ rfl hB.see ?c1 hf.size ?_)
    case c1 => first | omega | (simp; omega)
    intro v5 w5 hap5
    have hf5 := hap5.below hH hf (Nat.le_refl _) hf.size
    have hH5 := hap5.own
    obtain ⟨h5a, h5c, hv5⟩ := hH5.shape'
    subst hv5
    clear hap5 hH hB
    go_wp2_with fail
    go_ret2
    exact ⟨_, by rfl, by rw [HDD.out]; simpa using hH5, hf5⟩
set_option maxRecDepth 512
attribute [local go_sem] Oper.semAt_some
section
variable {P : Program} {α : Type} {w : World} {base : Nat} {v : Value} {l : List α} {F : Fence} {nF : Nat}
theorem step_appIn (E : Elt P α) {ops : Array Oper} {o : Oper} {a : Act} {K : Act → World → Prop} {Q : Exit → Act → World → Prop} {X : Prop} (hgd : o.guard = none) (s x : Operand) (t : TypeId)
  (ho : o.op = .call { callee := .builtin .append, args := #[s, x], argTypes := #[t, t] }) (ht : P.underlying t = some (.slice E.e))
  (base : Nat) (hs : a.eval s = v) (hown : Ow w base E v l) (y : Value) (m : List α) (hx : a.eval x = y) (hsee : See w E y m) (hn : l.length + m.length ≤ 2147483648) (hbase : base ≤ w.heap.size)
  (h : ∀ v' w', App base E (l ++ m) w v v' w' → K (a.put o.dst v') w') : if Region.wanted o (yielded ops a.tmps) = true then Oper.wpIn F nF P o a w K Q else X := by
 have hw : Region.wanted o (yielded ops a.tmps) = true := by simp [Region.wanted, hgd]
 rw [if_pos hw]
 obtain ⟨v', w', hr, h2⟩ := run_app (P := P) E w base t o.type ht hown hsee hn hbase
 unfold Oper.wpIn
 refine ⟨?_, ?_⟩
 · simp [Oper.about, ho, resolve, Target.leads, Sem.run_pure]
 · rw [Oper.semAt_plain F _ _ (by rw [ho]; intro c hc'; cases hc')]
   simp [execOp, ho, resolve, invoke, builtin, hs, hx, hr, Result.andThen]
   exact h v' w' h2
end
abbrev dwOps : Array Oper := #[{ dst := some 31, op := Op.load 31 (Operand.tmp 6), type := 31, pos := "dict.go:70", after := #[], guard := none },
 { dst := some 32, op := Op.move (Operand.tmp 9), type := 31, pos := "dict.go:70", after := #[], guard := none },
 { dst := some 33, op := Op.call { callee := Callee.builtin Builtin.len, args := #[Operand.tmp 32], argTypes := #[31] }, type := 3, pos := "dict.go:70", after := #[{ on := 1, ground := Ground.data }], guard := none },
 { dst := some 34, op := Op.convert 3 38 (Operand.tmp 33), type := 38, pos := "dict.go:70", after := #[{ on := 2, ground := Ground.data }], guard := none },
 { dst := some 35, op := Op.call { callee := Callee.value (Operand.func 58), args := #[Operand.tmp 34], argTypes := #[38] }, type := 31, pos := "dict.go:70", after := #[{ on := 3, ground := Ground.data }], guard := none },
 { dst := some 36, op := Op.call { callee := Callee.builtin Builtin.append, args := #[Operand.tmp 31, Operand.tmp 35], argTypes := #[31, 31] }, type := 31, pos := "dict.go:70", after := #[{ on := 0, ground := Ground.data }, { on := 4, ground := Ground.data }, { on := 4, ground := Ground.chain }], guard := none },
 { dst := none, op := Op.store 31 (Operand.tmp 6) (Operand.tmp 36), type := 0, pos := "dict.go:70", after := #[{ on := 5, ground := Ground.data }, { on := 5, ground := Ground.chain }, { on := 0, ground := Ground.phase }, { on := 1, ground := Ground.phase }, { on := 2, ground := Ground.phase }, { on := 3, ground := Ground.phase }, { on := 4, ground := Ground.phase }, { on := 5, ground := Ground.phase }], guard := none }]
abbrev dwA (n len nbl : Nat) (a0 : Option Addr) (cap : Nat) (va : Option Addr) (vc H : Nat) (xv t8 t9 t29 t30 t31 t32 t33 t34 t35 t36 t37 t38 t39 : Value) : Act :=
 { tmps := #[N n, .slice a0 len cap, undef, undef, .slice none 0 0, .int .i64 0, .pointer (some ⟨H, 0, none⟩), .pointer (some ⟨H + 1, 0, none⟩), t8, t9, N n, .bool false, .bool false, N n, .bool false, .bool false, .bool false, .slice a0 len cap, .bool true, .bool false, .bool false, .slice a0 len cap, .int .i64 (len : Int), .int .u64 (len : Int), .slice va nbl vc, .slice a0 len cap, N n, .func (.func 145) #[] #[.pointer (some ⟨H + 1 + 1, 0, none⟩), .pointer (some ⟨H + 1 + 1 + 1, 0, none⟩)], xv, t29, t30, t31, t32, t33, t34, t35, t36, t37, t38, t39, undef, undef, undef, undef], defers := [] }
theorem dw_end {W w5 w6 : World} {H B n6 vc6 : Nat} {va6 : Option Addr} {hv : Value} {hd L : List UInt8} (hO : Ow W B eB hv hd) (hf : Fr W w5) (hH6 : w6.heap[H]? = some (.cells #[hv] 31 (0, 0))) (hO6 : Ow w6 B eB (.slice va6 n6 vc6) L)
  (hC : Chg (fun k => hv.ownBlock = some k) w5 w6) (hF : ∀ b, (Value.slice va6 n6 vc6).ownBlock = some b → hv.ownBlock = some b ∨ w5.heap.size ≤ b) :
  (w6.setCell ⟨H, 0, none⟩ (.slice va6 n6 vc6)).heap[H]? = some (.cells #[.slice va6 n6 vc6] 31 (0, 0)) ∧ Ow (w6.setCell ⟨H, 0, none⟩ (.slice va6 n6 vc6)) B eB (.slice va6 n6 vc6) L ∧
   Chg (fun k => k = H ∨ hv.ownBlock = some k) W (w6.setCell ⟨H, 0, none⟩ (.slice va6 n6 vc6)) ∧ (∀ b, (Value.slice va6 n6 vc6).ownBlock = some b → hv.ownBlock = some b ∨ W.heap.size ≤ b) := by
 have hst := setCell_chg w6 ⟨H, 0, none⟩ (.slice va6 n6 vc6)
 have hne := hO6.ne_cells hH6 (by decide)
 refine ⟨by have := heap_setCell_own hH6 0 (.slice va6 n6 vc6); simpa using this, hO6.chg hst (fun k hk e => hne (by rw [hk, e])), ?_, fun b hb => (hF b hb).imp id (fun h => Nat.le_trans hf.size h)⟩
 exact ((hf.chg (fun k => k = H ∨ hv.ownBlock = some k)).trans (hC.mono (fun k _ e => .inr e)) (fun _ _ h => h)).trans hst (fun _ _ h => .inl h)
set_option maxRecDepth 100000
theorem dw_region (lr m : Nat) (n len nbl : Nat) (a0 : Option Addr) (cap : Nat) (va : Option Addr) (vc H B : Nat) (xv t8 t29 t30 : Value) (ba : Option Addr) (bn bc : Nat) (hv : Value) (hd : List UInt8) (W : World) (Q : Exit → Act → World → Prop)
  (hH : W.heap[H]? = some (.cells #[hv] 31 (0, 0))) (hO : Ow W B eB hv hd) (hBW : B ≤ W.heap.size) (hbn : bn ≤ 1000000) (hdl : hd.length ≤ 1000000)
  (hQ : ∀ w' hv' t31 t35 t36, w'.heap[H]? = some (.cells #[hv'] 31 (0, 0)) → Ow w' B eB hv' (hd ++ numB bn) → Chg (fun k => k = H ∨ hv.ownBlock = some k) W w' → (∀ b, hv'.ownBlock = some b → hv.ownBlock = some b ∨ W.heap.size ≤ b) →
   Q .normal (dwA n len nbl a0 cap va vc H xv t8 (.slice ba bn bc) t29 t30 t31 (.slice ba bn bc) (N bn) (.int .u64 (bn : Int)) t35 t36 undef undef undef) w') :
  (Code.region 8 dwOps true).wpIn (Fence.wide.inRound lr) m Tryz.prog Q (dwA n len nbl a0 cap va vc H xv t8 (.slice ba bn bc) t29 t30 undef undef undef undef undef undef undef undef undef) W := by
 have HNm := hid (Num_any bn (by omega))
 have hnl := numB_le bn (by omega)
 generalize numB bn = nb at *
 have hw1 : IntKind.u64.wrap (bn : Int) = (bn : Int) := IntWalk.u64_in _ (by omega)
 obtain ⟨ha, hc, hhv⟩ := hO.shape'
 subst hhv
 have c0 : W.cell? ⟨H, 0, none⟩ = some (.slice ha hd.length hc) := by rw [cell_of_heap hH]; rfl
 have HH := hid hH
 have HO := hid hO
 have HQ := hid hQ
 clear hH hO hQ
 refine wpIn_region_any (by kernel_rfl) ?_
 change wpAnyIn _ _ _ _ _ _ _ _ _ (World.drew _)
 have hfw : Fr W W.drew := (Fr.refl W).drew
 refine wpAnyIn_ready (rs := [0, 1]) (by kernel_rfl) (by simp) ?_
 refine AllReadyIn.cons rfl (fun K hK => ?_) ?_
 · skip
   go_simp
   refine hK _ _ ?_
   clear hK K
   refine wpAnyIn_ready (rs := [1]) (by kernel_rfl) (by simp) ?_
   refine AllReadyIn.cons rfl (fun K hK => ?_) AllReadyIn.nil
   go_simp
   refine hK _ _ ?_
   clear hK K
   refine wpAnyIn_ready (rs := [2]) (by kernel_rfl) (by simp) ?_
   refine AllReadyIn.cons rfl (fun K hK => ?_) AllReadyIn.nil
   go_simp
   refine hK _ _ ?_
   clear hK K
   refine wpAnyIn_ready (rs := [3]) (by kernel_rfl) (by simp) ?_
   refine AllReadyIn.cons rfl (fun K hK => ?_) AllReadyIn.nil
   go_simp
   refine hK _ _ ?_
   clear hK K
   refine wpAnyIn_ready (rs := [4]) (by kernel_rfl) (by simp) ?_
   refine AllReadyIn.cons rfl (fun K hK => ?_) AllReadyIn.nil
   go_simp
   refine ⟨trivial, by simp [Fence.wide], (CallsIn.inRound lr (callsIn_wide.2 (HNm.out _))).mono ?_⟩
   rintro e w5 ⟨v5, rfl, hO5, hf5⟩
   have c5 := (hfw.trans hf5).cell c0
   refine hK _ _ ?_
   clear hK K
   refine wpAnyIn_ready (rs := [5]) (by kernel_rfl) (by simp) ?_
   refine AllReadyIn.cons rfl (fun K hK => ?_) AllReadyIn.nil
   refine step_appIn eB rfl (.tmp 31) (.tmp 35) 31 rfl Tryz.underlying31 B rfl (HO.out.fr (hfw.trans hf5)) _ _ rfl hO5.see (by omega) (by have := (hfw.trans hf5).size; omega) ?_
   intro v6 w6 hap6
   have hH6 := hap6.chg'.heap ((hfw.trans hf5).heap HH.out) (HO.out.ne_cells HH.out (by decide))
   have hO6 := hap6.own
   have hC6 := hap6.chg'
   have hF6 := hap6.fresh
   obtain ⟨va6, vc6, hv6⟩ := hO6.shape'
   subst hv6
   simp only [List.length_append] at hO6 hF6
   have e6 : w6.cell? ⟨H, 0, none⟩ = some (.slice ha hd.length hc) := by rw [cell_of_heap hH6]; rfl
   have f6 : w6.frozen? ⟨H, 0, none⟩ = false := frozen_of_heap hH6 0
   have HH6 := hid hH6
   clear hH6
   refine hK _ _ ?_
   clear hK K hap6
   refine wpAnyIn_ready (rs := [6]) (by kernel_rfl) (by simp) ?_
   refine AllReadyIn.cons rfl (fun K hK => ?_) AllReadyIn.nil
   go_simp
   refine hK _ _ ?_
   clear hK K
   refine wpAnyIn_done (by kernel_rfl) ?_ _
   obtain ⟨r1, r2, r3, r4⟩ := dw_end HO.out (hfw.trans hf5) HH6.out hO6 hC6 hF6
   exact HQ.out _ _ _ _ _ r1 r2 r3 r4
 refine AllReadyIn.cons rfl (fun K hK => ?_) AllReadyIn.nil
 go_simp
 refine hK _ _ ?_
 clear hK K
 refine wpAnyIn_ready (rs := [0, 2]) (by kernel_rfl) (by simp) ?_
 refine AllReadyIn.cons rfl (fun K hK => ?_) ?_
 · skip
   go_simp
   refine hK _ _ ?_
   clear hK K
   refine wpAnyIn_ready (rs := [2]) (by kernel_rfl) (by simp) ?_
   refine AllReadyIn.cons rfl (fun K hK => ?_) AllReadyIn.nil
   go_simp
   refine hK _ _ ?_
   clear hK K
   refine wpAnyIn_ready (rs := [3]) (by kernel_rfl) (by simp) ?_
   refine AllReadyIn.cons rfl (fun K hK => ?_) AllReadyIn.nil
   go_simp
   refine hK _ _ ?_
   clear hK K
   refine wpAnyIn_ready (rs := [4]) (by kernel_rfl) (by simp) ?_
   refine AllReadyIn.cons rfl (fun K hK => ?_) AllReadyIn.nil
   go_simp
   refine ⟨trivial, by simp [Fence.wide], (CallsIn.inRound lr (callsIn_wide.2 (HNm.out _))).mono ?_⟩
   rintro e w5 ⟨v5, rfl, hO5, hf5⟩
   have c5 := (hfw.trans hf5).cell c0
   refine hK _ _ ?_
   clear hK K
   refine wpAnyIn_ready (rs := [5]) (by kernel_rfl) (by simp) ?_
   refine AllReadyIn.cons rfl (fun K hK => ?_) AllReadyIn.nil
   refine step_appIn eB rfl (.tmp 31) (.tmp 35) 31 rfl Tryz.underlying31 B rfl (HO.out.fr (hfw.trans hf5)) _ _ rfl hO5.see (by omega) (by have := (hfw.trans hf5).size; omega) ?_
   intro v6 w6 hap6
   have hH6 := hap6.chg'.heap ((hfw.trans hf5).heap HH.out) (HO.out.ne_cells HH.out (by decide))
   have hO6 := hap6.own
   have hC6 := hap6.chg'
   have hF6 := hap6.fresh
   obtain ⟨va6, vc6, hv6⟩ := hO6.shape'
   subst hv6
   simp only [List.length_append] at hO6 hF6
   have e6 : w6.cell? ⟨H, 0, none⟩ = some (.slice ha hd.length hc) := by rw [cell_of_heap hH6]; rfl
   have f6 : w6.frozen? ⟨H, 0, none⟩ = false := frozen_of_heap hH6 0
   have HH6 := hid hH6
   clear hH6
   refine hK _ _ ?_
   clear hK K hap6
   refine wpAnyIn_ready (rs := [6]) (by kernel_rfl) (by simp) ?_
   refine AllReadyIn.cons rfl (fun K hK => ?_) AllReadyIn.nil
   go_simp
   refine hK _ _ ?_
   clear hK K
   refine wpAnyIn_done (by kernel_rfl) ?_ _
   obtain ⟨r1, r2, r3, r4⟩ := dw_end HO.out (hfw.trans hf5) HH6.out hO6 hC6 hF6
   exact HQ.out _ _ _ _ _ r1 r2 r3 r4
 refine AllReadyIn.cons rfl (fun K hK => ?_) AllReadyIn.nil
 go_simp
 refine hK _ _ ?_
 clear hK K
 refine wpAnyIn_ready (rs := [0, 3]) (by kernel_rfl) (by simp) ?_
 refine AllReadyIn.cons rfl (fun K hK => ?_) ?_
 · skip
   go_simp
   refine hK _ _ ?_
   clear hK K
   refine wpAnyIn_ready (rs := [3]) (by kernel_rfl) (by simp) ?_
   refine AllReadyIn.cons rfl (fun K hK => ?_) AllReadyIn.nil
   go_simp
   refine hK _ _ ?_
   clear hK K
   refine wpAnyIn_ready (rs := [4]) (by kernel_rfl) (by simp) ?_
   refine AllReadyIn.cons rfl (fun K hK => ?_) AllReadyIn.nil
   go_simp
   refine ⟨trivial, by simp [Fence.wide], (CallsIn.inRound lr (callsIn_wide.2 (HNm.out _))).mono ?_⟩
   rintro e w5 ⟨v5, rfl, hO5, hf5⟩
   have c5 := (hfw.trans hf5).cell c0
   refine hK _ _ ?_
   clear hK K
   refine wpAnyIn_ready (rs := [5]) (by kernel_rfl) (by simp) ?_
   refine AllReadyIn.cons rfl (fun K hK => ?_) AllReadyIn.nil
   refine step_appIn eB rfl (.tmp 31) (.tmp 35) 31 rfl Tryz.underlying31 B rfl (HO.out.fr (hfw.trans hf5)) _ _ rfl hO5.see (by omega) (by have := (hfw.trans hf5).size; omega) ?_
   intro v6 w6 hap6
   have hH6 := hap6.chg'.heap ((hfw.trans hf5).heap HH.out) (HO.out.ne_cells HH.out (by decide))
   have hO6 := hap6.own
   have hC6 := hap6.chg'
   have hF6 := hap6.fresh
   obtain ⟨va6, vc6, hv6⟩ := hO6.shape'
   subst hv6
   simp only [List.length_append] at hO6 hF6
   have e6 : w6.cell? ⟨H, 0, none⟩ = some (.slice ha hd.length hc) := by rw [cell_of_heap hH6]; rfl
   have f6 : w6.frozen? ⟨H, 0, none⟩ = false := frozen_of_heap hH6 0
   have HH6 := hid hH6
   clear hH6
   refine hK _ _ ?_
   clear hK K hap6
   refine wpAnyIn_ready (rs := [6]) (by kernel_rfl) (by simp) ?_
   refine AllReadyIn.cons rfl (fun K hK => ?_) AllReadyIn.nil
   go_simp
   refine hK _ _ ?_
   clear hK K
   refine wpAnyIn_done (by kernel_rfl) ?_ _
   obtain ⟨r1, r2, r3, r4⟩ := dw_end HO.out (hfw.trans hf5) HH6.out hO6 hC6 hF6
   exact HQ.out _ _ _ _ _ r1 r2 r3 r4
 refine AllReadyIn.cons rfl (fun K hK => ?_) AllReadyIn.nil
 go_simp
 refine hK _ _ ?_
 clear hK K
 refine wpAnyIn_ready (rs := [0, 4]) (by kernel_rfl) (by simp) ?_
 refine AllReadyIn.cons rfl (fun K hK => ?_) ?_
 · skip
   go_simp
   refine hK _ _ ?_
   clear hK K
   refine wpAnyIn_ready (rs := [4]) (by kernel_rfl) (by simp) ?_
   refine AllReadyIn.cons rfl (fun K hK => ?_) AllReadyIn.nil
   go_simp
   refine ⟨trivial, by simp [Fence.wide], (CallsIn.inRound lr (callsIn_wide.2 (HNm.out _))).mono ?_⟩
   rintro e w5 ⟨v5, rfl, hO5, hf5⟩
   have c5 := (hfw.trans hf5).cell c0
   refine hK _ _ ?_
   clear hK K
   refine wpAnyIn_ready (rs := [5]) (by kernel_rfl) (by simp) ?_
   refine AllReadyIn.cons rfl (fun K hK => ?_) AllReadyIn.nil
   refine step_appIn eB rfl (.tmp 31) (.tmp 35) 31 rfl Tryz.underlying31 B rfl (HO.out.fr (hfw.trans hf5)) _ _ rfl hO5.see (by omega) (by have := (hfw.trans hf5).size; omega) ?_
   intro v6 w6 hap6
   have hH6 := hap6.chg'.heap ((hfw.trans hf5).heap HH.out) (HO.out.ne_cells HH.out (by decide))
   have hO6 := hap6.own
   have hC6 := hap6.chg'
   have hF6 := hap6.fresh
   obtain ⟨va6, vc6, hv6⟩ := hO6.shape'
   subst hv6
   simp only [List.length_append] at hO6 hF6
   have e6 : w6.cell? ⟨H, 0, none⟩ = some (.slice ha hd.length hc) := by rw [cell_of_heap hH6]; rfl
   have f6 : w6.frozen? ⟨H, 0, none⟩ = false := frozen_of_heap hH6 0
   have HH6 := hid hH6
   clear hH6
   refine hK _ _ ?_
   clear hK K hap6
   refine wpAnyIn_ready (rs := [6]) (by kernel_rfl) (by simp) ?_
   refine AllReadyIn.cons rfl (fun K hK => ?_) AllReadyIn.nil
   go_simp
   refine hK _ _ ?_
   clear hK K
   refine wpAnyIn_done (by kernel_rfl) ?_ _
   obtain ⟨r1, r2, r3, r4⟩ := dw_end HO.out (hfw.trans hf5) HH6.out hO6 hC6 hF6
   exact HQ.out _ _ _ _ _ r1 r2 r3 r4
 refine AllReadyIn.cons rfl (fun K hK => ?_) AllReadyIn.nil
 go_simp
 refine ⟨trivial, by simp [Fence.wide], (CallsIn.inRound lr (callsIn_wide.2 (HNm.out _))).mono ?_⟩
 rintro e w5 ⟨v5, rfl, hO5, hf5⟩
 have c5 := (hfw.trans hf5).cell c0
 refine hK _ _ ?_
 clear hK K
 refine wpAnyIn_ready (rs := [0]) (by kernel_rfl) (by simp) ?_
 refine AllReadyIn.cons rfl (fun K hK => ?_) AllReadyIn.nil
 go_simp
 refine hK _ _ ?_
 clear hK K
 refine wpAnyIn_ready (rs := [5]) (by kernel_rfl) (by simp) ?_
 refine AllReadyIn.cons rfl (fun K hK => ?_) AllReadyIn.nil
 refine step_appIn eB rfl (.tmp 31) (.tmp 35) 31 rfl Tryz.underlying31 B rfl (HO.out.fr (hfw.trans hf5)) _ _ rfl hO5.see (by omega) (by have := (hfw.trans hf5).size; omega) ?_
 intro v6 w6 hap6
 have hH6 := hap6.chg'.heap ((hfw.trans hf5).heap HH.out) (HO.out.ne_cells HH.out (by decide))
 have hO6 := hap6.own
 have hC6 := hap6.chg'
 have hF6 := hap6.fresh
 obtain ⟨va6, vc6, hv6⟩ := hO6.shape'
 subst hv6
 simp only [List.length_append] at hO6 hF6
 have e6 : w6.cell? ⟨H, 0, none⟩ = some (.slice ha hd.length hc) := by rw [cell_of_heap hH6]; rfl
 have f6 : w6.frozen? ⟨H, 0, none⟩ = false := frozen_of_heap hH6 0
 have HH6 := hid hH6
 clear hH6
 refine hK _ _ ?_
 clear hK K hap6
 refine wpAnyIn_ready (rs := [6]) (by kernel_rfl) (by simp) ?_
 refine AllReadyIn.cons rfl (fun K hK => ?_) AllReadyIn.nil
 go_simp
 refine hK _ _ ?_
 clear hK K
 refine wpAnyIn_done (by kernel_rfl) ?_ _
 obtain ⟨r1, r2, r3, r4⟩ := dw_end HO.out (hfw.trans hf5) HH6.out hO6 hC6 hF6
 exact HQ.out _ _ _ _ _ r1 r2 r3 r4
set_option maxRecDepth 512
attribute [local go_sem] Oper.semAt_some
theorem chunk_see1 {w : World} {v : Value} {l : List (List UInt8)} {b off n : Nat} (hn : 1 ≤ n) (h : See w eS v l) (hv : l = [] ∨ ∃ cap, v = .slice (some ⟨b, off, none⟩) l.length cap) (j : Nat) (hj : j < ckN l.length n) :
  See w eS (ckHd b off l.length n j).v ((l.drop (j * n)).take n) := by
 have hlt := (ckN_lt l.length n hn j).1 hj
 rcases hv with rfl | ⟨cap, rfl⟩
 · simp at hlt
 · obtain ⟨_, _, hsv, hc1, hc2, _⟩ := h.shape
   cases hsv
   have hp := see_part h (j * n) (min n (l.length - j * n)) (min n (l.length - j * n)) (by omega) (Nat.le_refl _) (by omega)
   rw [show (eS : Elt Tryz.prog (List UInt8)).k = 1 from rfl, Nat.mul_one] at hp
   have e2 : (l.drop (j * n)).take (min n (l.length - j * n)) = (l.drop (j * n)).take n := by
    rcases Nat.le_total n (l.length - j * n) with hh | hh
    · rw [Nat.min_eq_left hh]
    · rw [Nat.min_eq_right hh, List.take_of_length_le (by simp), List.take_of_length_le (by simp; omega)]
   rw [e2] at hp
   exact hp
theorem keeps_chg {G : Nat → Prop} {W W' : World} (h : Chg G W W') (hG : ∀ k o, W.heap[k]? = some o → G k → o.isCells = true) : KeepsOthers W W' :=
 ⟨h.size, fun k o ho hc => h.heap ho fun g => by rw [hG k o ho g] at hc; cases hc⟩
def DwI {α : Type} (w0 : World) (H B n : Nat) (vs : Value) (nb : List UInt8) (hf bf : α → List UInt8) (pre : List α) (W : World) : Prop :=
 ∃ hv bv, W.heap[H]? = some (.cells #[hv] 31 (0, 0)) ∧ W.heap[H + 1]? = some (.cells #[bv] 31 (0, 0)) ∧ W.heap[H + 1 + 1]? = some (.cells #[vs] 64 (0, 0)) ∧ W.heap[H + 1 + 1 + 1]? = some (.cells #[N n] 3 (0, 0)) ∧
  Ow W B eB hv (nb ++ (pre.map hf).flatten) ∧ Ow W B eB bv (pre.map bf).flatten ∧ (bv.ownBlock = none ∨ bv.ownBlock ≠ hv.ownBlock) ∧ Fr w0 W
theorem DwI.own {α : Type} (w0 : World) (H B n D : Nat) (vs : Value) (nb : List UInt8) (hf bf : α → List UInt8) (hD : w0.heap.size ≤ D) : OwnFrom D (DwI w0 H B n vs nb hf bf) := by
 rintro s W W' row ⟨hv, bv, h1, h2, h3, h4, h5, h6, h7, h8⟩ hg hr
 have hne : ∀ {q : Nat} {o : Obj}, W.heap[q]? = some o → o.isCells = true → W'.heap[q]? = some o := fun {q o} hq ho => by
  rw [hg.block q (Array.getElem?_eq_some_iff.1 hq).1 (fun e => by
   obtain ⟨_, o', ho', hc⟩ := hr q e.symm
   rw [hq] at ho'; cases ho'; rw [ho] at hc; cases hc)]
  exact hq
 refine ⟨hv, bv, hne h1 rfl, hne h2 rfl, hne h3 rfl, hne h4 rfl, ow_keptG h5 hg (fun r e => (hr r e).2), ow_keptG h6 hg (fun r e => (hr r e).2), h7, ?_⟩
 exact h8.own hg (fun k e => by have := (hr k e).1; omega)
theorem pre_heads (l : List (List UInt8)) (n : Nat) (hn : 1 ≤ n) (hn2 : n ≤ 64) (hl : l.length ≤ 10000) (hb : ∀ s ∈ l, s.length ≤ 25) (pre : List (Fin (ckN l.length n))) (hp : pre.length < ckN l.length n) :
  ((pre.map fun j : Fin (ckN l.length n) => numB (bktB ((l.drop (j.val * n)).take n)).length).flatten).length ≤ 100630 := by
 rw [flat_len]
 refine Nat.le_trans (wtS_le _ 10 _ fun j _ => ?_) ?_
 · have h2 := bktB_len 25 (by omega) ((l.drop (j.val * n)).take n) (fun s hs => hb s (List.mem_of_mem_drop (List.mem_of_mem_take hs)))
   have h3 : ((l.drop (j.val * n)).take n).length * (25 + 20) ≤ 64 * 45 := Nat.mul_le_mul (by rw [List.length_take]; omega) (Nat.le_refl _)
   exact numB_le _ (by omega)
 · have h1 := ckN_mul l.length n hn
   have h3 : ckN l.length n * 1 ≤ ckN l.length n * n := Nat.mul_le_mul_left _ hn
   omega
theorem pre_bodies (l : List (List UInt8)) (n : Nat) (hn : 1 ≤ n) (hn2 : n ≤ 64) (hl : l.length ≤ 10000) (hb : ∀ s ∈ l, s.length ≤ 25) (pre : List (Fin (ckN l.length n))) (hp : pre.length < ckN l.length n) :
  ((pre.map fun j : Fin (ckN l.length n) => bktB ((l.drop (j.val * n)).take n)).flatten).length ≤ 452880 := by
 rw [flat_len]
 refine Nat.le_trans (wtS_le _ (45 * n) _ fun j _ => ?_) ?_
 · have h2 := bktB_len 25 (by omega) ((l.drop (j.val * n)).take n) (fun s hs => hb s (List.mem_of_mem_drop (List.mem_of_mem_take hs)))
   have h3 : ((l.drop (j.val * n)).take n).length * (25 + 20) ≤ n * 45 := Nat.mul_le_mul (by rw [List.length_take]; omega) (Nat.le_refl _)
   have h4 : 45 * n = n * 45 := Nat.mul_comm _ _
   show (bktB _).length ≤ _
   omega
 · have h1 := ckN_mul l.length n hn
   have h3 : pre.length * (45 * n) ≤ ckN l.length n * (45 * n) := Nat.mul_le_mul_right _ (by omega)
   have h4 : ckN l.length n * (45 * n) = 45 * (ckN l.length n * n) := by rw [Nat.mul_left_comm]
   omega
theorem finRange_map {β : Type} (M : Nat) (f : Nat → β) : (List.finRange M).map (fun j : Fin M => f j.val) = (List.range M).map f := by
 apply List.ext_getElem
 · simp
 · intro i h1 h2
   simp
set_option maxRecDepth 100000
theorem DWrite_any (n : Nat) (hn1 : 1 ≤ n) (hn2 : n ≤ 64) (v : Value) (l : List (List UInt8)) (w : World) (hs : See w eS v l) (hk : txtOk l) (hl : l.length ≤ 10000) :
  Calls Tryz.prog 63 #[N n, v] w fun e w' => ∃ u, e = .returned (.tuple #[u, .int .i64 0]) ∧ Ow w' w.heap.size eB u (dictB n l) ∧ Fr w w' := by
 obtain ⟨a0, cap, hv, hcap1, hcap2, hnone⟩ := hs.shape
 subst hv
 have HS := hid hs
 have hb25 : ∀ s ∈ l, s.length ≤ 25 := fun s h => (hk.2.1 s h).2
 have HM := hid (drises_any _ l w hs hk)
 have HN0 := hid (Num_any l.length (by omega))
 have hnl := numB_le l.length (by omega)
 have HHl := hid (fun j => heads_len l n j hn1 hn2 hl hb25)
 have HBl := hid (fun j => bodies_len l n j hn1 hn2 hl hb25)
 have HB := hid hb25
 have HD : Hid (dictB n l = (numB l.length ++ ((chunksL l n).map fun c => numB (bktB c).length).flatten) ++ ((chunksL l n).map bktB).flatten) := rfl
 clear hs hnone hb25
 generalize dictB n l = T at *
 generalize numB l.length = nb at *
 have j1 : ¬ (n : Int) < 1 := by omega
 have j2 : ¬ (64 : Int) < n := by omega
 have hw1 : IntKind.u64.wrap (l.length : Int) = (l.length : Int) := IntWalk.u64_in _ (by omega)
 have HCh := hid (fun W => chunkS_any a0 l.length cap n hn1 W)
 refine (callsIn_wide (n := 9)).1 ?_
 refine callsIn_of_wp_marks Tryz.func63 rfl trivial ?_ rfl
 simp only [Tryz.ntmps63, List.size_toArray, List.length_cons, List.length_nil, Nat.reduceAdd, Nat.reduceSub, Array.replicate_succ, Array.replicate_zero, List.push_toArray, List.append_toArray, List.nil_append, List.cons_append]
 have hfA : Fence.wide.fn 99 := trivial
 have hfB : Fence.wide.fn 58 := trivial
 have hfC : Fence.wide.fn 100 := trivial
 gi_wp2_with (first
  | (gi_at_call 99; refine (callsIn_wide.2 HM.out).mono ?_; rintro e w1 ⟨rfl, rfl⟩)
  | (gi_at_call 58; refine (callsIn_wide.2 (HN0.out _)).mono ?_; rintro e w2 ⟨v2, rfl, hO2, hf2⟩; obtain ⟨va, vc, hv2⟩ := hO2.shape'; subst hv2)
  | (gi_at_call 100; refine (callsIn_wide.2 (HCh.out _)).mono ?_; rintro e w3 ⟨rfl, rfl⟩))
 have hsz1 : (w2.alloc (.cells #[.slice va nb.length vc] 31)).heap.size = w2.heap.size + 1 := size_alloc _ _
 have hsz2 : ((w2.alloc (.cells #[.slice va nb.length vc] 31)).alloc (.cells #[.slice none 0 0] 31)).heap.size = w2.heap.size + 1 + 1 := by rw [size_alloc, hsz1]
 have hsz3 : (((w2.alloc (.cells #[.slice va nb.length vc] 31)).alloc (.cells #[.slice none 0 0] 31)).alloc (.cells #[.slice a0 l.length cap] 64)).heap.size = w2.heap.size + 1 + 1 + 1 := by rw [size_alloc, hsz2]
 have hfA1 : Fr w2 (w2.alloc (.cells #[.slice va nb.length vc] 31)) := (Fr.refl w2).alloc _
 have g0 := heap_new w2 (.cells #[.slice va nb.length vc] 31) w2.heap.size rfl
 generalize w2.alloc (.cells #[.slice va nb.length vc] 31) = A1 at *
 have hfA2 : Fr A1 (A1.alloc (.cells #[.slice none 0 0] 31)) := (Fr.refl A1).alloc _
 have g1 := heap_new A1 (.cells #[.slice none 0 0] 31) (w2.heap.size + 1) hsz1.symm
 generalize A1.alloc (.cells #[.slice none 0 0] 31) = A2 at *
 have hfA3 : Fr A2 (A2.alloc (.cells #[.slice a0 l.length cap] 64)) := (Fr.refl A2).alloc _
 have g2 := heap_new A2 (.cells #[.slice a0 l.length cap] 64) (w2.heap.size + 1 + 1) hsz2.symm
 generalize A2.alloc (.cells #[.slice a0 l.length cap] 64) = A3 at *
 have hfA4 : Fr A3 (A3.alloc (.cells #[N n] 3)) := (Fr.refl A3).alloc _
 have g3 := heap_new A3 (.cells #[N n] 3) (w2.heap.size + 1 + 1 + 1) hsz3.symm
 generalize A3.alloc (.cells #[N n] 3) = A4 at *
 have hfw4 : Fr w A4 := hf2.trans (hfA1.trans (hfA2.trans (hfA3.trans hfA4)))
 have k0 := hfA4.heap (hfA3.heap (hfA2.heap g0))
 have k1 := hfA4.heap (hfA3.heap g1)
 have k2 := hfA4.heap g2
 have hO4 := hO2.fr (hfA1.trans (hfA2.trans (hfA3.trans hfA4)))
 have hHl : w2.heap.size + 1 + 1 + 1 < A4.heap.size := (Array.getElem?_eq_some_iff.1 g3).1
 have hHw0 : w.heap.size ≤ w2.heap.size := hf2.size
 generalize w2.heap.size = H at *
 obtain ⟨cb, coff, hcv, hseq⟩ := chunkS_fin (H + 1 + 1) (H + 1 + 1 + 1) (.slice a0 l.length cap) l n hn1 (by omega) (by omega) A4 k2 g3 (HS.out.fr hfw4)
 have HX := hid (fun W (h : Fr w W) j hj => chunk_see1 hn1 (HS.out.fr h) hcv j hj)
 have h0 : DwI w H w.heap.size n (.slice a0 l.length cap) nb (fun j : Fin (ckN l.length n) => numB (bktB ((l.drop (j.val * n)).take n)).length) (fun j : Fin (ckN l.length n) => bktB ((l.drop (j.val * n)).take n)) [] A4 :=
  ⟨_, _, k0, k1, k2, g3, by simpa using hO4, by simpa using Ow.nil, .inl rfl, hfw4⟩
 have hHw : w.heap.size ≤ H := hHw0
 clear hsz1 hsz2 hsz3 hfA1 hfA2 hfA3 hfA4 g0 g1 g2 g3 k0 k1 k2 hO2 hO4 hf2 hcv
 refine wpIn_rangeFunc_ownF rfl (by omega) (gf := 145) (lb := #[.pointer (some ⟨H + 1 + 1, 0, none⟩), .pointer (some ⟨H + 1 + 1 + 1, 0, none⟩)]) rfl trivial (enters_of Tryz.func145 (by kernel_rfl) rfl) (hseq _ (by omega)) (fun h k => KeepB.trans h k) (KeepB.put (by omega) (by omega)) (Below.refl _ A4) (fun _ => rfl)
  _ (fun _ _ _ => False) (DwI.own w H w.heap.size n A4.heap.size _ nb _ _ hfw4.size) (fun _ _ _ _ _ hs _ _ => hs) h0 (fun x => dwA n l.length nb.length a0 cap va vc H (ckHd cb coff l.length n x.val).v (ckHd cb coff l.length n x.val).v undef undef undef undef undef undef undef undef undef undef undef undef) ?assign ?body ?done ?stop
 case assign =>
  intro l x W K hK
  gi_wp2
  exact hK
 case body =>
  rintro lr pre x W ⟨hv, bv, h1, h2, h3, h4, h5, h6, h7, h8⟩ hpl
  have hsee := HX.out W h8 x.val x.isLt
  have hjl : x.val * n < l.length := (ckN_lt l.length n hn1 x.val).1 x.isLt
  have hpre1 : ((pre.map fun j : Fin (ckN l.length n) => numB (bktB ((l.drop (j.val * n)).take n)).length).flatten).length ≤ 100630 := pre_heads l n hn1 hn2 hl HB.out pre hpl
  have hpre2 : ((pre.map fun j : Fin (ckN l.length n) => bktB ((l.drop (j.val * n)).take n)).flatten).length ≤ 452880 := pre_bodies l n hn1 hn2 hl HB.out pre hpl
  obtain ⟨c, hc⟩ : ∃ c, c = (l.drop (x.val * n)).take n := ⟨_, rfl⟩
  have hcl : c.length ≤ n ∧ c ≠ [] := by
   rw [hc]
   refine ⟨by rw [List.length_take]; omega, fun e => ?_⟩
   have := congrArg List.length e
   rw [List.length_take, List.length_drop] at this
   simp at this; omega
  have hc25 : ∀ s ∈ c, s.length ≤ 25 := fun s h => HB.out s (by rw [hc] at h; exact List.mem_of_mem_drop (List.mem_of_mem_take h))
  rw [← hc] at hsee
  have HCe := hid hc
  clear hc
  have HBk := hid (bucket_any _ c W hsee hcl.2 hc25 (by omega))
  have hbl : (bktB c).length ≤ 64 * 45 := by
   have h1 := bktB_len 25 (by omega) c hc25
   have h3 : c.length * (25 + 20) ≤ 64 * 45 := Nat.mul_le_mul (by omega) (Nat.le_refl _)
   omega
  generalize hbe : bktB c = bk at *
  have HBe := hid hbe
  clear hbe hsee hc25 hcl
  have hfD : Fence.wide.fn 101 := trivial
  gi_wp2_with (first
   | (gi_at_call 101; refine (CallsIn.inRound lr (callsIn_wide.2 HBk.out)).mono ?_; rintro e w5 ⟨u5, rfl, hO5, hf5⟩; obtain ⟨ua, uc, hu⟩ := hO5.shape'; subst hu))
  have hBW : w.heap.size ≤ W.heap.size := h8.size
  refine dw_region lr _ n l.length nb.length a0 cap va vc H w.heap.size _ _ _ _ ua bk.length uc hv (nb ++ (pre.map fun j : Fin (ckN l.length n) => numB (bktB ((l.drop (j.val * n)).take n)).length).flatten) w5 _ (hf5.heap h1) (h5.fr hf5) (Nat.le_trans hBW hf5.size) (by omega) (by rw [List.length_append]; omega) ?_
  intro w6 hv' t31 t35 t36 q1 q2 q3 q4
  have n1 := h5.ne_cells h2 (by decide)
  have n2 := h5.ne_cells h3 (by decide)
  have n3 := h5.ne_cells h4 (by decide)
  have n4 := h6.ne_cells h1 (by decide)
  have r2 := q3.heap (hf5.heap h2) (by rintro (e | e); · omega
                                       · exact n1 e)
  have r3 := q3.heap (hf5.heap h3) (by rintro (e | e); · omega
                                       · exact n2 e)
  have r4 := q3.heap (hf5.heap h4) (by rintro (e | e); · omega
                                       · exact n3 e)
  have hB6 := (h6.fr hf5).chg q3 (fun k hk => by
   rintro (e | e)
   · exact n4 (by rw [hk, e])
   · rcases h7 with h7 | h7
     · rw [h7] at hk; cases hk
     · exact h7 (by rw [hk, e]))
  have hU6 := hO5.chg q3 (fun k hk => by
   have i1 := (hO5.lt k hk).1
   rintro (e | e)
   · have := (Array.getElem?_eq_some_iff.1 h1).1; omega
   · have := (h5.lt k e).2; omega)
  have hap6 : bv.ownBlock = none ∨ bv.ownBlock ≠ hv'.ownBlock := by
   cases hbo : bv.ownBlock with
   | none => exact .inl rfl
   | some g =>
    refine .inr fun e => ?_
    rcases q4 g e.symm with e2 | e2
    · rcases h7 with h7 | h7
      · rw [h7] at hbo; cases hbo
      · exact h7 (by rw [hbo, e2])
    · have := (h6.lt g hbo).2; have := hf5.size; omega
  have hF6 : Fr w w6 := Chg.below (h8.trans hf5) q3 (h8.trans hf5).size (fun i e => by
   rcases e with e | e
   · omega
   · have := (h5.lt i e).1; omega)
  obtain ⟨bd, hbd⟩ : ∃ bd, bd = (pre.map fun j : Fin (ckN l.length n) => bktB ((l.drop (j.val * n)).take n)).flatten := ⟨_, rfl⟩
  rw [← hbd] at hB6 hpre2 h6
  have HBd := hid hbd
  clear hbd
  obtain ⟨ba, bc, hbv⟩ := hB6.shape'
  subst hbv
  have c1 : w6.cell? ⟨H + 1, 0, none⟩ = some (.slice ba bd.length bc) := by rw [cell_of_heap r2]; rfl
  have HQ1 := hid q1
  have HR2 := hid r2
  have HR3 := hid r3
  have HR4 := hid r4
  have hK5 : KeepsOthers W w6 := (keeps_chg (hf5.chg (fun _ => False)) (fun _ _ _ e => e.elim)).trans (keeps_chg q3 (fun k o ho e => by
   rcases e with e | e
   · have hx := hf5.heap h1; rw [← e, ho] at hx; cases hx; rfl
   · exact ow_cells (h5.fr hf5) e ho))
  have hKB5 : W.heap[H + 1 + 1]? = w6.heap[H + 1 + 1]? ∧ W.heap[H + 1 + 1 + 1]? = w6.heap[H + 1 + 1 + 1]? := ⟨h3.trans r3.symm, h4.trans r4.symm⟩
  have HK5 := hid (And.intro hK5 hKB5)
  clear h1 h2 h3 h4 h5 h6 h7 q1 r2 r3 r4 q3 q4 n1 n2 n3 n4 hK5 hKB5 hO5
  gi_wp2_with (gi_at_builtin; refine wpListIn_app eB rfl (.tmp 37) (.tmp 38) 31 rfl Tryz.underlying31 _ rfl hB6 _ _ rfl hU6.see (by omega) hF6.size ?_)
  intro v7 w7 hap7
  obtain ⟨va7, vc7, hv7⟩ := hap7.own.shape'
  subst hv7
  have m2 : w7.heap[H + 1]? = some (.cells #[.slice ba bd.length bc] 31 (0, 0)) := hap7.chg'.heap HR2.out (hB6.ne_cells HR2.out (by decide))
  have e7 : w7.cell? ⟨H + 1, 0, none⟩ = some (.slice ba bd.length bc) := by rw [cell_of_heap m2]; rfl
  have f7 : w7.frozen? ⟨H + 1, 0, none⟩ = false := frozen_of_heap m2 0
  gi_wp2
  have o7 := hap7.own
  have fr7 := hap7.fresh
  simp only [List.length_append] at o7 fr7
  obtain ⟨s1, s2, s3, s4⟩ := dw_end hB6 (Fr.refl w6) m2 o7 hap7.chg' fr7
  have p1 := hB6.ne_cells HQ1.out (by decide)
  have p3 := hB6.ne_cells HR3.out (by decide)
  have p4 := hB6.ne_cells HR4.out (by decide)
  have p5 := q2.ne_cells HR2.out (by decide)
  have ap7 := hap7.apart q2 (ne_flip hap6)
  simp only [List.length_append] at ap7
  refine ⟨HK5.out.1.trans (keeps_chg s3 (fun k o ho e => by
   rcases e with e | e
   · have hx := HR2.out; rw [← e, ho] at hx; cases hx; rfl
   · exact ow_cells hB6 e ho)), ?_, hv', _, ?_, s1, ?_, ?_, ?_, ?_, ne_flip ap7, ?_⟩
  · refine ⟨?_, ?_⟩
    · rw [s3.heap HR3.out (by rintro (e | e); · omega
                              · exact p3 e), HK5.out.2.1]; exact HR3.out.symm
    · rw [s3.heap HR4.out (by rintro (e | e); · omega
                              · exact p4 e), HK5.out.2.2]; exact HR4.out.symm
  · exact s3.heap HQ1.out (by rintro (e | e); · omega
                              · exact p1 e)
  · exact s3.heap HR3.out (by rintro (e | e); · omega
                              · exact p3 e)
  · exact s3.heap HR4.out (by rintro (e | e); · omega
                              · exact p4 e)
  · have := q2.chg s3 (fun k hk => by
      rintro (e | e)
      · exact p5 (by rw [hk, e])
      · rcases hap6 with h7 | h7
        · rw [h7] at e; cases e
        · exact h7 (by rw [hk, e]))
    rw [List.map_append, List.flatten_append, List.map_singleton, List.flatten_singleton, ← HCe.out, HBe.out, ← List.append_assoc]
    exact this
  · rw [List.map_append, List.flatten_append, List.map_singleton, List.flatten_singleton, ← HCe.out, HBe.out, ← HBd.out]
    exact s2
  · exact Chg.below hF6 s3 hF6.size (fun i e => by
      rcases e with e | e
      · omega
      · have := (hB6.lt i e).1; omega)
 case done =>
  rintro D ys W hD rfl ⟨hv, bv, h1, h2, h3, h4, h5, h6, h7, h8⟩ hK
  have HT : Hid (T = (nb ++ ((List.finRange (ckN l.length n)).map fun j : Fin (ckN l.length n) => numB (bktB ((l.drop (j.val * n)).take n)).length).flatten) ++ ((List.finRange (ckN l.length n)).map fun j : Fin (ckN l.length n) => bktB ((l.drop (j.val * n)).take n)).flatten) := by
   show _ = _
   rw [HD.out, finRange_map (ckN l.length n) (fun j => numB (bktB ((l.drop (j * n)).take n)).length), finRange_map (ckN l.length n) (fun j => bktB ((l.drop (j * n)).take n))]
   unfold chunksL
   simp only [List.map_map]
   rfl
  have hHl2 : (((List.finRange (ckN l.length n)).map fun j : Fin (ckN l.length n) => numB (bktB ((l.drop (j.val * n)).take n)).length).flatten).length ≤ 100630 := by
   have := HHl.out (ckN l.length n)
   rw [List.take_of_length_le (by rw [chunks_len]; exact Nat.le_refl _)] at this
   rw [finRange_map (ckN l.length n) (fun j => numB (bktB ((l.drop (j * n)).take n)).length)]
   unfold chunksL at this
   simp only [List.map_map] at this
   exact this
  have hBl2 : (((List.finRange (ckN l.length n)).map fun j : Fin (ckN l.length n) => bktB ((l.drop (j.val * n)).take n)).flatten).length ≤ 452880 := by
   have := HBl.out (ckN l.length n)
   rw [List.take_of_length_le (by rw [chunks_len]; exact Nat.le_refl _)] at this
   rw [finRange_map (ckN l.length n) (fun j => bktB ((l.drop (j * n)).take n))]
   unfold chunksL at this
   simp only [List.map_map] at this
   exact this
  generalize ((List.finRange (ckN l.length n)).map fun j : Fin (ckN l.length n) => numB (bktB ((l.drop (j.val * n)).take n)).length).flatten = hd at *
  generalize ((List.finRange (ckN l.length n)).map fun j : Fin (ckN l.length n) => bktB ((l.drop (j.val * n)).take n)).flatten = bd at *
  obtain ⟨hh, hhe⟩ : ∃ hh, hh = nb ++ hd := ⟨_, rfl⟩
  rw [← hhe] at h5 HT
  have hhl : hh.length ≤ 100640 := by rw [hhe, List.length_append]; omega
  clear hhe hHl2
  obtain ⟨ha, hc, hhv⟩ := h5.shape'
  subst hhv
  obtain ⟨ba, bc, hbv⟩ := h6.shape'
  subst hbv
  have c0 : W.cell? ⟨H, 0, none⟩ = some (.slice ha hh.length hc) := by rw [cell_of_heap h1]; rfl
  have c1 : W.cell? ⟨H + 1, 0, none⟩ = some (.slice ba bd.length bc) := by rw [cell_of_heap h2]; rfl
  have HAll := hid (all2_any _ _ hh bd W h5.see h6.see (by omega))
  rw [← HT.out] at HAll
  have HKd := hid hK
  clear h1 h2 h3 h4 h5 h6 h7 hK HHl HBl
  have hfE : Fence.wide.fn 35 := trivial
  gi_wp2_with (gi_at_call 35; refine (callsIn_wide.2 HAll.out).mono ?_; rintro e w8 ⟨v8, rfl, hO8, hf8⟩)
  have hK8 := hf8.heap HKd.out
  obtain ⟨va8, vc8, hv8⟩ := hO8.shape'
  subst hv8
  refine ⟨by simp, .inl ⟨_, _, rfl, run_takeDeferred hK8, ?_⟩⟩
  refine ⟨.tuple #[.slice va8 T.length vc8, .int .i64 0], by simp [results, Tryz.results63, go_sem, *], _, rfl, ?_, ?_⟩
  · exact ow_keptG (hO8.rebase h8.size) (grownBy_putObj' w8 D (.deferred none)) (fun r e => by cases e; exact ⟨_, hK8, rfl⟩)
  · exact Below.trans (h8.trans hf8) (belowK_b (w := w) (Nat.le_refl _) w8 D _ _ (Nat.le_trans hfw4.size hD) hK8 rfl rfl)
 case stop =>
  rintro D c pre W hD _ h _
  exact h.elim
set_option maxRecDepth 512
end Go.Proofs.YtmfbmjplmaimbaaGreatDoor
