/- Parts of the proof of ThreeMends: Dr1. -/
import Derived.Test.YtfhdgenlpmlajaaGreatDoorM12
import Derived.Test.YtfhdgenlpmlajaaGreatDoorM21
import Derived.Test.YtfhdgenlpmlajaaGreatDoorM01
import Derived.Test.YtfhdgenlpmlajaaGreatDoorM08
set_option linter.unusedVariables false
set_option linter.unusedSectionVars false
set_option linter.unusedSimpArgs false
set_option maxHeartbeats 8000000
namespace Go.Proofs.YtfhdgenlpmlajaaGreatDoor
open Go.RowKit Go.Fk
def prTo (cs : List Nat) (fr : Nat → List UInt8) (k : Nat) : List UInt8 := ((List.range k).map fun i => numB (cs.getD i 0) ++ numB (fr i).length).flatten
theorem prTo_succ (cs : List Nat) (fr : Nat → List UInt8) (k : Nat) (h : k < cs.length) : prTo cs fr (k + 1) = prTo cs fr k ++ numB cs[k] ++ numB (fr k).length := by
 unfold prTo
 rw [List.range_succ, List.map_append, List.flatten_append]
 simp [h]
def dirL (cs : List Nat) (fr : Nat → List UInt8) (a b : Nat) : List UInt8 := (((numB cs.sum ++ numB cs.length) ++ prTo cs fr cs.length) ++ numB a) ++ numB b
theorem groups_sum_le (cs : List Nat) (k : Nat) : (cs.take k).sum ≤ cs.sum := by
 conv => rhs; rw [← List.take_append_drop k cs]
 rw [List.sum_append]; omega
theorem prTo_len (cs : List Nat) (fr : Nat → List UInt8) (b : Nat) (hb : b < 1000000) (h : ∀ k, (fr k).length ≤ b) (hc : ∀ x ∈ cs, x < 1000000) (k : Nat) : (prTo cs fr k).length ≤ k * 20 := by
 unfold prTo
 rw [flat_len]
 refine Nat.le_trans (wtS_le _ 20 _ fun i _ => ?_) ?_
 · have h1 := numB_le (fr i).length (by have := h i; omega)
   have h2 : cs.getD i 0 < 1000000 := by
    by_cases hi : i < cs.length
    · simp only [List.getD_eq_getElem?_getD, List.getElem?_eq_getElem hi]
      exact hc _ (List.getElem_mem hi)
    · simp [List.getD_eq_getElem?_getD, List.getElem?_eq_none (by omega : cs.length ≤ i)]
   have h3 := numB_le (cs.getD i 0) (by omega)
   show (numB (cs.getD i 0) ++ numB (fr i).length).length ≤ 20
   rw [List.length_append]; omega
 · rw [List.length_range]; exact Nat.le_refl _
theorem bcheck_any (o : Opt) (w : World) : Calls Tryz.prog 45 #[optV o] w fun e w' => e = .returned (.int .i64 (if opt2 o then 0 else 9)) ∧ Fr w w' := by
 have HC := hid (fun W => OCheck2_any ⟨o.b, o.plain, o.bu, 0, 0, 0⟩ ⟨rfl, rfl, rfl⟩ W)
 have HE : Hid ((if opt2 ⟨o.b, o.plain, o.bu, 0, 0, 0⟩ then (0 : Int) else 9) = if opt2 o then 0 else 9) := rfl
 rw [HE.out] at HC
 generalize (if opt2 o then (0 : Int) else 9) = R at *
 go_enter Tryz.func45, Tryz.ntmps45
 go_wp2_with fail
 refine (HC.out _).mono ?_
 rintro e w1 ⟨rfl, hf1⟩
 go_wp2_with fail
 go_ret
 exact ⟨rfl, ((Fr.refl w).alloc _).trans hf1⟩
theorem numAt {w : World} {v : Value} {l : List Nat} (h : See w eJ v l) (k : Nat) (hk : k < l.length) : ∃ b off cap, v = .slice (some ⟨b, off, none⟩) l.length cap ∧ w.cell? ⟨b, off + k, none⟩ = some (N l[k]) := h.cell1 N rfl k hk
theorem sum_snoc (l : List Nat) (k : Nat) (h : k < l.length) : (l.take (k + 1)).sum = (l.take k).sum + l[k] := by
 rw [List.take_succ_eq_append_getElem h, List.sum_append]; simp
theorem bsum_any (v : Value) (l : List Nat) (w : World) (hs : See w eJ v l) (hl : l.length ≤ 1000000) (hb : l.sum ≤ 1000000000) :
  Calls Tryz.prog 92 #[v] w fun e w' => e = .returned (N l.sum) ∧ w = w' := by
 have HS := hid (fun k hk => numAt hs k hk)
 have HTk := hid (groups_sum_le l)
 have HSn := hid (sum_snoc l)
 have HAl : Hid ((l.take l.length).sum = l.sum) := by show _ = _; rw [List.take_length]
 obtain ⟨a0, cap, hv, hcap1, hcap2, hnone⟩ := hs.shape
 subst hv
 unfold maxLen at hcap2
 generalize l.sum = T at *
 go_enter Tryz.func92, Tryz.ntmps92
 go_wp2_with fail
 go_loopw [3, 8] (fun sv iv wr => ∃ k : Nat, k ≤ l.length ∧ iv = N k ∧ sv = N (l.take k).sum ∧ w = wr) (fun _ iv _ => l.length - (intOf iv).toNat)
 case atStart => exact ⟨0, Nat.zero_le _, rfl, by simp, rfl⟩
 case round =>
  obtain ⟨k, hk, rfl, rfl, rfl⟩ := hrel
  have h1 := HTk.out k
  by_cases hlt : k < l.length
  · obtain ⟨b, off, cap', hv, c0⟩ := HS.out k hlt
    cases hv
    have HN := hid (HSn.out k hlt)
    have h2 := HTk.out (k + 1)
    generalize hm2 : (l.take (k + 1)).sum = m2 at *
    have HM2 := hid hm2
    clear hm2
    generalize (l.take k).sum = m at *
    generalize l[k] = x at *
    have h3 : m2 = m + x := HN.out
    have i1 : (0 : Int) ≤ k := by omega
    have i2 : (k : Int) < l.length := by omega
    have HH := hid h3
    clear h3
    have hw : IntKind.i64.wrap ((m : Int) + x) = (m : Int) + x := IntWalk.i64_in _ (by have := HH.out; omega)
    go_wp2_with fail
    exact ⟨⟨k + 1, by omega, by go_num, by rw [HM2.out, HH.out]; go_num, by first | rfl | trivial⟩, by simp [intOf]; omega⟩
  · obtain rfl : k = l.length := by omega
    have hnl : ¬ (l.length : Int) < l.length := by omega
    rw [HAl.out]
    go_wp2_with fail
    go_ret
    exact ⟨rfl, rfl⟩
def szL (fr : Nat → List UInt8) (k : Nat) : List Nat := (List.range k).map fun i => (fr i).length
set_option maxRecDepth 100000
theorem dbytes_any (g : Nat) (cv sv : Value) (cs : List Nat) (fr : Nat → List UInt8) (a b : Nat) (w : World) (hg : w.heap[g]? = some (.cells #[cv, sv, N a, N b] 82 (0, 0))) (hc : See w eJ cv cs) (hs : See w eJ sv (szL fr cs.length))
    (hl : cs.length ≤ 60) (hsum : cs.sum ≤ 60) (hfr : ∀ k, (fr k).length ≤ 6025) (ha : a ≤ 1000000) (hb : b ≤ 1000000) :
    Calls Tryz.prog 53 #[.pointer (some ⟨g, 0, none⟩)] w fun e w' => ∃ u, e = .returned u ∧ Ow w' w.heap.size eB u (dirL cs fr a b) ∧ Fr w w' := by
  have HNm := hid (fun n (h : n < 18446744073709551616) W => Num_any n h W)
  have HSu := hid (fun W (h : See W eJ cv cs) => bsum_any cv cs W h (by omega) (by omega))
  have hcx : ∀ x ∈ cs, x ≤ 60 := fun x hx => by
    obtain ⟨i, hi, rfl⟩ := List.mem_iff_getElem.1 hx
    have h1 := groups_sum_le cs (i + 1)
    rw [sum_snoc cs i hi] at h1
    omega
  have HCx := hid hcx
  have HPl := hid (fun k => prTo_len cs fr 6025 (by omega) hfr (fun x hx => by have := hcx x hx; omega) k)
  have HSn := hid (fun k h => prTo_succ cs fr k h)
  have HD : Hid (dirL cs fr a b = (((numB cs.sum ++ numB cs.length) ++ prTo cs fr cs.length) ++ numB a) ++ numB b) := rfl
  have HP0 : Hid (prTo cs fr 0 = []) := rfl
  have HFr := hid hfr
  have HSz : Hid (∀ k (h : k < cs.length) (h2 : k < (szL fr cs.length).length), (szL fr cs.length)[k] = (fr k).length) := fun k h h2 => by simp [szL]
  have hszl : (szL fr cs.length).length = cs.length := by simp [szL]
  have HC := hid (fun W (h : Fr w W) k hk => numAt (hc.fr h) k hk)
  have HS := hid (fun W (h : Fr w W) k hk => numAt (hs.fr h) k hk)
  have HCs := hid (fun W (h : Fr w W) => hc.fr h)
  have HSl := hid hszl
  obtain ⟨ca, cc, hcv, _⟩ := hc.shape
  subst hcv
  obtain ⟨sa, sc, hsv, _⟩ := hs.shape
  rw [hszl] at hsv
  subst hsv
  have HG := hid (fun W (h : Fr w W) => h.heap hg)
  clear hc hs hcx hfr hszl
  generalize hT : dirL cs fr a b = T at *
  clear hT
  have x0 : w.cell? ⟨g, 0, none⟩ = some (.slice ca cs.length cc) := by rw [cell_of_heap hg]; rfl
  have hn1 := numB_le cs.sum (by omega)
  have hn2 := numB_le cs.length (by omega)
  have HN1 := hid (HNm.out cs.sum (by omega))
  have HN2 := hid (HNm.out cs.length (by omega))
  have hA1 := fun W va vb sa sb => all2_any va vb (numB cs.sum) (numB cs.length) W sa sb (by omega)
  have HA1 := hid hA1
  have HA0 : Hid (∀ m, m = (numB cs.sum ++ numB cs.length) → m.length ≤ 20) := fun m h => by rw [h, List.length_append]; omega
  clear hA1
  generalize cs.sum = S0 at *
  have hw1 : IntKind.u64.wrap (S0 : Int) = (S0 : Int) := IntWalk.u64_in _ (by omega)
  have hw2 : IntKind.u64.wrap (cs.length : Int) = (cs.length : Int) := IntWalk.u64_in _ (by omega)
  go_enter Tryz.func53, Tryz.ntmps53
  go_upto_region 1 with fail
  go_region_held3 (fun w' => w'.cell? ⟨g, 0, none⟩ = some (.slice ca cs.length cc))
    (first | go_keep)
    ((first
      | (go_at_call 92; refine (HSu.out _ (HCs.out _ (Fr.refl w).drew)).mono ?_; rintro e w1 ⟨rfl, rfl⟩)
      | (go_at_call_of 85 (Value.int IntKind.u64 (S0 : Int)); refine (HN1.out _).mono ?_; rintro e w2 ⟨v2, rfl, hO2, hf2⟩; obtain ⟨p2, z2, hq2⟩ := hO2.shape'; subst hq2; have y0 := hf2.cell x0)
      | (go_at_call_of 85 (Value.int IntKind.u64 (cs.length : Int)); refine (HN2.out _).mono ?_; rintro e w3 ⟨v3, rfl, hO3, hf3⟩; obtain ⟨p3, z3, hq3⟩ := hO3.shape'; subst hq3; have z0 := hf3.cell y0)
      | (go_at_call 33; refine (HA1.out _ _ _ (hO2.fr hf3).see hO3.see).mono ?_; rintro e w4 ⟨v4, rfl, hO4, hf4⟩; have u0 := hf4.cell z0)))
  have hf04 : Fr w w4 := (Fr.refl w).drew.trans (hf2.trans (hf3.trans hf4))
  obtain ⟨m0, hm0⟩ : ∃ m0, m0 = numB S0 ++ numB cs.length := ⟨_, rfl⟩
  have hml := HA0.out m0 hm0
  rw [← hm0] at hO4 HD
  have hO4' : Ow w4 w.heap.size eB v4 m0 := by exact hO4.rebase (by have := ((Fr.refl w).drew.trans (hf2.trans hf3)).size; exact this)
  clear hm0 HA0 HA1 HN1 HN2 HSu hO2 hO3 hO4 hf2 hf3 hf4 x0 y0 z0 hn1 hn2 hw1
  have c4 : w4.cell? ⟨g, 0, none⟩ = some (.slice ca cs.length cc) := u0
  clear u0
  obtain ⟨p4, z4, hq4⟩ := hO4'.shape'
  subst hq4
  go_wp2_with fail
  go_loopw [3, 27] (fun ov iv wr => ∃ k : Nat, k ≤ cs.length ∧ iv = N k ∧ Ow wr w.heap.size eB ov (m0 ++ prTo cs fr k) ∧ Fr w wr) (fun _ iv _ => cs.length - (intOf iv).toNat)
  case atStart => exact ⟨0, Nat.zero_le _, rfl, by rw [HP0.out, List.append_nil]; exact hO4', hf04⟩
  case round =>
    clear hO4' hf04 c4
    obtain ⟨k, hk, rfl, hO, hf⟩ := hrel
    have hgr := HG.out wr hf
    have hpl := HPl.out k
    by_cases hlt : k < cs.length
    · have x1 : wr.cell? ⟨g, 1, none⟩ = some (.slice sa cs.length sc) := by rw [cell_of_heap hgr]; rfl
      obtain ⟨b1, off1, cap1, hv1, d1⟩ := HC.out wr hf k hlt
      cases hv1
      obtain ⟨b2, off2, cap2, hv2, d2⟩ := HS.out wr hf k (by rw [HSl.out]; exact hlt)
      rw [HSl.out] at hv2
      cases hv2
      rw [HSz.out k hlt] at d2
      have hxk := HCx.out _ (List.getElem_mem hlt)
      have hfk := HFr.out k
      have HN := hid (HSn.out k hlt)
      have hpl2 := HPl.out (k + 1)
      generalize hm2 : prTo cs fr (k + 1) = q2 at *
      have HM2 := hid hm2
      clear hm2
      generalize prTo cs fr k = q at *
      generalize cs[k] = x at *
      generalize (fr k).length = y at *
      have HN1 := hid (HNm.out x (by omega))
      have HN2 := hid (HNm.out y (by omega))
      have hn1 := numB_le x (by omega)
      have hn2 := numB_le y (by omega)
      have hkl : k * 20 ≤ 60 * 20 := Nat.mul_le_mul_right _ (by omega)
      obtain ⟨om, hom⟩ : ∃ om, om = m0 ++ q := ⟨_, rfl⟩
      rw [← hom] at hO
      have hol : om.length ≤ 1300 := by rw [hom, List.length_append]; omega
      have HOm := hid hom
      have HA1 := hid (fun W va vb vc sa sb sc => all3_any va vb vc om (numB x) (numB y) W sa sb sc (by omega))
      clear hom hpl hpl2 hkl
      have hw1 : IntKind.u64.wrap (x : Int) = (x : Int) := IntWalk.u64_in _ (by omega)
      have hw3 : IntKind.u64.wrap (y : Int) = (y : Int) := IntWalk.u64_in _ (by omega)
      have i1 : (0 : Int) ≤ k := by omega
      have i2 : (k : Int) < cs.length := by omega
      obtain ⟨oa, oc, hov⟩ := hO.shape'
      subst hov
      go_upto_region 5 with fail
      go_region_held3 (fun w' => w'.cell? ⟨g, 1, none⟩ = some (.slice (some ⟨b2, off2, none⟩) cs.length sc) ∧ w'.cell? ⟨b2, off2 + k, none⟩ = some (N y))
        (first | go_keep)
        ((first
          | (go_at_call_of 85 (Value.int IntKind.u64 (x : Int)); refine (HN1.out _).mono ?_; rintro e w2 ⟨v2, rfl, hO2, hf2⟩; obtain ⟨p2, z2, hq2⟩ := hO2.shape'; subst hq2; have y0 := hf2.cell x1; have y1 := hf2.cell d2)
          | (go_at_call_of 85 (Value.int IntKind.u64 (y : Int)); refine (HN2.out _).mono ?_; rintro e w3 ⟨v3, rfl, hO3, hf3⟩; obtain ⟨p3, z3, hq3⟩ := hO3.shape'; subst hq3; have z0 := hf3.cell y0; have z1 := hf3.cell y1)
          | (go_at_call 33; refine (HA1.out _ _ _ _ (hO.see.fr ((Fr.refl wr).drew.trans (hf2.trans hf3))) (hO2.fr hf3).see hO3.see).mono ?_; rintro e w4 ⟨v4, rfl, hO4, hf4⟩; have u0 := hf4.cell z0; have u1 := hf4.cell z1)))
      have hf4' : Fr w w3 := hf.trans ((Fr.refl wr).drew.trans (hf2.trans hf3))
      have hfin := hf4'.trans hf4
      have hO4' := hO4.rebase hf4'.size
      obtain ⟨p4, z4, hq4⟩ := hO4'.shape'
      subst hq4
      clear x1 d1 d2 y0 y1 z0 z1 u0 u1 hO2 hO3 hO4 hO hf2 hf3 hf4 hf4' hgr
      go_wp2_with fail
      go_roundw
      case rel => exact ⟨k + 1, by omega, by go_num, by rw [HM2.out, HN.out, ← List.append_assoc, ← List.append_assoc, ← HOm.out]; exact hO4', hfin⟩
      case measure => simp [intOf]; omega
    · obtain rfl : k = cs.length := by omega
      have hnl : ¬ (cs.length : Int) < cs.length := by omega
      have x2 : wr.cell? ⟨g, 2, none⟩ = some (N a) := by rw [cell_of_heap hgr]; rfl
      have x3 : wr.cell? ⟨g, 3, none⟩ = some (N b) := by rw [cell_of_heap hgr]; rfl
      obtain ⟨om, hom⟩ : ∃ om, om = m0 ++ prTo cs fr cs.length := ⟨_, rfl⟩
      rw [← hom] at hO HD
      have hol : om.length ≤ 1300 := by rw [hom, List.length_append]; have : cs.length * 20 ≤ 60 * 20 := Nat.mul_le_mul_right _ hl; omega
      have HN1 := hid (HNm.out a (by omega))
      have HN2 := hid (HNm.out b (by omega))
      have hn1 := numB_le a (by omega)
      have hn2 := numB_le b (by omega)
      have HA1 := hid (fun W va vb vc sa sb sc => all3_any va vb vc om (numB a) (numB b) W sa sb sc (by omega))
      rw [← HD.out] at HA1
      clear hom hpl
      have hw1 : IntKind.u64.wrap (a : Int) = (a : Int) := IntWalk.u64_in _ (by omega)
      have hw3 : IntKind.u64.wrap (b : Int) = (b : Int) := IntWalk.u64_in _ (by omega)
      obtain ⟨oa, oc, hov⟩ := hO.shape'
      subst hov
      go_upto_region 7 with fail
      go_region_held3 (fun w' => w'.cell? ⟨g, 2, none⟩ = some (N a) ∧ w'.cell? ⟨g, 3, none⟩ = some (N b))
        (first | go_keep)
        ((first
          | (go_at_call 85; refine (HN1.out _).mono ?_; rintro e w2 ⟨v2, rfl, hO2, hf2⟩; obtain ⟨p2, z2, hq2⟩ := hO2.shape'; subst hq2; have y0 := hf2.cell x2; have y1 := hf2.cell x3; clear HN1)
          | (go_at_call 85; refine (HN2.out _).mono ?_; rintro e w3 ⟨v3, rfl, hO3, hf3⟩; obtain ⟨p3, z3, hq3⟩ := hO3.shape'; subst hq3; have z0 := hf3.cell y0; have z1 := hf3.cell y1)
          | (go_at_call 33; refine (HA1.out _ _ _ _ (hO.see.fr ((Fr.refl wr).drew.trans (hf2.trans hf3))) (hO2.fr hf3).see hO3.see).mono ?_; rintro e w4 ⟨v4, rfl, hO4, hf4⟩; have u0 := hf4.cell z0; have u1 := hf4.cell z1)))
      have hf4' : Fr w w3 := hf.trans ((Fr.refl wr).drew.trans (hf2.trans hf3))
      go_wp2_with fail
      go_ret
      exact ⟨_, rfl, hO4.rebase hf4'.size, hf4'.trans hf4⟩
set_option maxRecDepth 512
end Go.Proofs.YtfhdgenlpmlajaaGreatDoor
