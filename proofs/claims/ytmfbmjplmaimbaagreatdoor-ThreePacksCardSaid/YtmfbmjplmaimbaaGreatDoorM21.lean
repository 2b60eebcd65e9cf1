/- Parts of the proof of ThreePacks: P1 P2. -/
import Derived.Test.YtmfbmjplmaimbaaGreatDoorM19
import Derived.Test.YtmfbmjplmaimbaaGreatDoorM20
import Derived.Test.YtmfbmjplmaimbaaGreatDoorM02
import Derived.Test.YtmfbmjplmaimbaaGreatDoorM15
set_option linter.unusedVariables false
set_option linter.unusedSectionVars false
set_option linter.unusedSimpArgs false
set_option maxHeartbeats 8000000
namespace Go.Proofs.YtmfbmjplmaimbaaGreatDoor
open Go.RowKit Go.Fk
def eHJ : Elt Tryz.prog Hd := ⟨54, 1, 24, ⟨none, 0, 0⟩, .slice none 0 0, fun h => [h.v], by kernel_rfl, by decide, by decide, by simp [Value.cells], fun _ => rfl, by intro x u hu; simp at hu; subst hu; rfl⟩
def postB (size bound : Nat) (ts : List (List UInt8)) (ls : List (List Nat)) : List UInt8 := dictB size ts ++ postRest bound ls
structure IdxOk (bound : Nat) (ts : List (List UInt8)) (ls : List (List Nat)) : Prop where
 txt : txtOk ts
 len : ts.length ≤ 10000
 same : ls.length = ts.length
 ne : ∀ q ∈ ls, q ≠ []
 ris : ∀ q ∈ ls, risesGo bound 0 q = true
 bnd : bound ≤ 20000
 sum : (postRest bound ls).length ≤ 400000
theorem dictB_len (n : Nat) (l : List (List UInt8)) (hn1 : 1 ≤ n) (hn2 : n ≤ 64) (hk : txtOk l) (hl : l.length ≤ 10000) : (dictB n l).length ≤ 553520 := by
 have hb25 : ∀ s ∈ l, s.length ≤ 25 := fun s h => (hk.2.1 s h).2
 have h1 := heads_len l n (ckN l.length n) hn1 hn2 hl hb25
 have h2 := bodies_len l n (ckN l.length n) hn1 hn2 hl hb25
 rw [List.take_of_length_le (by rw [chunks_len]; exact Nat.le_refl _)] at h1 h2
 have h3 := numB_le l.length (by omega)
 unfold dictB
 rw [List.length_append, List.length_append]
 omega
theorem rest_take (bound : Nat) (ls : List (List Nat)) (k : Nat) : (postRest bound (ls.take k)).length ≤ (postRest bound ls).length := by
 unfold postRest; rw [flat_len, flat_len]; exact wtS_take_le _ ls k
theorem rest_snoc (bound : Nat) (ls : List (List Nat)) (k : Nat) (h : k < ls.length) : postRest bound (ls.take (k + 1)) = postRest bound (ls.take k) ++ efL bound ls[k] := flat_map_snoc _ ls k h
theorem listAt {w : World} {v : Value} {hs : List Hd} {ls : List (List Nat)} (h : Sees2 w eHJ eJ v hs ls) (k : Nat) (hk : k < ls.length) : ∃ b off cap p c, v = .slice (some ⟨b, off, none⟩) ls.length cap ∧ w.cell? ⟨b, off + k, none⟩ = some (.slice p (ls[k]'hk).length c) ∧ See w eJ (.slice p (ls[k]'hk).length c) (ls[k]'hk) := by
 have hl := h.2.1
 obtain ⟨b, off, cap, hv, hc⟩ := h.1.cell1 (fun x : Hd => x.v) rfl k (by omega)
 have hs' := h.2.2 k (by omega) hk
 obtain ⟨p, c, hp, _⟩ := hs'.shape
 rw [hp] at hs' hc
 exact ⟨b, off, cap, p, c, by rw [hv, hl], hc, hs'⟩
set_option maxRecDepth 100000
theorem PBytes_any (size bound : Nat) (h1 : 1 ≤ size) (h2 : size ≤ 64) (tv lv : Value) (ts : List (List UInt8)) (hs : List Hd) (ls : List (List Nat)) (w : World) (ht : See w eS tv ts) (hl : Sees2 w eHJ eJ lv hs ls) (ok : IdxOk bound ts ls) :
  Calls Tryz.prog 31 #[N size, N bound, .agg #[tv, lv]] w fun e w' => ∃ u, e = .returned (.tuple #[u, .int .i64 0]) ∧ Ow w' w.heap.size eB u (postB size bound ts ls) ∧ Fr w w' := by
 have HD := hid (fun W (h : See W eS tv ts) => DWrite_any size h1 h2 tv ts W h ok.txt ok.len)
 have HTs := hid (fun W (h : Fr w W) => ht.fr h)
 have HLs := hid (fun W (h : Fr w W) k hk => listAt (hl.fr h) k hk)
 have HEf := hid (fun v q W (hq : q ∈ ls) (h : See W eJ v q) => EWrite_any bound ok.bnd v q W h (ok.ris q hq))
 have HNe := hid ok.ne
 have hdl := dictB_len size ts h1 h2 ok.txt ok.len
 have HSum := hid ok.sum
 have HTk := hid (rest_take bound ls)
 have HSn := hid (rest_snoc bound ls)
 have HSame := hid ok.same
 have hbd := ok.bnd
 have htl := ok.len
 have HT : Hid (postB size bound ts ls = dictB size ts ++ postRest bound ls) := rfl
 have HFl := hid (fun v' hs' W k (hv : Sees2 W eHB eB v' hs' (dictB size ts :: (ls.take k).map (efL bound))) => All_any v' hs' _ W hv)
 generalize postB size bound ts ls = T at *
 generalize dictB size ts = D at *
 obtain ⟨ta, tc, htv, htc1, htc2, _⟩ := ht.shape
 subst htv
 obtain ⟨la, lc, hlv, hlc1, hlc2, _⟩ := hl.1.shape
 subst hlv
 have HHl := hid hl.2.1
 clear ok ht hl
 have i1 : ¬ (bound : Int) < 0 := by omega
 have i2 : ¬ (20000 : Int) < bound := by omega
 have hne : ((ts.length : Int) != (hs.length : Int)) = false := by have := HHl.out; have := HSame.out; simp; omega
 go_enter Tryz.func31, Tryz.ntmps31
 go_wp2_with fail
 refine (HD.out _ (HTs.out _ ((Fr.refl w).alloc _))).mono ?_
 rintro e w1 ⟨v1, rfl, hO1, hf1⟩
 have hb0 := hf1.heap (heap_new w (.cells #[.slice ta ts.length tc, .slice la hs.length lc] 67) _ rfl)
 have hf01 : Fr w w1 := ((Fr.refl w).alloc _).trans hf1
 have c1 : w1.cell? ⟨w.heap.size, 1, none⟩ = some (.slice la hs.length lc) := by rw [cell_of_heap hb0]; rfl
 obtain ⟨p1, z1, hq1⟩ := hO1.shape'
 subst hq1
 have hown0 := own_lit eHB w1 #[.slice p1 D.length z1] [⟨p1, D.length, z1⟩] 1 rfl (by simp [maxLen]) hf01.size
 have hf12 : Fr w1 (w1.alloc (.cells #[.slice p1 D.length z1] 31)) := (Fr.refl w1).alloc _
 have c2 := hf12.cell c1
 have hO2 := hO1.fr hf12
 have hf02 := hf01.trans hf12
 clear hO1 hb0
 go_upto_region 7 with fail
 change Ow (w1.alloc (.cells #[.slice p1 D.length z1] 31)) _ _ _ _ at hown0
 generalize w1.alloc (.cells #[.slice p1 D.length z1] 31) = w2 at *
 have hD0 : Sees2 w2 eHB eB (.slice (some ⟨w1.heap.size, 0, none⟩) 1 1) [⟨p1, D.length, z1⟩] [D] := ⟨hown0.see, rfl, fun i a b => by
  have : i = 0 := by simp at a; exact a
  subst this
  exact hO2.see⟩
 have HLn : Hid (hs.length = ls.length) := HHl.out
 have hhl : hs.length ≤ 10000 := by have := HHl.out; have := HSame.out; omega
 go_wp2_with fail
 go_loopw [10, 45] (fun pv iv wr => ∃ (k : Nat) (ps : List Hd), k ≤ hs.length ∧ iv = N k ∧ Ow wr w.heap.size eHB pv ps ∧ Owns wr w.heap.size eB ps (D :: (ls.take k).map (efL bound)) ∧ Fr w wr) (fun _ iv _ => hs.length - (intOf iv).toNat)
 case atStart =>
  refine ⟨0, _, Nat.zero_le _, rfl, hown0, ⟨by simp, fun t a b => ?_⟩, hf02⟩
  have : t = 0 := by simp at a; exact a
  subst this
  exact hO2.rebase (by simp)
 case round =>
  clear hown0 hO2 hD0
  obtain ⟨k, ps, hk, rfl, hP, hR, hf⟩ := hrel
  have hpl : ps.length = k + 1 := by
   have h1 := hR.1
   have h2 := HLn.out
   rw [List.length_cons, List.length_map, List.length_take] at h1
   omega
  have HPl := hid hpl
  obtain ⟨pa, pc, hpv⟩ := hP.shape'
  subst hpv
  have hfw := hf
  by_cases hlt : k < hs.length
  · have hkl : k < ls.length := by have := HLn.out; omega
    obtain ⟨b, off, cap', qp, qc, hv, d0, hsq⟩ := HLs.out wr hfw k hkl
    rw [← HLn.out] at hv
    cases hv
    have hmem : ls[k] ∈ ls := List.getElem_mem hkl
    have HE1 := hid (HEf.out _ ls[k] wr hmem hsq)
    have hql : 0 < ls[k].length := List.length_pos_iff.2 (HNe.out _ hmem)
    have HT1 : Hid (ls.take (k + 1) = ls.take k ++ [ls[k]]) := List.take_succ_eq_append_getElem hkl
    generalize ls[k] = q at *
    have hq0 : ((q.length : Int) == 0) = false := beq_eq_false_iff_ne.2 (by omega)
    have i3 : (0 : Int) ≤ k := by omega
    have i4 : (k : Int) < hs.length := by omega
    clear hmem hpl
    go_wp2_with fail
    refine HE1.out.mono ?_
    rintro e w3 ⟨v3, rfl, hO3, hf3⟩
    obtain ⟨p3, z3, hq3⟩ := hO3.shape'
    subst hq3
    have hP3 := hP.fr hf3
    have hfw3 := hfw.trans hf3
    go_wp2_with (at_builtin; refine wpList_app1 eHB rfl (.tmp 62) (.tmp 64) 58 rfl Tryz.underlying58 w.heap.size rfl hP3 [⟨p3, (efL bound q).length, z3⟩] _ _ _ rfl rfl rfl ?c1 hfw3.size ?_)
    case c1 => have := HPl.out; first | omega | (simp; omega)
    intro v4 w4 hap
    have hf4 : Fr w w4 := hap.below hP3 hfw3 (Nat.le_refl _) hfw3.size
    have hR4 : Owns w4 w.heap.size eB (ps ++ [⟨p3, (efL bound q).length, z3⟩]) (D :: (ls.take (k + 1)).map (efL bound)) := by
     rw [HT1.out, List.map_append, ← List.cons_append]
     refine ⟨by rw [List.length_append, List.length_append, hR.1]; rfl, fun t a b => ?_⟩
     by_cases ht : t < ps.length
     · have ht2 : t < (D :: (ls.take k).map (efL bound)).length := by rw [← hR.1]; exact ht
       rw [List.getElem_append_left ht, List.getElem_append_left ht2]
       exact own_app ((hR.2 t ht ht2).fr hf3) hP3 hap (by decide)
     · have e1 : t = ps.length := by rw [List.length_append, List.length_singleton] at a; omega
       subst e1
       rw [List.getElem_append_right (Nat.le_refl _)]
       have e2 : ps.length = (D :: (ls.take k).map (efL bound)).length := hR.1
       rw [List.getElem_append_right (by rw [← e2]; exact Nat.le_refl _)]
       simp only [Nat.sub_self, e2, List.map_cons, List.map_nil, List.getElem_cons_zero]
       exact own_app (hO3.rebase hfw.size) hP3 hap (by decide)
    have hP4 := hap.own
    clear hR hap hP3 hO3 hP
    go_wp2_with fail
    go_roundw
    case rel => exact ⟨k + 1, ps ++ [⟨p3, (efL bound q).length, z3⟩], by omega, by go_num, hP4, hR4, hf4⟩
    case measure => simp [intOf]; omega
  · obtain rfl : k = hs.length := by omega
    have hnl : ¬ (hs.length : Int) < hs.length := by omega
    rw [List.take_of_length_le (by have := HLn.out; omega)] at hR
    have HF1 := hid (All_any _ ps _ wr (hR.sees2 hP.see) (by
     have := HSum.out
     unfold postRest at this
     simp only [List.flatten_cons, List.length_append]; omega))
    have HTe : Hid (T = (D :: ls.map (efL bound)).flatten) := by show _ = _; rw [HT.out]; rfl
    rw [← HTe.out] at HF1
    clear hR hP hpl
    go_wp2_with fail
    refine HF1.out.mono ?_
    rintro e w5 ⟨v5, rfl, hO5, hf5⟩
    go_wp2_with fail
    go_ret2
    exact ⟨_, rfl, hO5.rebase hfw.size, hfw.trans hf5⟩
set_option maxRecDepth 512
set_option maxRecDepth 100000
theorem RMay18_any (bound : Nat) (tv lv : Value) (ts : List (List UInt8)) (hs : List Hd) (ls : List (List Nat)) (w : World) (ht : See w eS tv ts) (hl : Sees2 w eHJ eJ lv hs ls) (ok : IdxOk bound ts ls) :
  Calls Tryz.prog 82 #[N bound, .agg #[tv, lv]] w fun e w' => e = .returned (.bool true) ∧ Fr w w' := by
 have HM := hid (fun W (h : See W eS tv ts) => RMay16_any tv ts W h ok.txt)
 have HTs := hid (fun W (h : Fr w W) => ht.fr h)
 have HLs := hid (fun W (h : Fr w W) k hk => listAt (hl.fr h) k hk)
 have HEf := hid (fun v q W (hq : q ∈ ls) (h : See W eJ v q) => by
  have := REfMay_any bound v q W h
  rw [ok.ris q hq] at this
  exact this)
 have HNe := hid ok.ne
 have HSame := hid ok.same
 have hbd := ok.bnd
 have htl := ok.len
 obtain ⟨ta, tc, htv, htc1, htc2, _⟩ := ht.shape
 subst htv
 obtain ⟨la, lc, hlv, hlc1, hlc2, _⟩ := hl.1.shape
 subst hlv
 have HHl := hid hl.2.1
 have hhl : hs.length ≤ 10000 := by have := HHl.out; have := HSame.out; omega
 clear ok ht hl
 have i1 : ¬ (bound : Int) < 0 := by omega
 have i2 : ¬ (20000 : Int) < bound := by omega
 have hne : ((ts.length : Int) != (hs.length : Int)) = false := by have := HHl.out; have := HSame.out; simp; omega
 go_enter Tryz.func82, Tryz.ntmps82
 go_wp2_with fail
 refine (HM.out _ (HTs.out _ ((Fr.refl w).alloc _))).mono ?_
 rintro e w1 ⟨rfl, hf1⟩
 have hb1 := hf1.heap (heap_new w (.cells #[.slice ta ts.length tc, .slice la hs.length lc] 67) _ rfl)
 have hf01 : Fr w w1 := ((Fr.refl w).alloc _).trans hf1
 have HB := hid (fun W (h : Fr w1 W) => h.heap hb1)
 clear hb1
 go_wp2_with fail
 go_loopw [5] (fun iv wr => ∃ k : Nat, k ≤ hs.length ∧ iv = N k ∧ Fr w1 wr) (fun iv _ => hs.length - (intOf iv).toNat)
 case atStart => exact ⟨0, Nat.zero_le _, rfl, Fr.refl w1⟩
 case round =>
  obtain ⟨k, hk, rfl, hf⟩ := hrel
  have hfw := hf01.trans hf
  have c1 : wr.cell? ⟨w.heap.size, 1, none⟩ = some (.slice la hs.length lc) := by rw [cell_of_heap (HB.out wr hf)]; rfl
  by_cases hlt : k < hs.length
  · have hkl : k < ls.length := by have := HHl.out; omega
    obtain ⟨b, off, cap', qp, qc, hv, d0, hsq⟩ := HLs.out wr hfw k hkl
    rw [← HHl.out] at hv
    cases hv
    have hmem : ls[k] ∈ ls := List.getElem_mem hkl
    have HE1 := hid (HEf.out _ ls[k] wr hmem hsq)
    have hql : 0 < ls[k].length := List.length_pos_iff.2 (HNe.out _ hmem)
    generalize ls[k] = q at *
    have hq0 : ((q.length : Int) == 0) = false := beq_eq_false_iff_ne.2 (by omega)
    have i3 : (0 : Int) ≤ k := by omega
    have i4 : (k : Int) < hs.length := by omega
    clear hmem
    go_wp2_with fail
    refine HE1.out.mono ?_
    rintro e w3 ⟨rfl, hf3⟩
    go_wp2_with fail
    go_roundw
    case rel => exact ⟨k + 1, by omega, by go_num, hf.trans hf3⟩
    case measure => simp [intOf]; omega
  · obtain rfl : k = hs.length := by omega
    have hnl : ¬ (hs.length : Int) < hs.length := by omega
    go_wp2_with fail
    go_ret
    exact ⟨rfl, hfw⟩
theorem RPBytes_any (size bound : Nat) (h1 : 1 ≤ size) (h2 : size ≤ 64) (tv lv : Value) (ts : List (List UInt8)) (hs : List Hd) (ls : List (List Nat)) (w : World) (ht : See w eS tv ts) (hl : Sees2 w eHJ eJ lv hs ls) (ok : IdxOk bound ts ls) :
  Calls Tryz.prog 45 #[N size, N bound, .agg #[tv, lv]] w fun e w' => ∃ u, e = .returned (.tuple #[u, .int .i64 0]) ∧ Ow w' w.heap.size eB u (postB size bound ts ls) ∧ Fr w w' := by
 have HM := hid (fun W (hf : Fr w W) => RMay18_any bound tv lv ts hs ls W (ht.fr hf) (hl.fr hf) ok)
 have HD := hid (fun W (hf : Fr w W) => RWrite16_any size h1 h2 tv ts W (ht.fr hf) ok.txt ok.len)
 have HLs := hid (fun W (h : Fr w W) k hk => listAt (hl.fr h) k hk)
 have HEf := hid (fun v q W (hq : q ∈ ls) (h : See W eJ v q) => REfWrite_any bound ok.bnd v q W h (ok.ris q hq))
 have hdl := dictB_len size ts h1 h2 ok.txt ok.len
 have HSum := hid ok.sum
 have HTk := hid (rest_take bound ls)
 have HSn := hid (rest_snoc bound ls)
 have HSame := hid ok.same
 have hbd := ok.bnd
 have htl := ok.len
 have HT : Hid (postB size bound ts ls = dictB size ts ++ postRest bound ls) := rfl
 have HAl : Hid (ls.take ls.length = ls) := List.take_length
 generalize postB size bound ts ls = T at *
 generalize dictB size ts = D at *
 obtain ⟨ta, tc, htv, htc1, htc2, _⟩ := ht.shape
 subst htv
 obtain ⟨la, lc, hlv, hlc1, hlc2, _⟩ := hl.1.shape
 subst hlv
 have HHl := hid hl.2.1
 have hhl : hs.length ≤ 10000 := by have := HHl.out; have := HSame.out; omega
 clear ok ht hl
 have i1 : ¬ (size : Int) < 1 := by omega
 have i2 : ¬ (64 : Int) < size := by omega
 go_enter Tryz.func45, Tryz.ntmps45
 go_wp2_with fail
 refine (HM.out _ ((Fr.refl w).alloc _)).mono ?_
 rintro e w1 ⟨rfl, hf1⟩
 have hb1 := hf1.heap (heap_new w (.cells #[.slice ta ts.length tc, .slice la hs.length lc] 67) _ rfl)
 have hf01 : Fr w w1 := ((Fr.refl w).alloc _).trans hf1
 have c1 : w1.cell? ⟨w.heap.size, 0, none⟩ = some (.slice ta ts.length tc) := by rw [cell_of_heap hb1]; rfl
 have HB := hid (fun W (h : Fr w1 W) => h.heap hb1)
 clear hb1
 have hsz1 : w.heap.size + 1 ≤ w1.heap.size := by have := hf1.size; simpa using this
 go_wp2_with fail
 refine (HD.out _ hf01).mono ?_
 rintro e w2 ⟨v2, rfl, hO2, hf2⟩
 obtain ⟨p2, z2, hq2⟩ := hO2.shape'
 subst hq2
 have hO2' : Ow w2 (w.heap.size + 1) eB (.slice p2 D.length z2) (D ++ postRest bound (ls.take 0)) := by
  rw [List.take_zero]
  simpa [postRest] using hO2.rebase hsz1
 have hb2 := HB.out w2 hf2
 have hf02 := hf01.trans hf2
 clear hO2 HB hf2 hf1
 go_wp2_with fail
 go_loopw [8, 10] (fun ov iv wr => ∃ k : Nat, k ≤ hs.length ∧ iv = N k ∧ Ow wr (w.heap.size + 1) eB ov (D ++ postRest bound (ls.take k)) ∧ wr.heap[w.heap.size]? = some (.cells #[.slice ta ts.length tc, .slice la hs.length lc] 67 (0, 0)) ∧ Fr w wr) (fun _ iv _ => hs.length - (intOf iv).toNat)
 case atStart => exact ⟨0, Nat.zero_le _, rfl, hO2', hb2, hf02⟩
 case round =>
  clear hO2' hb2 hf02
  obtain ⟨k, hk, rfl, hO, hb, hf⟩ := hrel
  have c2 : wr.cell? ⟨w.heap.size, 1, none⟩ = some (.slice la hs.length lc) := by rw [cell_of_heap hb]; rfl
  have htk := HTk.out k
  have hsum := HSum.out
  have hszr : w.heap.size + 1 ≤ wr.heap.size := (Array.getElem?_eq_some_iff.1 hb).1
  by_cases hlt : k < hs.length
  · have hkl : k < ls.length := by have := HHl.out; omega
    obtain ⟨b, off, cap', qp, qc, hv, d0, hsq⟩ := HLs.out wr hf k hkl
    rw [← HHl.out] at hv
    cases hv
    have HN := hid (HSn.out k hkl)
    have htk2 := HTk.out (k + 1)
    have HE1 := hid (HEf.out _ ls[k] wr (List.getElem_mem hkl) hsq)
    generalize hm2 : postRest bound (ls.take (k + 1)) = m2 at *
    have HM2 := hid hm2
    clear hm2
    generalize postRest bound (ls.take k) = m at *
    generalize ls[k] = q at *
    rw [HN.out, List.length_append] at htk2
    obtain ⟨om, hom⟩ : ∃ om, om = D ++ m := ⟨_, rfl⟩
    rw [← hom] at hO
    have hol : om.length = D.length + m.length := by rw [hom, List.length_append]
    have HOm := hid hom
    have HOl := hid hol
    clear hom hol
    obtain ⟨oa, oc, hov⟩ := hO.shape'
    subst hov
    have i3 : (0 : Int) ≤ k := by omega
    have i4 : (k : Int) < hs.length := by omega
    go_wp2_with fail
    refine HE1.out.mono ?_
    rintro e w3 ⟨v3, rfl, hO3, hf3⟩
    have hOr := hO.fr hf3
    have hb3 := hf3.heap hb
    have hfw3 := hf.trans hf3
    go_wp2_with (at_builtin; refine wpList_app eB rfl (.tmp 49) (.tmp 50) 31 rfl Tryz.underlying31 (w.heap.size + 1) rfl hOr _ _ rfl hO3.see ?c1 (Nat.le_trans hszr hf3.size) ?_)
    case c1 => have := HOl.out; omega
    intro v4 w4 hap
    have hf4 : Fr w w4 := hap.below hOr hfw3 (Nat.le_succ _) hfw3.size
    have hb4 := hap.chg'.heap hb3 (hOr.ne_cells hb3 (by decide))
    have hO4 := hap.own
    clear hap hOr hO3 hO hb hb3
    go_wp2_with fail
    go_roundw
    case rel => exact ⟨k + 1, by omega, by go_num, by rw [HM2.out, HN.out, ← List.append_assoc, ← HOm.out]; exact hO4, hb4, hf4⟩
    case measure => simp [intOf]; omega
  · obtain rfl : k = hs.length := by omega
    have hnl : ¬ (hs.length : Int) < hs.length := by omega
    have hTl : D ++ postRest bound (ls.take hs.length) = T := by rw [HHl.out, HAl.out]; exact HT.out.symm
    rw [hTl] at hO
    go_wp2_with fail
    go_ret2
    exact ⟨_, rfl, hO.rebase (Nat.le_succ _), hf⟩
set_option maxRecDepth 512
end Go.Proofs.YtmfbmjplmaimbaaGreatDoor
