/- Parts of the proof of ThreePacks: Q1 Q2 E2 E3 E4 L3 L4. -/
import Derived.Test.YtmfbmjplmaimbaaGreatDoorM12
import Derived.Test.YtmfbmjplmaimbaaGreatDoorM01
import Derived.Test.YtmfbmjplmaimbaaGreatDoorM08
import Derived.Test.YtmfbmjplmaimbaaGreatDoorM14
import Derived.Test.YtmfbmjplmaimbaaGreatDoorM07
import Derived.Test.YtmfbmjplmaimbaaGreatDoorM32
import Derived.Test.YtmfbmjplmaimbaaGreatDoorM09
set_option linter.unusedVariables false
set_option linter.unusedSectionVars false
set_option linter.unusedSimpArgs false
set_option maxHeartbeats 8000000
namespace Go.Proofs.YtmfbmjplmaimbaaGreatDoor
open Go.RowKit Go.Fk
def wt1 (r : Rec) : Nat := 16 + r.source.length + r.text.length
def longR (r : Rec) : Bool := decide (4000 < r.source.length) || decide (4000 < r.text.length)
def okLog (l : List Rec) : Bool := decide (l.length ≤ 20000) && (l.all fun r => !longR r) && decide (wtS wt1 l ≤ 1048576)
abbrev recV (r : Rec) : Value := .agg #[.int .u64 r.time.toNat, Fk.u8 r.level, S r.source, S r.text]
set_option maxRecDepth 100000
theorem long_any (r : Rec) (w : World) : Calls Tryz.prog 54 #[recV r] w fun e w' => e = .returned (.bool (longR r)) ∧ Fr w w' := by
 have HR : Hid (longR r = (decide (4000 < r.source.length) || decide (4000 < r.text.length))) := rfl
 by_cases h1 : 4000 < r.source.length
 · have h1' : (4000 : Int) < r.source.length := by omega
   have HE : Hid (longR r = true) := by show _ = _; rw [HR.out, decide_eq_true h1]; rfl
   go_enter Tryz.func54, Tryz.ntmps54
   go_wp2_with fail
   go_ret
   exact ⟨by rw [HE.out]; rfl, (Fr.refl w).alloc _⟩
 · have h1' : ¬ (4000 : Int) < r.source.length := by omega
   by_cases h2 : 4000 < r.text.length
   · have h2' : (4000 : Int) < r.text.length := by omega
     have HE : Hid (longR r = true) := by show _ = _; rw [HR.out, decide_eq_true h2]; simp
     go_enter Tryz.func54, Tryz.ntmps54
     go_wp2_with fail
     go_ret
     exact ⟨by rw [HE.out]; rfl, (Fr.refl w).alloc _⟩
   · have h2' : ¬ (4000 : Int) < r.text.length := by omega
     have HE : Hid (longR r = false) := by show _ = _; rw [HR.out, decide_eq_false h1, decide_eq_false h2]; rfl
     go_enter Tryz.func54, Tryz.ntmps54
     go_wp2_with fail
     go_ret
     exact ⟨by rw [HE.out]; rfl, (Fr.refl w).alloc _⟩
theorem QWeight_any (v : Value) (l : List Rec) (w : World) (hs : See w eR v l) (hl : l.length ≤ 20000) (hb : ∀ r ∈ l, wt1 r ≤ 8016) :
  Calls Tryz.prog 55 #[v] w fun e w' => e = .returned (N (wtS wt1 l)) ∧ Fr w w' := by
 obtain ⟨a, cap, hv, hcap1, hcap2, hnone⟩ := hs.shape
 subst hv
 have HTk := hid (fun k => wtS_le wt1 8016 (l.take k) (fun x hx => hb x (List.mem_of_mem_take hx)))
 have HB := hid hb
 clear hb
 go_enter Tryz.func55, Tryz.ntmps55
 go_wp2_with fail
 go_loopw [3, 8] (fun sv iv wr => ∃ k : Nat, k ≤ l.length ∧ iv = N k ∧ sv = N (wtS wt1 (l.take k)) ∧ Fr w wr) (fun _ iv _ => l.length - (intOf iv).toNat)
 case atStart => exact ⟨0, Nat.zero_le _, rfl, rfl, Fr.refl w⟩
 case round =>
  obtain ⟨k, hk, rfl, rfl, hf⟩ := hrel
  have hbd := HTk.out k
  rw [List.length_take, Nat.min_eq_left hk] at hbd
  have hbd2 : wtS wt1 (l.take k) ≤ 20000 * 8016 := Nat.le_trans hbd (Nat.mul_le_mul (by omega) (Nat.le_refl _))
  clear hbd
  by_cases hlt : k < l.length
  · obtain ⟨b, off, cap', hv, c0, c1, c2, c3⟩ := recAt (hs.fr hf) k hlt
    have HN := hid (wtS_snoc wt1 l k hlt)
    have h1 : wt1 l[k] ≤ 8016 := HB.out _ (List.getElem_mem hlt)
    generalize wtS wt1 (l.take k) = sum at *
    generalize l[k] = r at *
    cases hv
    unfold wt1 at h1
    have i1 : (0 : Int) ≤ k := by omega
    have i2 : (k : Int) < l.length := by omega
    go_wp2_with fail
    exact ⟨⟨k + 1, by omega, by go_num, by rw [HN.out]; unfold wt1; go_num, hf.alloc _⟩, by simp [intOf]; omega⟩
  · obtain rfl : k = l.length := by omega
    have hnl : ¬ ((l.length : Int) < l.length) := by omega
    rw [List.take_length] at *
    go_wp2_with fail
    go_ret
    exact ⟨rfl, hf⟩
theorem indexLong_any (v : Value) (l : List Rec) (w : World) (hs : See w eR v l) :
  Calls Tryz.prog 94 #[v, .func (.func 54) #[] #[]] w fun e w' => ∃ x : Int, e = .returned (.int .i64 x) ∧ Hid (decide (0 ≤ x) = l.any longR) ∧ Fr w w' := by
 obtain ⟨a, cap, hv, hcap1, hcap2, hnone⟩ := hs.shape
 subst hv
 unfold maxLen at hcap2
 have HL := hid long_any
 go_enter Tryz.func94, Tryz.ntmps94
 go_wp2_with fail
 go_loopw [8] (fun iv wr => ∃ k : Nat, k ≤ l.length ∧ iv = N k ∧ Hid ((l.take k).any longR = false) ∧ Fr w wr) (fun iv _ => l.length - (intOf iv).toNat)
 case atStart => exact ⟨0, Nat.zero_le _, rfl, rfl, Fr.refl w⟩
 case round =>
  obtain ⟨k, hk, rfl, HA, hf⟩ := hrel
  by_cases hlt : k < l.length
  · obtain ⟨b, off, cap', hv, c0, c1, c2, c3⟩ := recAt (hs.fr hf) k hlt
    have HN : Hid ((l.take (k + 1)).any longR = longR l[k]) := by
     show _ = _; rw [List.take_succ_eq_append_getElem hlt, List.any_append, HA.out]; simp
    have HX : Hid (longR l[k] = true → l.any longR = true) := fun h => List.any_eq_true.2 ⟨_, List.getElem_mem hlt, h⟩
    generalize l[k] = r at *
    cases hv
    have HR := hid (HL.out r)
    have i1 : (0 : Int) ≤ k := by omega
    have i2 : (k : Int) < l.length := by omega
    cases hr : longR r
    · rw [hr] at HR HN HX
      clear hr
      go_wp2_with fail
      refine (HR.out _).mono ?_
      rintro e w1 ⟨rfl, hf1⟩
      go_wp2_with fail
      exact ⟨⟨k + 1, by omega, by go_num, HN.out, hf.trans hf1⟩, by simp [intOf]; omega⟩
    · have HX2 := hid (HX.out hr)
      rw [hr] at HR HN
      clear hr HX
      go_wp2_with fail
      refine (HR.out _).mono ?_
      rintro e w1 ⟨rfl, hf1⟩
      go_wp2_with fail
      go_ret
      exact ⟨_, rfl, by show _ = _; rw [HX2.out]; simp, hf.trans hf1⟩
  · obtain rfl : k = l.length := by omega
    have hnl : ¬ ((l.length : Int) < l.length) := by omega
    rw [List.take_length] at HA
    go_wp2_with fail
    go_ret
    exact ⟨_, rfl, by show _ = _; rw [HA.out]; rfl, hf⟩
theorem hasLong_any (v : Value) (l : List Rec) (w : World) (hs : See w eR v l) :
  Calls Tryz.prog 53 #[v, .func (.func 54) #[] #[]] w fun e w' => e = .returned (.bool (l.any longR)) ∧ Fr w w' := by
 obtain ⟨a, cap, hv, hcap1, hcap2, hnone⟩ := hs.shape
 have HI := hid (indexLong_any v l w hs)
 subst hv
 go_enter Tryz.func53, Tryz.ntmps53
 go_wp2_with fail
 refine HI.out.mono ?_
 rintro e w1 ⟨x, rfl, HX, hf⟩
 go_wp2_with fail
 go_ret
 exact ⟨by rw [← HX.out]; rfl, hf⟩
theorem QCheck_any (v : Value) (l : List Rec) (w : World) (hs : See w eR v l) :
  Calls Tryz.prog 25 #[v] w fun e w' => e = .returned (.int .i64 (if okLog l then 0 else 6)) ∧ Fr w w' := by
 obtain ⟨a, cap, hv, hcap1, hcap2, hnone⟩ := hs.shape
 have HL := hid (fun W h => hasLong_any v l W h)
 have HW := hid (fun W h => QWeight_any v l W h)
 have HR : Hid ((if okLog l then (0 : Int) else 6) = if (decide (l.length ≤ 20000) && (l.all fun r => !longR r) && decide (wtS wt1 l ≤ 1048576)) = true then 0 else 6) := rfl
 have HAll : Hid ((l.all fun r => !longR r) = !(l.any longR)) := by show _ = _; rw [List.not_any_eq_all_not]
 generalize (if okLog l then (0 : Int) else 6) = R at *
 rw [HAll.out] at HR
 subst hv
 unfold maxLen at hcap2
 by_cases h1 : l.length ≤ 20000
 · have h1' : ¬ (20000 : Int) < l.length := by omega
   rw [decide_eq_true h1] at HR
   cases ha : l.any longR
   · have hb : ∀ r ∈ l, wt1 r ≤ 8016 := by
       intro r hr
       have h2 : longR r = false := by
        cases hx : longR r
        · rfl
        · rw [List.any_eq_true.2 ⟨r, hr, hx⟩] at ha; cases ha
       unfold longR at h2
       simp only [Bool.or_eq_false_iff, decide_eq_false_iff_not] at h2
       unfold wt1; omega
     rw [ha] at HR HL
     have HW2 := hid (fun W h => HW.out W h h1 hb)
     clear HAll HW hb ha
     by_cases h3 : wtS wt1 l ≤ 1048576
     · rw [decide_eq_true h3] at HR
       have h3' : ¬ (1048576 : Int) < wtS wt1 l := by omega
       have HE : Hid (R = 0) := by show _ = _; rw [HR.out]; rfl
       generalize wtS wt1 l = wt at *
       go_enter Tryz.func25, Tryz.ntmps25
       go_wp2_with fail
       refine (HL.out _ hs).mono ?_
       rintro e w1 ⟨rfl, hf1⟩
       go_wp2_with fail
       refine (HW2.out _ (hs.fr hf1)).mono ?_
       rintro e w2 ⟨rfl, hf2⟩
       go_wp2_with fail
       go_ret
       exact ⟨by rw [HE.out]; rfl, hf1.trans hf2⟩
     · rw [decide_eq_false h3] at HR
       have h3' : (1048576 : Int) < wtS wt1 l := by omega
       have HE : Hid (R = 6) := by show _ = _; rw [HR.out]; rfl
       generalize wtS wt1 l = wt at *
       go_enter Tryz.func25, Tryz.ntmps25
       go_wp2_with fail
       refine (HL.out _ hs).mono ?_
       rintro e w1 ⟨rfl, hf1⟩
       go_wp2_with fail
       refine (HW2.out _ (hs.fr hf1)).mono ?_
       rintro e w2 ⟨rfl, hf2⟩
       go_wp2_with fail
       go_ret
       exact ⟨by rw [HE.out]; rfl, hf1.trans hf2⟩
   · rw [ha] at HR HL
     have HE : Hid (R = 6) := by show _ = _; rw [HR.out]; rfl
     clear HAll ha
     go_enter Tryz.func25, Tryz.ntmps25
     go_wp2_with fail
     refine (HL.out _ hs).mono ?_
     rintro e w1 ⟨rfl, hf1⟩
     go_wp2_with fail
     go_ret
     exact ⟨by rw [HE.out]; rfl, hf1⟩
 · have h1' : (20000 : Int) < l.length := by omega
   rw [decide_eq_false h1] at HR
   have HE : Hid (R = 6) := by show _ = _; rw [HR.out]; rfl
   go_enter Tryz.func25, Tryz.ntmps25
   go_wp2_with fail
   go_ret
   exact ⟨by rw [HE.out]; rfl, Fr.refl w⟩
theorem RQCheck_any (v : Value) (l : List Rec) (w : World) (hs : See w eR v l) :
  Calls Tryz.prog 6 #[v] w fun e w' => e = .returned (.int .i64 (if okLog l then 0 else 6)) ∧ Fr w w' := by
 obtain ⟨a, cap, hv, hcap1, hcap2, hnone⟩ := hs.shape
 have HR : Hid ((if okLog l then (0 : Int) else 6) = if (decide (l.length ≤ 20000) && (l.all fun r => !longR r) && decide (wtS wt1 l ≤ 1048576)) = true then 0 else 6) := rfl
 generalize (if okLog l then (0 : Int) else 6) = R at *
 subst hv
 unfold maxLen at hcap2
 by_cases h1 : l.length ≤ 20000
 · have h1' : ¬ (20000 : Int) < l.length := by omega
   rw [decide_eq_true h1] at HR
   go_enter Tryz.func6, Tryz.ntmps6
   go_wp2_with fail
   go_loopw [3, 4] (fun sv iv wr => ∃ k : Nat, k ≤ l.length ∧ iv = N k ∧ sv = N (wtS wt1 (l.take k)) ∧ Hid (∀ r ∈ l.take k, longR r = false) ∧ wtS wt1 (l.take k) ≤ k * 8016 ∧ Fr w wr) (fun _ iv _ => l.length - (intOf iv).toNat)
   case atStart => exact ⟨0, Nat.zero_le _, rfl, rfl, fun r hr => (by cases hr), Nat.zero_le _, Fr.refl w⟩
   case round =>
    obtain ⟨k, hk, rfl, rfl, HA, hsum, hf⟩ := hrel
    by_cases hlt : k < l.length
    · obtain ⟨b, off, cap', hv, c0, c1, c2, c3⟩ := recAt (hs.fr hf) k hlt
      have HN := hid (wtS_snoc wt1 l k hlt)
      have HA2 : Hid (longR l[k] = false → ∀ r ∈ l.take (k + 1), longR r = false) := by
       intro h r hr
       rw [List.take_succ_eq_append_getElem hlt] at hr
       rcases List.mem_append.1 hr with hr | hr
       · exact HA.out r hr
       · rw [List.mem_singleton] at hr; rw [hr]; exact h
      have HX : Hid (longR l[k] = true → R = 6) := by
       intro h
       rw [HR.out, if_neg]
       have : (l.all fun r => !longR r) = false := by
        rw [List.all_eq_false]; exact ⟨_, List.getElem_mem hlt, by rw [h]; simp⟩
       rw [this]; simp
      have HLr : Hid (longR l[k] = (decide (4000 < l[k].source.length) || decide (4000 < l[k].text.length))) := rfl
      have HW1 : Hid (wt1 l[k] = 16 + l[k].source.length + l[k].text.length) := rfl
      generalize wtS wt1 (l.take k) = sum at *
      generalize l[k] = r at *
      cases hv
      have i1 : (0 : Int) ≤ k := by omega
      have i2 : (k : Int) < l.length := by omega
      by_cases h2 : 4000 < r.source.length
      · have h2' : (4000 : Int) < r.source.length := by omega
        have HE : Hid (R = 6) := HX.out (by rw [HLr.out, decide_eq_true h2]; rfl)
        clear HX
        go_wp2_with fail
        go_ret
        exact ⟨by rw [HE.out]; rfl, hf⟩
      · have h2' : ¬ (4000 : Int) < r.source.length := by omega
        by_cases h3 : 4000 < r.text.length
        · have h3' : (4000 : Int) < r.text.length := by omega
          have HE : Hid (R = 6) := HX.out (by rw [HLr.out, decide_eq_true h3]; simp)
          clear HX
          go_wp2_with fail
          go_ret
          exact ⟨by rw [HE.out]; rfl, hf⟩
        · have h3' : ¬ (4000 : Int) < r.text.length := by omega
          have HA3 := hid (HA2.out (by rw [HLr.out, decide_eq_false h2, decide_eq_false h3]; rfl))
          clear HA2 HX
          have hw1 : IntKind.i64.wrap ((sum : Int) + 16) = (sum : Int) + 16 := IntWalk.i64_in _ (by omega)
          have hw2 : IntKind.i64.wrap ((sum : Int) + 16 + r.source.length) = (sum : Int) + 16 + r.source.length := IntWalk.i64_in _ (by omega)
          have hw3 : IntKind.i64.wrap ((sum : Int) + 16 + r.source.length + r.text.length) = (sum : Int) + 16 + r.source.length + r.text.length := IntWalk.i64_in _ (by omega)
          go_upto_region 9 with fail
          go_quiet (fail)
          go_wp2_with fail
          go_roundw
          case rel => exact ⟨k + 1, by omega, by go_num, by rw [HN.out, HW1.out]; go_num, HA3, by rw [HN.out, HW1.out]; omega, hf.drewN _⟩
          case measure => simp [intOf]; omega
    · obtain rfl : k = l.length := by omega
      have hnl : ¬ ((l.length : Int) < l.length) := by omega
      rw [List.take_length] at *
      have hall : (l.all fun r => !longR r) = true := by
       rw [List.all_eq_true]; intro r hr; rw [HA.out r hr]; rfl
      rw [hall] at HR
      clear hall
      by_cases h3 : wtS wt1 l ≤ 1048576
      · rw [decide_eq_true h3] at HR
        have h3' : ¬ (1048576 : Int) < wtS wt1 l := by omega
        have HE : Hid (R = 0) := by show _ = _; rw [HR.out]; rfl
        generalize wtS wt1 l = wt at *
        go_wp2_with fail
        go_ret
        exact ⟨by rw [HE.out]; rfl, hf⟩
      · rw [decide_eq_false h3] at HR
        have h3' : (1048576 : Int) < wtS wt1 l := by omega
        have HE : Hid (R = 6) := by show _ = _; rw [HR.out]; rfl
        generalize wtS wt1 l = wt at *
        go_wp2_with fail
        go_ret
        exact ⟨by rw [HE.out]; rfl, hf⟩
 · have h1' : (20000 : Int) < l.length := by omega
   rw [decide_eq_false h1] at HR
   have HE : Hid (R = 6) := by show _ = _; rw [HR.out]; rfl
   go_enter Tryz.func6, Tryz.ntmps6
   go_wp2_with fail
   go_ret
   exact ⟨by rw [HE.out]; rfl, Fr.refl w⟩
set_option maxRecDepth 512
def oneB (whole : Bool) (r : Rec) : List UInt8 := (if whole then numB r.time.toNat ++ [r.level] else []) ++ (textB r.source ++ textB r.text)
theorem textB_len (s : List UInt8) (h : s.length < 18446744073709551616) : (textB s).length ≤ s.length + 10 := by
 unfold textB; have := numB_le s.length h; rw [List.length_append]; omega
theorem oneB_len (b : Bool) (r : Rec) (hs : r.source.length ≤ 100000) (ht : r.text.length ≤ 100000) : (oneB b r).length ≤ r.source.length + r.text.length + 31 := by
 have h1 := textB_len r.source (by omega)
 have h2 := textB_len r.text (by omega)
 have h3 := numB_le r.time.toNat (UInt64.toNat_lt _)
 unfold oneB
 cases b
 · simp only [List.length_append]; simp; omega
 · simp only [List.length_append, if_true]; simp; omega
theorem sees3 (w : World) (h0 h1 h2 : Hd) (p0 p1 p2 : List UInt8) (s0 : See w eB h0.v p0) (s1 : See w eB h1.v p1) (s2 : See w eB h2.v p2) :
  Sees2 (w.alloc (.cells #[h0.v, h1.v, h2.v] 31)) eHB eB (.slice (some ⟨w.heap.size, 0, none⟩) 3 3) [h0, h1, h2] [p0, p1, p2] := by
 refine ⟨see_new eHB w [h0, h1, h2] _ _ 3 rfl rfl (by simp [maxLen]), rfl, fun i a b => ?_⟩
 have hf := (Fr.refl w).alloc (.cells #[h0.v, h1.v, h2.v] 31)
 have : i = 0 ∨ i = 1 ∨ i = 2 := by simp at a; omega
 rcases this with rfl | rfl | rfl
 · exact s0.fr hf
 · exact s1.fr hf
 · exact s2.fr hf
theorem see_hd {w : World} {v : Value} {p : List UInt8} (h : See w eB v p) : ∃ x : Hd, v = x.v := by
 obtain ⟨a, c, hv, _⟩ := h.shape
 exact ⟨⟨a, p.length, c⟩, hv⟩
theorem all3 (W : World) (v0 v1 v2 : Value) (p0 p1 p2 : List UInt8) (s0 : See W eB v0 p0) (s1 : See W eB v1 p1) (s2 : See W eB v2 p2) (hn : p0.length + p1.length + p2.length ≤ 1000000) :
  Calls Tryz.prog 35 #[.slice (some ⟨W.heap.size, 0, none⟩) 3 3] (W.alloc (.cells #[v0, v1, v2] 31)) fun e w' => ∃ v, e = .returned v ∧ Ow w' W.heap.size eB v (p0 ++ (p1 ++ p2)) ∧ Fr W w' := by
 obtain ⟨h0, rfl⟩ := see_hd s0
 obtain ⟨h1, rfl⟩ := see_hd s1
 obtain ⟨h2, rfl⟩ := see_hd s2
 refine (All_any _ _ _ _ (sees3 W h0 h1 h2 p0 p1 p2 s0 s1 s2) (by simp; omega)).mono ?_
 rintro e w' ⟨v, he, ho, hf⟩
 exact ⟨v, he, by simpa using ho.rebase (by simp), ((Fr.refl W).alloc _).trans hf⟩
set_option maxRecDepth 100000
theorem one_any (r : Rec) (w : World) (hs : r.source.length ≤ 100000) (ht : r.text.length ≤ 100000) :
  Calls Tryz.prog 56 #[.bool false, recV r] w fun e w' => ∃ v, e = .returned v ∧ Ow w' w.heap.size eB v (oneB false r) ∧ Fr w w' := by
 have HT := hid (fun s (h : s.length ≤ 1000000000) W => Text_any s h W)
 have H1 := textB_len r.source (by omega)
 have H2 := textB_len r.text (by omega)
 have HE : Hid (oneB false r = textB r.source ++ textB r.text) := rfl
 go_enter Tryz.func56, Tryz.ntmps56
 go_upto_region 4 with fail
 generalize hW : w.alloc (.cells #[.int .u64 r.time.toNat, Fk.u8 r.level, S r.source, S r.text] 40) = W
 have hf0 : Fr w W := by rw [← hW]; exact (Fr.refl w).alloc _
 have hc0 : W.cell? ⟨w.heap.size, 2, none⟩ = some (S r.source) ∧ W.cell? ⟨w.heap.size, 3, none⟩ = some (S r.text) := by
  rw [← hW]; refine ⟨?_, ?_⟩ <;> rw [World.cell?_alloc_at _ _ _ _ rfl] <;> rfl
 obtain ⟨a2, a3⟩ := hc0
 have HF := hid hf0
 clear hW hf0
 have HA := hid (fun W v1 v2 (s1 : See W eB v1 (textB r.source)) (s2 : See W eB v2 (textB r.text)) => all3 W _ v1 v2 [] _ _ See.nil s1 s2 (by simp; omega))
 rw [List.nil_append, ← HE.out] at HA
 go_region_held3 (fun w' => w'.cell? ⟨w.heap.size, 2, none⟩ = some (S r.source) ∧ w'.cell? ⟨w.heap.size, 3, none⟩ = some (S r.text))
  (first | go_keep)
  ((first
   | (go_at_call_of 95 (S r.source); refine (HT.out r.source (by omega) _).mono ?_; rintro e w1 ⟨v1, rfl, hown1, hf1⟩; obtain ⟨q1, z1, hq1⟩ := hown1.shape'; subst hq1; have b2 := hf1.cell a2; have b3 := hf1.cell a3)
   | (go_at_call_of 95 (S r.text); refine (HT.out r.text (by omega) _).mono ?_; rintro e w2 ⟨v2, rfl, hown2, hf2⟩; obtain ⟨q2, z2, hq2⟩ := hown2.shape'; subst hq2; have d2 := hf2.cell b2; have d3 := hf2.cell b3)
   | (go_at_call 35; refine (HA.out _ _ _ (hown1.see.fr hf2) hown2.see).mono ?_; rintro e w3 ⟨v3, rfl, hown3, hf3⟩; have x2 := hf3.cell d2; have x3 := hf3.cell d3)))
 go_wp2_with fail
 go_ret
 exact ⟨_, rfl, hown3.rebase (by have := ((((HF.out.trans (Fr.drew (Fr.refl W))).trans hf1).trans hf2)).size; omega), (((HF.out.trans (Fr.drew (Fr.refl W))).trans hf1).trans hf2).trans hf3⟩
theorem ROne_any (b : Bool) (r : Rec) (w : World) (hs : r.source.length ≤ 100000) (ht : r.text.length ≤ 100000) :
  Calls Tryz.prog 121 #[.bool b, recV r] w fun e w' => ∃ v, e = .returned v ∧ Ow w' w.heap.size eB v (oneB b r) ∧ Fr w w' := by
 have HT := hid (fun s (h : s.length ≤ 1000000000) W => RText_any s h W)
 have HNm := hid (RNum_any r.time.toNat (UInt64.toNat_lt _))
 have H1 := textB_len r.source (by omega)
 have H2 := textB_len r.text (by omega)
 have H3 := numB_le r.time.toNat (UInt64.toNat_lt _)
 have hB0 := heap_new w (.cells #[.int .u64 r.time.toNat, Fk.u8 r.level, S r.source, S r.text] 40) _ rfl
 have hf0 := (Fr.refl w).alloc (.cells #[.int .u64 r.time.toNat, Fk.u8 r.level, S r.source, S r.text] 40)
 have hz0 : w.heap.size + 1 ≤ (w.alloc (.cells #[.int .u64 r.time.toNat, Fk.u8 r.level, S r.source, S r.text] 40)).heap.size := by simp
 have hlt : w.heap.size ≤ w.heap.size + 1 := Nat.le_succ _
 cases b
 · have HE : Hid (oneB false r = [] ++ textB r.source ++ textB r.text) := rfl
   go_enter Tryz.func121, Tryz.ntmps121
   go_wp2_with fail
   refine (HT.out r.source (by omega) _).mono ?_
   rintro e w1 ⟨v1, rfl, hown1, hf1⟩
   have hB1 := hf1.heap hB0
   have hn0 : Ow w1 (w.heap.size + 1) eB (.slice none 0 0) ([] : List UInt8) := Ow.nil
   go_wp2_with (at_builtin; refine wpList_app eB rfl (.tmp 17) (.tmp 20) 31 rfl Tryz.underlying31 (w.heap.size + 1) rfl hn0 _ _ rfl hown1.see (by (try simp); omega) (Nat.le_trans hz0 hf1.size) ?_)
   intro v2 w2 hap2
   have hf2 : Fr w w2 := hap2.below hn0 (hf0.trans hf1) hlt (hf0.trans hf1).size
   have hB2 := hap2.chg'.heap hB1 (fun e => by cases e)
   have e3 : w2.cell? ⟨w.heap.size, 3, none⟩ = some (S r.text) := by rw [cell_of_heap hB2]; rfl
   have hown2 := hap2.own
   have hz2 : w.heap.size + 1 ≤ w2.heap.size := Nat.le_trans (Nat.le_trans hz0 hf1.size) hap2.size
   clear hap2 hn0 hB1 hB0
   go_wp2_with fail
   refine (HT.out r.text (by omega) _).mono ?_
   rintro e w3 ⟨v3, rfl, hown3, hf3⟩
   go_wp2_with (at_builtin; refine wpList_app eB rfl (.tmp 22) (.tmp 25) 31 rfl Tryz.underlying31 (w.heap.size + 1) rfl (hown2.fr hf3) _ _ rfl hown3.see (by (try simp); omega) (Nat.le_trans hz2 hf3.size) ?_)
   intro v4 w4 hap4
   go_wp2_with fail
   go_ret
   exact ⟨_, rfl, by rw [HE.out]; simpa using hap4.own.rebase hlt, hap4.below (hown2.fr hf3) (hf2.trans hf3) hlt (hf2.trans hf3).size⟩
 · have HE : Hid (oneB true r = [] ++ numB r.time.toNat ++ [r.level] ++ textB r.source ++ textB r.text) := by show _ = _; simp [oneB]
   go_enter Tryz.func121, Tryz.ntmps121
   go_wp2_with fail
   refine (HNm.out _).mono ?_
   rintro e w1 ⟨v1, rfl, hown1, hf1⟩
   have hB1 := hf1.heap hB0
   have hn0 : Ow w1 (w.heap.size + 1) eB (.slice none 0 0) ([] : List UInt8) := Ow.nil
   go_wp2_with (at_builtin; refine wpList_app eB rfl (.tmp 7) (.tmp 10) 31 rfl Tryz.underlying31 (w.heap.size + 1) rfl hn0 _ _ rfl hown1.see (by (try simp); omega) (Nat.le_trans hz0 hf1.size) ?_)
   intro v2 w2 hap2
   have hf2 : Fr w w2 := hap2.below hn0 (hf0.trans hf1) hlt (hf0.trans hf1).size
   have hB2 := hap2.chg'.heap hB1 (fun e => by cases e)
   have e3 : w2.cell? ⟨w.heap.size, 1, none⟩ = some (Fk.u8 r.level) := by rw [cell_of_heap hB2]; rfl
   have hown2 := hap2.own
   have hz2 : w.heap.size + 1 ≤ w2.heap.size := Nat.le_trans (Nat.le_trans hz0 hf1.size) hap2.size
   clear hap2 hn0 hB1 hB0
   go_wp2_with (at_builtin; refine wpList_app1 eB rfl (.tmp 12) (.tmp 15) 31 rfl Tryz.underlying31 (w.heap.size + 1) rfl hown2 [r.level] _ _ _ rfl rfl rfl (by simp; omega) hz2 ?_)
   intro v5 w5 hap5
   have hf5 : Fr w w5 := hap5.below hown2 hf2 hlt hf2.size
   have hB5 := hap5.chg'.heap hB2 (fun e => by have := (hown2.lt _ e).1; omega)
   have e5 : w5.cell? ⟨w.heap.size, 2, none⟩ = some (S r.source) := by rw [cell_of_heap hB5]; rfl
   have hown5 := hap5.own
   have hz5 : w.heap.size + 1 ≤ w5.heap.size := Nat.le_trans hz2 hap5.size
   clear hap5 hown2 e3 hB2
   go_wp2_with fail
   refine (HT.out r.source (by omega) _).mono ?_
   rintro e w6 ⟨v6, rfl, hown6, hf6⟩
   have hB6 := hf6.heap hB5
   have hown56 := hown5.fr hf6
   go_wp2_with (at_builtin; refine wpList_app eB rfl (.tmp 17) (.tmp 20) 31 rfl Tryz.underlying31 (w.heap.size + 1) rfl hown56 _ _ rfl hown6.see (by (try simp); omega) (Nat.le_trans hz5 hf6.size) ?_)
   intro v7 w7 hap7
   have hf7 : Fr w w7 := hap7.below hown56 (hf5.trans hf6) hlt (hf5.trans hf6).size
   have hB7 := hap7.chg'.heap hB6 (fun e => by have := (hown56.lt _ e).1; omega)
   have e7 : w7.cell? ⟨w.heap.size, 3, none⟩ = some (S r.text) := by rw [cell_of_heap hB7]; rfl
   have hown7 := hap7.own
   have hz7 : w.heap.size + 1 ≤ w7.heap.size := Nat.le_trans (Nat.le_trans hz5 hf6.size) hap7.size
   clear hap7 hown56 hown5 hB6 hB5 hB7 e5
   go_wp2_with fail
   refine (HT.out r.text (by omega) _).mono ?_
   rintro e w8 ⟨v8, rfl, hown8, hf8⟩
   go_wp2_with (at_builtin; refine wpList_app eB rfl (.tmp 22) (.tmp 25) 31 rfl Tryz.underlying31 (w.heap.size + 1) rfl (hown7.fr hf8) _ _ rfl hown8.see (by (try simp); omega) (Nat.le_trans hz7 hf8.size) ?_)
   intro v4 w4 hap4
   go_wp2_with fail
   go_ret
   exact ⟨_, rfl, by rw [HE.out]; simpa using hap4.own.rebase hlt, hap4.below (hown7.fr hf8) (hf7.trans hf8) hlt (hf7.trans hf8).size⟩
set_option maxRecDepth 512
set_option maxRecDepth 100000
theorem Rwidth_any (q : Nat) (h0 : 1 ≤ q) (hq : q ≤ 20000) (w : World) :
  Calls Tryz.prog 128 #[N q] w fun e w' => e = .returned (.tuple #[N (Nat.log2 q), N (2 ^ Nat.log2 q)]) ∧ w = w' := by
 go_enter Tryz.func128, Tryz.ntmps128
 go_wp2_with fail
 go_loopw [4, 5] (fun wv pv wr => ∃ k p : Nat, wv = N k ∧ pv = N p ∧ p ≤ q ∧ k ≤ 20000 ∧ Hid (p = 2 ^ k) ∧ k < p ∧ w = wr) (fun _ pv _ => q - (intOf pv).toNat)
 case atStart => exact ⟨0, 1, rfl, rfl, h0, by omega, by first | rfl | trivial, by omega, by first | rfl | trivial⟩
 case round =>
  obtain ⟨k, p, rfl, rfl, hp, hk, HP, hkp, rfl⟩ := hrel
  by_cases hlt : 2 * p ≤ q
  · have hlt' : (2 : Int) * p ≤ q := by omega
    have HP2 : Hid (2 * p = 2 ^ (k + 1)) := by show _ = _; rw [HP.out, Nat.pow_succ]; omega
    go_wp2_with fail
    exact ⟨⟨k + 1, 2 * p, by go_num, by go_num, hlt, by omega, HP2.out, by omega, by first | rfl | trivial⟩, by simp [intOf]; omega⟩
  · have hlt' : decide ((2 : Int) * p ≤ q) = false := by simp; omega
    have hlt2 : decide (2 * p ≤ q) = false := by simp; omega
    have HL : Hid (Nat.log2 q = k) := log2_le q k (by rw [← HP.out]; exact hp) (by rw [Nat.pow_succ, ← HP.out]; omega)
    go_wp2_with fail
    go_ret2
    rw [HL.out, ← HP.out]
    exact ⟨rfl, rfl⟩
set_option maxRecDepth 512
theorem wst_fr {g : Nat} {bv : Value} {w w' : World} (h : WSt g (.slice none 0 0) bv w w') (hg : w.heap.size ≤ g) : Fr w w' :=
 h.1.fr fun k hk e => by
  rcases e with e | e
  · omega
  · simp [Value.ownBlock] at e
set_option maxRecDepth 100000
theorem REfWrite_any (bound : Nat) (hb : bound ≤ 20000) (v : Value) (l : List Nat) (w : World) (hs : See w eJ v l) (hr : risesGo bound 0 l = true) :
  Calls Tryz.prog 84 #[N bound, v] w fun e w' => ∃ v, e = .returned (.tuple #[v, .int .i64 0]) ∧ Ow w' w.heap.size eB v (efL bound l) ∧ Fr w w' := by
 obtain ⟨a, cap, hv, hcap1, hcap2, hnone⟩ := hs.shape
 subst hv
 unfold maxLen at hcap2
 have hlen := rises_len bound l 0 (Nat.zero_le _) hr
 have HM := hid (REfMay_any bound _ l w hs)
 rw [hr] at HM
 have HN := hid (fun W => RNum_any l.length (by omega) W)
 have hnb := numB_le l.length (by omega)
 have HX := hid (rises_lt bound l 0 hr)
 have HEf : Hid (efL bound l = numB l.length ++ if l = [] then [] else packW (efLow (Nat.log2 (bound / l.length)) l ++ efHigh (Nat.log2 (bound / l.length)) 0 l)) := rfl
 generalize numB l.length = nb at *
 have HRi := hid hr
 clear hr
 have b0 : ¬ (bound : Int) < 0 := by omega
 have b1 : ¬ (20000 : Int) < bound := by omega
 go_enter Tryz.func84, Tryz.ntmps84
 go_wp2_with fail
 refine HM.out.mono ?_
 rintro e w1 ⟨rfl, hf1⟩
 go_wp2_with fail
 refine (HN.out _).mono ?_
 rintro e w2 ⟨v2, rfl, hown2, hf2⟩
 have hF2 := hf1.trans hf2
 by_cases h0 : l = []
 · subst h0
   go_wp2_with fail
   go_ret2
   exact ⟨_, rfl, by rw [HEf.out]; simpa using hown2.rebase hf1.size, hF2⟩
 · have hl0 : 0 < l.length := List.length_pos_iff.2 h0
   have hl0' : ((l.length : Int) == 0) = false := by simp; omega
   have hq1 : 1 ≤ bound / l.length := Nat.div_pos (by omega) hl0
   have hq2 : bound / l.length ≤ 20000 := Nat.le_trans (Nat.div_le_self _ _) hb
   have hqd : (bound : Int) / l.length = ((bound / l.length : Nat) : Int) := (Int.natCast_ediv _ _).symm
   rw [if_neg h0] at HEf
   generalize hQ : bound / l.length = q at *
   have HW := hid (fun W => Rwidth_any q hq1 hq2 W)
   have hpq : 2 ^ Nat.log2 q ≤ q := Nat.log2_self_le (by omega)
   have hnp : Nat.log2 q < 2 ^ Nat.log2 q := Nat.lt_two_pow_self
   generalize Nat.log2 q = n at *
   have HP : Hid (2 ^ n = 2 ^ n) := rfl
   generalize hp : 2 ^ n = p at hpq hnp HW
   have HPn := hid hp
   clear hp hQ HP
   go_wp2_with fail
   refine (HW.out _).mono ?_
   rintro e w3 ⟨rfl, rfl⟩
   go_wp2_with fail
   have hll : l.length ≤ 20000 := by omega
   have hn20 : n ≤ 64 := by
    have : n < 15 := by
     refine Nat.lt_of_not_le fun h => ?_
     have := Nat.pow_le_pow_right (show 0 < 2 by omega) h
     rw [HPn.out] at this
     omega
    omega
   have HT := hid (fun k => efLow_len n (l.take k))
   have HL14 : Hid (∀ k, (efLow n (l.take k)).length ≤ 1280000) := fun k => by
    rw [HT.out k, List.length_take]
    exact Nat.le_trans (Nat.mul_le_mul (Nat.le_trans (Nat.min_le_right _ _) hll) hn20) (by omega)
   have hA : Fr w2 (w2.alloc (.cells #[Value.slice none 0 0] 169)) := (Fr.refl w2).alloc _
   have hB : (w2.alloc (.cells #[Value.slice none 0 0] 169)).heap[w2.heap.size]? = some (.cells #[Value.slice none 0 0] 169 (0, 0)) := heap_new _ _ _ rfl
   have hsz : (w2.alloc (.cells #[Value.slice none 0 0] 169)).heap.size = w2.heap.size + 1 := by simp
   generalize w2.alloc (.cells #[Value.slice none 0 0] 169) = W0 at *
   go_loopw [10] (fun iv wr => ∃ (k : Nat) (bv : Value), k ≤ l.length ∧ iv = N k ∧ WrR wr (w2.heap.size + 1) w2.heap.size 169 bv (efLow n (l.take k)) ∧ WSt w2.heap.size (.slice none 0 0) bv W0 wr) (fun iv _ => l.length - (intOf iv).toNat)
   case atStart => exact ⟨0, .slice none 0 0, Nat.zero_le _, rfl, ⟨hB, Ow.nil, by omega, fun c hc => by simp [efLow] at hc⟩, WSt.refl _ _ _⟩
   case round =>
    obtain ⟨k, bv, hk, rfl, hW, hst⟩ := hrel
    have hfw : Fr w2 wr := wst_fr (WSt.fr hA hst) (Nat.le_refl _)
    by_cases hlt : k < l.length
    · obtain ⟨b, off, cap', hv, c0⟩ := jAt (hs.fr (hF2.trans hfw)) k hlt
      have HS := hid (efLow_snoc n l k hlt)
      rw [HPn.out] at HS
      generalize l[k] = x at *
      cases hv
      have hxp : x % p < 2 ^ n := by rw [HPn.out]; exact Nat.mod_lt _ (by omega)
      have HPut := hid (Rput_any (x % p) n hn20 hxp (w2.heap.size + 1) w2.heap.size _ bv _ wr hW (by have := HL14.out k; omega) (by have := hst.1.size; omega))
      have i1 : (0 : Int) ≤ k := by omega
      have i2 : (k : Int) < l.length := by omega
      have hp0 : ((p : Int) == 0) = false := by simp; omega
      have hp1 : p ≠ 0 := by omega
      have hyb : x % p < p := Nat.mod_lt _ (by omega)
      have hmod : (x : Int).tmod p = ((x % p : Nat) : Int) := by rw [Int.tmod_eq_emod_of_nonneg (by omega)]; exact (Int.natCast_emod _ _).symm
      clear hxp
      generalize x % p = y at *
      go_wp2_with fail
      refine HPut.out.mono ?_
      rintro e w4 ⟨rfl, bv', hW', hst'⟩
      go_wp2_with fail
      exact ⟨⟨k + 1, bv', by omega, by go_num, by rw [HS.out]; exact hW', hst.trans hst'⟩, by simp [intOf]; omega⟩
    · obtain rfl : k = l.length := by omega
      have hnl : ¬ ((l.length : Int) < l.length) := by omega
      rw [List.take_length] at hW
      go_wp2_with fail
      have HLen : Hid ((efLow n l).length ≤ 1280000) := by have := HL14.out l.length; rw [List.take_length] at this; exact this
      clear HT HL14
      go_loopw [11, 12] (fun tv iv wr2 => ∃ (k was : Nat) (bv : Value) (m : List UInt8), k ≤ l.length ∧ iv = N k ∧ tv = N was ∧ was ≤ 20000 ∧ m.length ≤ 1280000 + was + k ∧ WrR wr2 (w2.heap.size + 1) w2.heap.size 169 bv m ∧ WSt w2.heap.size (.slice none 0 0) bv W0 wr2 ∧ Hid (efLow n l ++ efHigh n 0 l = m ++ efHigh n was (l.drop k)) ∧ Hid (∃ lo, risesGo bound lo (l.drop k) = true ∧ was ≤ lo / p)) (fun _ iv _ => l.length - (intOf iv).toNat)
      case atStart => exact ⟨0, 0, bv, efLow n l, Nat.zero_le _, rfl, rfl, by omega, by have := HLen.out; omega, hW, hst, rfl, 0, HRi.out, Nat.zero_le _⟩
      case round =>
       generalize wr = wr2 at *
       clear hW hst
       obtain ⟨k, was, bv, m, hk, rfl, rfl, hws, hml, hW, hst, HI, HR⟩ := hrel
       have hfw : Fr w2 wr2 := wst_fr (WSt.fr hA hst) (Nat.le_refl _)
       by_cases hlt : k < l.length
       · obtain ⟨b, off, cap', hv, c0⟩ := jAt (hs.fr (hF2.trans hfw)) k hlt
         have HS := hid (efHigh_cons n was l k hlt)
         rw [HPn.out] at HS
         have HXb := HX.out _ (List.getElem_mem hlt)
         have HCell : Hid (∀ W, See W eJ (.slice a l.length cap) l → ∃ b' off' cap', Value.slice a l.length cap = .slice (some ⟨b', off', none⟩) l.length cap' ∧ W.cell? ⟨b', off' + k, none⟩ = some (N l[k])) := fun W h => jAt h k hlt
         have hRR : was ≤ l[k] / p ∧ ∃ lo, risesGo bound lo (l.drop (k + 1)) = true ∧ l[k] / p ≤ lo / p := by
          obtain ⟨lo, h1, h2⟩ := HR.out
          rw [rises_cons bound lo l k hlt] at h1
          simp only [Bool.and_eq_true, decide_eq_true_eq] at h1
          exact ⟨Nat.le_trans h2 (Nat.div_le_div_right h1.1.1), l[k] + 1, h1.2, Nat.div_le_div_right (by omega)⟩
         obtain ⟨hwx, hR2⟩ := hRR
         have HR2 := hid hR2
         clear hR2 HR
         have HI2 : Hid (efLow n l ++ efHigh n 0 l = (m ++ unaryL (l[k] / p - was)) ++ efHigh n (l[k] / p) (l.drop (k + 1))) := by
          show _ = _; rw [HI.out, HS.out]; simp
         clear HI HS
         generalize l[k] = x at *
         cases hv
         have hyx : x / p ≤ x := Nat.div_le_self _ _
         have hul := unaryL_len (x / p - was)
         have HUn := hid (Run_any (x / p - was) (by omega) (w2.heap.size + 1) w2.heap.size _ bv m wr2 hW (by omega) (by have := hst.1.size; omega))
         have i1 : (0 : Int) ≤ k := by omega
         have i2 : (k : Int) < l.length := by omega
         have hp0 : ((p : Int) == 0) = false := by simp; omega
         have hp1 : p ≠ 0 := by omega
         have hdiv : (x : Int) / p = ((x / p : Nat) : Int) := (Int.natCast_ediv _ _).symm
         generalize x / p = y at *
         have hsub : (y : Int) - was = ((y - was : Nat) : Int) := by omega
         have hml2 : (m ++ unaryL (y - was)).length ≤ 1280000 + y + (k + 1) := by rw [List.length_append, hul]; omega
         have HM2 := hid hml2
         clear hml2 hul
         generalize y - was = d at *
         go_wp2_with fail
         refine HUn.out.mono ?_
         rintro e w4 ⟨rfl, bv', hW', hst'⟩
         have hfw4 : Fr w2 w4 := wst_fr (WSt.fr hA (hst.trans hst')) (Nat.le_refl _)
         obtain ⟨b4, off4, cap4, hv4, d0⟩ := HCell.out w4 (hs.fr (hF2.trans hfw4))
         cases hv4
         go_wp2_with fail
         exact ⟨⟨k + 1, y, bv', m ++ unaryL d, by omega, by go_num, rfl, by omega, HM2.out, hW', hst.trans hst', HI2.out, HR2.out⟩, by simp [intOf]; omega⟩
       · obtain rfl : k = l.length := by omega
         have hnl : ¬ ((l.length : Int) < l.length) := by omega
         have HE : Hid (efL bound l = nb ++ packW m) := by
          have := HI.out
          rw [List.drop_length, efHigh, List.append_nil] at this
          show _ = _; rw [HEf.out, this]
         clear HI HR HEf
         have HBy := hid (fun W (h : WrR W (w2.heap.size + 1) w2.heap.size 169 bv m) => Rbytes_any (w2.heap.size + 1) w2.heap.size 169 bv m W h (by omega))
         have hpl := packW_len m
         generalize packW m = pk at *
         go_wp2_with fail
         refine (HBy.out _ hW).mono ?_
         rintro e w5 ⟨v5, rfl, hown5, hf5⟩
         have hout5 := (hown2.rebase hf1.size).fr (hfw.trans hf5)
         have hF5 := (hF2.trans hfw).trans hf5
         go_wp2_with (at_builtin; refine wpList_app eB rfl (.tmp 78) (.tmp 79) 31 rfl Tryz.underlying31 w.heap.size rfl hout5 _ _ rfl hown5.see (by omega) hF5.size ?_)
         intro v6 w6 hap
         go_wp2_with fail
         go_ret2
         exact ⟨_, rfl, by rw [HE.out]; exact hap.own, hap.below hout5 hF5 (Nat.le_refl _) hF5.size⟩
set_option maxRecDepth 512
def eU : Elt Tryz.prog Nat := ⟨151, 1, 2, 0, .int .u16 0, fun n => [.int .u16 (n : Int)], by kernel_rfl, by decide, by decide, by simp [Value.cells], fun _ => rfl, by intro x u hu; simp at hu; subst hu; rfl⟩
structure PartsAt (w : World) (base g n : Nat) (hv lv : Value) (hs ls : List Nat) : Prop where
 at0 : w.heap[g]? = some (.cells #[N n, hv, lv] 145 (0, 0))
 hi : Ow w base eJ hv hs
 lo : Ow w base eU lv ls
 lt : g < base
set_option maxRecDepth 100000
theorem padd_any (x n : Nat) (hx : x ≤ 20000) (hn : n ≤ 14) (base g : Nat) (hv lv : Value) (hs ls : List Nat) (w : World) (h : PartsAt w base g n hv lv hs ls) (hl : hs.length ≤ 20000) (hl2 : ls.length ≤ 20000) (hsz : base ≤ w.heap.size) :
  Calls Tryz.prog 104 #[.pointer (some ⟨g, 0, none⟩), N x] w fun e w' => e = .returned (.tuple #[]) ∧ ∃ hv' lv', PartsAt w' base g n hv' lv' (hs ++ [x / 2 ^ n]) (ls ++ [x % 2 ^ n]) ∧ Chg (fun k => k = g ∨ hv.ownBlock = some k ∨ lv.ownBlock = some k) w w' := by
 obtain ⟨h0, hhi, hlo, hgb⟩ := h
 have hne := own_ne hhi hlo (by decide)
 have e0 : w.cell? ⟨g, 0, none⟩ = some (N n) := by rw [cell_of_heap h0]; rfl
 have e1 : w.cell? ⟨g, 1, none⟩ = some hv := by rw [cell_of_heap h0]; rfl
 have e2 : w.cell? ⟨g, 2, none⟩ = some lv := by rw [cell_of_heap h0]; rfl
 have hdn : (x : Int) / 2 ^ n = ((x / 2 ^ n : Nat) : Int) := by simp
 have hyx : x / 2 ^ n ≤ x := Nat.div_le_self _ _
 have HC1 : Hid (hs.length + [x / 2 ^ n].length ≤ 2147483648) := by show _ ≤ _; simp; omega
 have HM : Hid (x % 2 ^ n = x % 2 ^ n) := rfl
 generalize hz : x % 2 ^ n = z at *
 have HZ := hid hz
 clear hz
 generalize hy : x / 2 ^ n = y at *
 have HY := hid hy
 clear hy
 have hn0 : (0 : Int) ≤ n := by omega
 have hn1 : ¬ (n : Int) < 0 := by omega
 have HSZ : Hid (base ≤ w.drew.heap.size) := hsz
 have hD := hhi.drew
 have hfa : Fr w (w.alloc (.cells #[.int .i64 (y : Int)] 3)) := (Fr.refl w).alloc _
 have e0a := hfa.cell e0
 have e1a := hfa.cell e1
 clear hfa
 have hnn : ∀ k, hv.ownBlock = some k → base ≤ k := fun k hk => (hhi.lt k hk).1
 clear hhi
 go_enter Tryz.func104, Tryz.ntmps104
 go_upto_region 0 with fail
 go_cut [] from 4 to 18 (fun wx => ∃ hv', wx.heap[g]? = some (.cells #[N n, hv', lv] 145 (0, 0)) ∧ Ow wx base eJ hv' (hs ++ [y]) ∧ Chg (fun k => k = g ∨ hv.ownBlock = some k) w wx ∧ (∀ b, hv'.ownBlock = some b → hv.ownBlock = some b ∨ w.heap.size ≤ b))
 case first =>
  go_region_law (refine step_app1d eJ rfl (.tmp 8) (.tmp 15) 54 rfl Tryz.underlying54 base rfl hD [y] _ _ _ rfl rfl rfl HC1.out HSZ.out ?_
                 intro v' w4 hap
                 have own4 := hap.own
                 have HA4 := hid hap.chg'
                 have HS4 := hid hap.size
                 have HN4 := hid hap.fresh
                 obtain ⟨va, vc, hv'⟩ := own4.shape'
                 have k0 := hap.chg'.heap (show w.drew.heap[g]? = _ from h0) (fun e => by have := hnn g e; omega)
                 have e3 : w4.cell? ⟨g, 1, none⟩ = some hv := by rw [cell_of_heap k0]; rfl
                 have e4 : w4.frozen? ⟨g, 1, none⟩ = false := frozen_of_heap k0 1
                 clear hap
                 subst hv')
  all_goals go_wp2_with fail
  all_goals go_meet
  all_goals refine ⟨.slice va (hs.length + 1) vc, ?_, own_set_other (by simpa using own4) hgb, (HA4.out.mono (fun k _ h => Or.inr h)).trans (setCell_chg w4 ⟨g, 1, none⟩ _) (fun k _ h => Or.inl h), fun b hb => HN4.out b (by simpa using hb)⟩
  all_goals (have hk := heap_setCell_own k0 1 (.slice va (hs.length + 1) vc); simpa using hk)
 case rest =>
  obtain ⟨hv1, h1, hhi1, hc1, hf1⟩ := hcut
  have hlo1 : Ow wc base eU lv ls := hlo.chg hc1 fun q hq e => by
   rcases e with e | e
   · have := (hlo.lt q hq).1; omega
   · rcases hne with h | h
     · rw [h] at e; cases e
     · exact h (e.trans hq.symm)
  have c0 : wc.cell? ⟨g, 0, none⟩ = some (N n) := by rw [cell_of_heap h1]; rfl
  have c2 : wc.cell? ⟨g, 2, none⟩ = some lv := by rw [cell_of_heap h1]; rfl
  clear e0 e1 e2 e0a e1a hlo
  have HC2 : Hid (ls.length + [z].length ≤ 2147483648) := by show _ ≤ _; simp; omega
  have HSZ2 : Hid (base ≤ wc.drew.heap.size) := Nat.le_trans hsz hc1.size
  have hD2 := hlo1.drew
  have hp : (2 : Nat) ^ n ≤ 16384 := Nat.pow_le_pow_right (by omega) hn
  have hp1 := Nat.two_pow_pos n
  have hpi : (2 : Int) ^ n = ((2 ^ n : Nat) : Int) := by simp
  have w1 : IntKind.i64.wrap ((2 : Int) ^ n) = ((2 ^ n : Nat) : Int) := by rw [hpi]; exact IntWalk.i64_in _ (by omega)
  have w2 : IntKind.i64.wrap (((2 ^ n : Nat) : Int) - 1) = ((2 ^ n - 1 : Nat) : Int) := by rw [IntWalk.i64_in _ (by omega)]; omega
  have w3 : bits .and .i64 (x : Int) ((2 ^ n - 1 : Nat) : Int) = (z : Int) := by
   rw [and_i64 _ _ (by omega) (by omega), Nat.and_two_pow_sub_one_eq_mod, HZ.out]
  have w4 : IntKind.u16.wrap (z : Int) = (z : Int) := by
   have hz : z < 2 ^ n := by rw [← HZ.out]; exact Nat.mod_lt _ hp1
   simp only [IntKind.wrap, IntKind.bits, IntKind.signed]
   simp
   omega
  have hfa : Fr wc (wc.alloc (.cells #[.int .u16 (z : Int)] 151)) := (Fr.refl wc).alloc _
  have c0a := hfa.cell c0
  have c2a := hfa.cell c2
  clear hfa
  have HPI := hid hpi
  clear hpi hp
  generalize 2 ^ n - 1 = pm at *
  generalize hpn : 2 ^ n = pn at *
  have HPN := hid hpn
  clear hpn
  have hll : ∀ k, lv.ownBlock = some k → base ≤ k := fun k hk => (hlo1.lt k hk).1
  have HLO := hid hlo1
  have HHI := hid hhi1
  clear hlo1 hhi1
  go_upto_region 1 with fail
  go_region_law (refine step_app1d eU rfl (.tmp 23) (.tmp 33) 143 rfl Tryz.underlying143 base rfl hD2 [z] _ _ _ rfl rfl rfl HC2.out HSZ2.out ?_
                 intro v' w4 hap
                 have own4 := hap.own
                 have HA4 := hid hap.chg'
                 have HI4 := hid (own_app HHI.out HLO.out hap (by decide))
                 obtain ⟨va, vc, hv'⟩ := own4.shape'
                 have k0 := hap.chg'.heap (show wc.drew.heap[g]? = _ from h1) (fun e => by have := hll g e; omega)
                 have e3 : w4.cell? ⟨g, 2, none⟩ = some lv := by rw [cell_of_heap k0]; rfl
                 have e4 : w4.frozen? ⟨g, 2, none⟩ = false := frozen_of_heap k0 2
                 clear hap
                 subst hv')
  all_goals go_wp2_with fail
  all_goals go_end0
  all_goals refine ⟨rfl, ⟨hv1, .slice va (ls.length + 1) vc, ⟨?_, ?_, ?_, hgb⟩⟩, (hc1.mono (fun k _ h => ?_)).trans ((HA4.out.mono (G' := fun k => k = g ∨ lv.ownBlock = some k) (fun k _ h => .inr h)).trans (setCell_chg w4 ⟨g, 2, none⟩ _) (fun k _ h => .inl h)) (fun k _ h => ?_)⟩
  all_goals first
   | (have hk := heap_setCell_own k0 2 (.slice va (ls.length + 1) vc); simpa using hk)
   | exact own_set_other HI4.out hgb
   | (exact own_set_other (by simpa using own4) hgb)
   | exact Or.elim h (fun h => .inl h) (fun h => .inr (.inl h))
   | exact Or.elim h (fun h => .inl h) (fun h => .inr (.inr h))
set_option maxRecDepth 512
theorem all2 (W : World) (v0 v1 : Value) (p0 p1 : List UInt8) (s0 : See W eB v0 p0) (s1 : See W eB v1 p1) (hn : p0.length + p1.length ≤ 1000000) :
  Calls Tryz.prog 35 #[.slice (some ⟨W.heap.size, 0, none⟩) 2 2] (W.alloc (.cells #[v0, v1] 31)) fun e w' => ∃ v, e = .returned v ∧ Ow w' W.heap.size eB v (p0 ++ p1) ∧ Fr W w' := by
 obtain ⟨h0, rfl⟩ := see_hd s0
 obtain ⟨h1, rfl⟩ := see_hd s1
 have hs : Sees2 (W.alloc (.cells #[h0.v, h1.v] 31)) eHB eB (.slice (some ⟨W.heap.size, 0, none⟩) 2 2) [h0, h1] [p0, p1] := by
  refine ⟨see_new eHB W [h0, h1] _ _ 2 rfl rfl (by simp [maxLen]), rfl, fun i a b => ?_⟩
  have hf := (Fr.refl W).alloc (.cells #[h0.v, h1.v] 31)
  have : i = 0 ∨ i = 1 := by simp at a; omega
  rcases this with rfl | rfl
  · exact s0.fr hf
  · exact s1.fr hf
 refine (All_any _ _ _ _ hs (by simp; omega)).mono ?_
 rintro e w' ⟨v, he, ho, hf⟩
 exact ⟨v, he, by simpa using ho.rebase (by simp), ((Fr.refl W).alloc _).trans hf⟩
theorem uAt {w : World} {v : Value} {l : List Nat} (h : See w eU v l) (k : Nat) (hk : k < l.length) :
  ∃ b off cap, v = .slice (some ⟨b, off, none⟩) l.length cap ∧ w.cell? ⟨b, off + k, none⟩ = some (.int .u16 (l[k] : Int)) := by
 obtain ⟨b, off, cap, hv, h3⟩ := h.cell1 (fun n : Nat => Value.int .u16 (n : Int)) rfl k hk
 exact ⟨b, off, cap, hv, h3⟩
set_option maxRecDepth 100000
theorem EfWrite_any (bound : Nat) (hb : bound ≤ 20000) (v : Value) (l : List Nat) (w : World) (hs : See w eJ v l) (hr : risesGo bound 0 l = true)
  (HWd : Hid (∀ q W, 1 ≤ q → q = l.length → Calls Tryz.prog 103 #[N bound, N q] W fun e w' => e = .returned (N (Nat.log2 (bound / q))) ∧ Fr W w')) :
  Calls Tryz.prog 64 #[N bound, v] w fun e w' => ∃ v, e = .returned (.tuple #[v, .int .i64 0]) ∧ Ow w' w.heap.size eB v (efL bound l) ∧ Fr w w' := by
 obtain ⟨a, cap, hv, hcap1, hcap2, hnone⟩ := hs.shape
 subst hv
 unfold maxLen at hcap2
 have hlen := rises_len bound l 0 (Nat.zero_le _) hr
 have HM := hid (rises_any bound _ l w hs)
 rw [hr] at HM
 have HN := hid (fun W => Num_any l.length (by omega) W)
 have hnb := numB_le l.length (by omega)
 have HX := hid (rises_lt bound l 0 hr)
 have HEf : Hid (efL bound l = numB l.length ++ if l = [] then [] else packW (efLow (Nat.log2 (bound / l.length)) l ++ efHigh (Nat.log2 (bound / l.length)) 0 l)) := rfl
 generalize numB l.length = nb at *
 have HRi := hid hr
 clear hr
 have b0 : ¬ (bound : Int) < 0 := by omega
 have b1 : ¬ (20000 : Int) < bound := by omega
 go_enter Tryz.func64, Tryz.ntmps64
 go_wp2_with fail
 refine HM.out.mono ?_
 rintro e w1 ⟨rfl, hf1⟩
 go_wp2_with fail
 refine (HN.out _).mono ?_
 rintro e w2 ⟨v2, rfl, hown2, hf2⟩
 have hF2 := hf1.trans hf2
 by_cases h0 : l = []
 · subst h0
   go_wp2_with fail
   go_ret2
   exact ⟨_, rfl, by rw [HEf.out]; simpa using hown2.rebase hf1.size, hF2⟩
 · have hl0 : 0 < l.length := List.length_pos_iff.2 h0
   have hl0' : ((l.length : Int) == 0) = false := by simp; omega
   have HW := hid (fun W => HWd.out l.length W hl0 rfl)
   clear HWd
   rw [if_neg h0] at HEf
   have hq1 : 1 ≤ bound / l.length := Nat.div_pos (by omega) hl0
   have hq2 : bound / l.length ≤ 20000 := Nat.le_trans (Nat.div_le_self _ _) hb
   generalize hQ : bound / l.length = q at *
   have hn14 : Nat.log2 q ≤ 14 := by
    refine Nat.le_of_lt_succ ((Nat.log2_lt (by omega)).2 ?_)
    omega
   generalize Nat.log2 q = n at *
   clear hQ
   go_wp2_with fail
   refine (HW.out _).mono ?_
   rintro e w3 ⟨rfl, hf3⟩
   have hF3 := hF2.trans hf3
   clear HW
   go_wp2_with fail
   have hll : l.length ≤ 20000 := by omega
   have hA : Fr w3 (w3.alloc (.cells #[N n, Value.slice none 0 0, Value.slice none 0 0] 145)) := (Fr.refl w3).alloc _
   have hB : (w3.alloc (.cells #[N n, Value.slice none 0 0, Value.slice none 0 0] 145)).heap[w3.heap.size]? = some (.cells #[N n, Value.slice none 0 0, Value.slice none 0 0] 145 (0, 0)) := heap_new _ _ _ rfl
   have hsz0 : (w3.alloc (.cells #[N n, Value.slice none 0 0, Value.slice none 0 0] 145)).heap.size = w3.heap.size + 1 := by simp
   generalize w3.alloc (.cells #[N n, Value.slice none 0 0, Value.slice none 0 0] 145) = W0 at *
   have hP0 : PartsAt W0 (w3.heap.size + 1) w3.heap.size n (.slice none 0 0) (.slice none 0 0) [] [] := ⟨hB, Ow.nil, Ow.nil, by omega⟩
   have HSN : Hid (∀ k (h : k < l.length), (l.take (k + 1)).map (fun x => x / 2 ^ n) = (l.take k).map (fun x => x / 2 ^ n) ++ [l[k] / 2 ^ n] ∧ (l.take (k + 1)).map (fun x => x % 2 ^ n) = (l.take k).map (fun x => x % 2 ^ n) ++ [l[k] % 2 ^ n]) := by
    intro k h
    rw [List.take_succ_eq_append_getElem h, List.map_append, List.map_append]; exact ⟨rfl, rfl⟩
   have hLn : ∀ k, ((l.take k).map (fun x => x / 2 ^ n)).length ≤ 20000 ∧ ((l.take k).map (fun x => x % 2 ^ n)).length ≤ 20000 := fun k => by
    simp only [List.length_map, List.length_take]; omega
   have HLn := hid hLn
   clear hB hLn
   go_loopw [43] (fun iv wr => ∃ (k : Nat) (hv lv : Value), k ≤ l.length ∧ iv = N k ∧ PartsAt wr (w3.heap.size + 1) w3.heap.size n hv lv ((l.take k).map (fun x => x / 2 ^ n)) ((l.take k).map (fun x => x % 2 ^ n)) ∧ Fr w3 wr) (fun iv _ => l.length - (intOf iv).toNat)
   case atStart => exact ⟨0, _, _, Nat.zero_le _, rfl, hP0, hA⟩
   case round =>
    clear hP0
    obtain ⟨k, hv, lv, hk, rfl, hP, hfw⟩ := hrel
    have hszr : w3.heap.size + 1 ≤ wr.heap.size := (Array.getElem?_eq_some_iff.1 hP.at0).1
    by_cases hlt : k < l.length
    · obtain ⟨b, off, cap', hv', c0⟩ := jAt (hs.fr (hF3.trans hfw)) k hlt
      have HS := hid (HSN.out k hlt)
      have HXb := HX.out _ (List.getElem_mem hlt)
      have HLk := HLn.out k
      generalize (l.take k).map (fun x => x / 2 ^ n) = hs1 at *
      generalize (l.take k).map (fun x => x % 2 ^ n) = ls1 at *
      generalize l[k] = x at *
      have HAdd := hid (padd_any x n (by omega) hn14 (w3.heap.size + 1) w3.heap.size hv lv hs1 ls1 wr hP HLk.1 HLk.2 hszr)
      have hhi := hid (fun j (e : hv.ownBlock = some j) => (hP.hi.lt j e).1)
      have hlo := hid (fun j (e : lv.ownBlock = some j) => (hP.lo.lt j e).1)
      cases hv'
      have i1 : (0 : Int) ≤ k := by omega
      have i2 : (k : Int) < l.length := by omega
      clear hP HLk
      go_wp2_with fail
      refine HAdd.out.mono ?_
      rintro e w4 ⟨rfl, hv2, lv2, hP2, hc2⟩
      go_wp2_with fail
      go_roundw
      case rel => exact ⟨k + 1, hv2, lv2, by omega, by go_num, by rw [HS.out.1, HS.out.2]; exact hP2, Chg.below hfw hc2 (by omega) (fun j hj => by
       rcases hj with h | h | h
       · omega
       · have := hhi.out j h; omega
       · have := hlo.out j h; omega)⟩
      case measure => simp [intOf]; omega
    · obtain rfl : k = l.length := by omega
      have hnl : ¬ ((l.length : Int) < l.length) := by omega
      rw [List.take_length] at hP
      generalize wr = wm at *
      clear HLn HSN HN HM
      obtain ⟨hPh, hPhi, hPlo, hPlt⟩ := hP
      have p0 : wm.cell? ⟨w3.heap.size, 0, none⟩ = some (N n) := by rw [cell_of_heap hPh]; rfl
      have p1 : wm.cell? ⟨w3.heap.size, 1, none⟩ = some hv := by rw [cell_of_heap hPh]; rfl
      have p2 : wm.cell? ⟨w3.heap.size, 2, none⟩ = some lv := by rw [cell_of_heap hPh]; rfl
      obtain ⟨ha, hc, hhv⟩ := hPhi.shape'
      obtain ⟨la, lc, hlv⟩ := hPlo.shape'
      rw [List.length_map] at hhv hlv
      have hFR := hF3.trans hfw
      have HF23 := hid (hf3.trans hfw)
      clear hfw hA hF3 hF2 hf1 hf2 hf3 hPh
      have hA2 : Fr wm (wm.alloc (.cells #[Value.slice none 0 0, Value.int .i64 0] 150)) := (Fr.refl wm).alloc _
      have hB2 : (wm.alloc (.cells #[Value.slice none 0 0, Value.int .i64 0] 150)).heap[wm.heap.size]? = some (.cells #[Value.slice none 0 0, Value.int .i64 0] 150 (0, 0)) := heap_new _ _ _ rfl
      have hsz2 : (wm.alloc (.cells #[Value.slice none 0 0, Value.int .i64 0] 150)).heap.size = wm.heap.size + 1 := by simp
      have P0 := hA2.cell p0
      have P1 := hA2.cell p1
      have P2 := hA2.cell p2
      subst hhv hlv
      go_wp2_with fail
      have hln : ∀ k, (efLow n (l.take k)).length ≤ 280000 := fun k => by
       rw [efLow_len, List.length_take]
       exact Nat.le_trans (Nat.mul_le_mul (Nat.le_trans (Nat.min_le_right _ _) hll) hn14) (by omega)
      have HLL := hid hln
      clear hln
      generalize wm.alloc (.cells #[Value.slice none 0 0, Value.int .i64 0] 150) = W2 at *
      have hWr0 : WrB W2 (wm.heap.size + 1) wm.heap.size 150 [] (.slice none 0 0) [] := ⟨hB2, Ow.nil, by omega, fun c hc => by cases hc⟩
      have HLO := hid hPlo
      have HHI := hid hPhi
      clear hPlo hPhi hB2
      go_loopw [53] (fun iv wr2 => ∃ (k : Nat) (bv : Value), k ≤ l.length ∧ iv = N k ∧ WrB wr2 (wm.heap.size + 1) wm.heap.size 150 [] bv (efLow n (l.take k)) ∧ WSt wm.heap.size (.slice none 0 0) bv W2 wr2) (fun iv _ => l.length - (intOf iv).toNat)
      case atStart => exact ⟨0, _, Nat.zero_le _, rfl, hWr0, WSt.refl _ _ _⟩
      case round =>
       clear hWr0
       obtain ⟨k, bv, hk, rfl, hWB, hst⟩ := hrel
       have hfw : Fr wm wr := wst_fr (WSt.fr hA2 hst) (Nat.le_refl _)
       have hszw : wm.heap.size + 1 ≤ wr.heap.size := by have := hst.1.size; omega
       by_cases hlt : k < l.length
       · obtain ⟨b, off, cap', hv', c0⟩ := uAt ((HLO.out.fr hfw).see) k (by rw [List.length_map]; exact hlt)
         rw [List.length_map] at hv'
         have HS := hid (efLow_snoc n l k hlt)
         rw [List.getElem_map] at c0
         have hxp : l[k] % 2 ^ n < 2 ^ n := Nat.mod_lt _ (Nat.two_pow_pos n)
         have hxb : l[k] % 2 ^ n < 18446744073709551616 := Nat.lt_of_lt_of_le hxp (Nat.le_trans (Nat.pow_le_pow_right (by omega) hn14) (by omega))
         have HL0 := HLL.out k
         generalize l[k] % 2 ^ n = y at *
         generalize efLow n (l.take k) = m at *
         have HPut := hid (bput_any y n (by omega) hxp (wm.heap.size + 1) wm.heap.size _ [] bv m wr hWB (by omega) hszw)
         have q0 := hfw.cell p0
         have HXP := hid hxp
         clear hxp hWB
         have w1 : IntKind.u64.wrap (y : Int) = (y : Int) := IntWalk.u64_in _ (by omega)
         have HXB := hid hxb
         clear hxb
         cases hv'
         have i1 : (0 : Int) ≤ k := by omega
         have i2 : (k : Int) < l.length := by omega
         go_wp2_with fail
         refine HPut.out.mono ?_
         rintro e w4 ⟨rfl, bv', hW', hst'⟩
         go_wp2_with fail
         go_roundw
         case rel => exact ⟨k + 1, bv', by omega, by go_num, by rw [HS.out]; exact hW', hst.trans hst'⟩
         case measure => simp [intOf]; omega
       · obtain rfl : k = l.length := by omega
         have hnl2 : ¬ ((l.length : Int) < l.length) := by omega
         rw [List.take_length] at hWB
         have q1 := hfw.cell p1
         have HLen : Hid ((efLow n l).length ≤ 280000) := by have := HLL.out l.length; rw [List.take_length] at this; exact this
         clear HLL
         go_wp2_with fail
         go_loopw [13, 66] (fun tv iv wr2 => ∃ (k was : Nat) (bv : Value) (m : List UInt8), k ≤ l.length ∧ iv = N k ∧ tv = N was ∧ was ≤ 20000 ∧ m.length ≤ 280000 + was + k ∧ WrB wr2 (wm.heap.size + 1) wm.heap.size 150 [] bv m ∧ WSt wm.heap.size (.slice none 0 0) bv W2 wr2 ∧ Hid (efLow n l ++ efHigh n 0 l = m ++ efHigh n was (l.drop k)) ∧ Hid (∃ lo, risesGo bound lo (l.drop k) = true ∧ was ≤ lo / 2 ^ n)) (fun _ iv _ => l.length - (intOf iv).toNat)
         case atStart => exact ⟨0, 0, bv, efLow n l, Nat.zero_le _, rfl, rfl, by omega, by have := HLen.out; omega, hWB, hst, rfl, 0, HRi.out, Nat.zero_le _⟩
         case round =>
          clear hWB hst
          clear hfw hszw
          obtain ⟨k, was, bv, m, hk, rfl, rfl, hws, hml, hW, hst, HI, HR⟩ := hrel
          have hfw : Fr wm wr := wst_fr (WSt.fr hA2 hst) (Nat.le_refl _)
          have hszw : wm.heap.size + 1 ≤ wr.heap.size := by have := hst.1.size; omega
          by_cases hlt : k < l.length
          · obtain ⟨b, off, cap', hv', c0⟩ := jAt ((HHI.out.fr hfw).see) k (by rw [List.length_map]; exact hlt)
            rw [List.length_map] at hv'
            rw [List.getElem_map] at c0
            have HS := hid (efHigh_cons n was l k hlt)
            have HXb := HX.out _ (List.getElem_mem hlt)
            have hRR : was ≤ l[k] / 2 ^ n ∧ ∃ lo, risesGo bound lo (l.drop (k + 1)) = true ∧ l[k] / 2 ^ n ≤ lo / 2 ^ n := by
             obtain ⟨lo, h1, h2⟩ := HR.out
             rw [rises_cons bound lo l k hlt] at h1
             simp only [Bool.and_eq_true, decide_eq_true_eq] at h1
             exact ⟨Nat.le_trans h2 (Nat.div_le_div_right h1.1.1), l[k] + 1, h1.2, Nat.div_le_div_right (by omega)⟩
            obtain ⟨hwx, hR2⟩ := hRR
            have HR2 := hid hR2
            clear hR2 HR
            have HI2 : Hid (efLow n l ++ efHigh n 0 l = (m ++ unaryL (l[k] / 2 ^ n - was)) ++ efHigh n (l[k] / 2 ^ n) (l.drop (k + 1))) := by
             show _ = _; rw [HI.out, HS.out]; simp
            clear HI HS
            generalize l[k] = x at *
            have hyx : x / 2 ^ n ≤ x := Nat.div_le_self _ _
            generalize x / 2 ^ n = y at *
            have hul := unaryL_len (y - was)
            have HUn := hid (bun_any (y - was) (by omega) (wm.heap.size + 1) wm.heap.size _ [] bv m wr hW (by omega) hszw)
            cases hv'
            have i1 : (0 : Int) ≤ k := by omega
            have i2 : (k : Int) < l.length := by omega
            have hsub : (y : Int) - was = ((y - was : Nat) : Int) := by omega
            have hml2 : (m ++ unaryL (y - was)).length ≤ 280000 + y + (k + 1) := by rw [List.length_append, hul]; omega
            have HM2 := hid hml2
            clear hml2 hul hW
            generalize y - was = d at *
            go_wp2_with fail
            refine HUn.out.mono ?_
            rintro e w4 ⟨rfl, bv', hW', hst'⟩
            go_wp2_with fail
            go_roundw
            case rel => exact ⟨k + 1, y, bv', m ++ unaryL d, by omega, by go_num, rfl, by omega, HM2.out, hW', hst.trans hst', HI2.out, HR2.out⟩
            case measure => simp [intOf]; omega
          · obtain rfl : k = l.length := by omega
            have hnl2 : ¬ ((l.length : Int) < l.length) := by omega
            have HE : Hid (efL bound l = nb ++ packW m) := by
             have := HI.out
             rw [List.drop_length, efHigh, List.append_nil] at this
             show _ = _; rw [HEf.out, this]
            clear HI HR HEf
            have HBy := hid (fun W (h : WrB W (wm.heap.size + 1) wm.heap.size 150 [] bv m) => bbytes_any (wm.heap.size + 1) wm.heap.size 150 [] bv m W h (by omega))
            have hpl := packW_len m
            have hpl2 : (packW m).length ≤ 100000 := by omega
            clear hpl
            generalize packW m = pk at *
            have HAll := hid (fun W v0 v1 p0 p1 s0 s1 hn => all2 W v0 v1 p0 p1 s0 s1 hn)
            go_wp2_with fail
            refine (HBy.out _ hW).mono ?_
            rintro e w5 ⟨v5, rfl, hown5, hf5⟩
            have hF5 := hFR.trans (hfw.trans hf5)
            have hs2 : See w5 eB v2 nb := (hown2.fr (HF23.out.trans (hfw.trans hf5))).see
            have HA := hid (HAll.out w5 v2 v5 nb pk hs2 hown5.see (by omega))
            obtain ⟨x2, c2, hv2⟩ := hown2.shape'
            obtain ⟨x5, c5, hv5⟩ := hown5.shape'
            subst hv2 hv5
            go_wp2_with fail
            refine HA.out.mono ?_
            rintro e w6 ⟨v6, rfl, hown6, hf6⟩
            go_wp2_with fail
            go_ret2
            exact ⟨_, rfl, by rw [HE.out]; exact hown6.rebase hF5.size, hF5.trans hf6⟩
set_option maxRecDepth 512
def eIt : Elt Tryz.prog It := ⟨257, 2, 16, ⟨0, false, []⟩, .agg #[.int .u64 0, .bool false], fun x => [.int .u64 (x.w.toNat : Int), .bool x.leaf], by kernel_rfl, by decide, by decide, by simp [Value.cells], fun _ => rfl, by intro x u hu; simp at hu; rcases hu with rfl | rfl <;> rfl⟩
def leavesL (often syms : List Nat) : List It := syms.map fun s => ⟨UInt64.ofNat (often.getD s 0), true, [s]⟩
theorem leavesL_len (often syms : List Nat) : (leavesL often syms).length = syms.length := by simp [leavesL]
theorem leavesL_leaf (often syms : List Nat) : ∀ x ∈ leavesL often syms, x.leaf = true := by
 intro x hx
 obtain ⟨s, _, rfl⟩ := List.mem_map.1 hx
 rfl
theorem leavesL_at (often syms : List Nat) (k : Nat) (h : k < syms.length) : (leavesL often syms)[k]? = some ⟨UInt64.ofNat (often.getD syms[k] 0), true, [syms[k]]⟩ := by simp [leavesL, h]
set_option maxRecDepth 100000
theorem leaves_any (va vb : Value) (often syms : List Nat) (w : World) (ha : See w eV va often) (hb : See w eJ vb syms) (hn : syms.length ≤ 1000000) (hs : ∀ s ∈ syms, s < often.length) (h32 : ∀ x ∈ often, x < 4294967296) :
  Calls Tryz.prog 193 #[va, vb] w fun e w' => ∃ v, e = .returned v ∧ Ow w' w.heap.size eIt v (leavesL often syms) ∧ Fr w w' := by
 obtain ⟨a, cap, hv, hcap1, hcap2, hnone⟩ := ha.shape
 subst hv
 obtain ⟨a', cap', hv, hcap1', hcap2', hnone'⟩ := hb.shape
 subst hv
 unfold maxLen at hcap2 hcap2'
 have hmk := made_runE eIt 252 Tryz.underlying252 .i64 .i64 syms.length (by omega)
 have HOw := hid (made_ownE (base := w.heap.size) eIt syms.length (by omega) w (Nat.le_refl _))
 have HF0 := hid ((Fr.refl w).alloc (.cells (madeCells eIt.z.cells (syms.length * eIt.k)) eIt.e))
 have HLe := hid (leavesL_len often syms)
 have HAt := hid (leavesL_at often syms)
 generalize hR : leavesL often syms = R at *
 clear hR
 generalize hT : madeCells eIt.z.cells (syms.length * eIt.k) = T0 at *
 clear hT
 go_enter Tryz.func193, Tryz.ntmps193
 go_wp2_with fail
 rw [show (eIt : Elt Tryz.prog It).e = 257 from rfl] at *
 have hF0 := HF0.out
 have hsz : (w.alloc (.cells T0 257)).heap.size = w.heap.size + 1 := by simp
 have hO0 := HOw.out
 clear HF0 HOw
 generalize w.alloc (.cells T0 257) = W0 at *
 have HSZ := hid hsz
 clear hsz
 go_loopw [13] (fun iv wr => ∃ k : Nat, k ≤ syms.length ∧ iv = N k ∧ Ow wr w.heap.size eIt (.slice (some ⟨w.heap.size, 0, none⟩) syms.length syms.length) (R.take k ++ List.replicate (syms.length - k) (⟨0, false, []⟩ : It)) ∧ Fr w wr) (fun iv _ => syms.length - (intOf iv).toNat)
 case atStart => exact ⟨0, Nat.zero_le _, rfl, by simp only [List.take_zero, List.nil_append, Nat.sub_zero]; exact hO0, hF0⟩
 case round =>
  clear hO0 hF0
  obtain ⟨k, hk, rfl, hO, hf⟩ := hrel
  by_cases hlt : k < syms.length
  · obtain ⟨b, off, cp, hv, c1⟩ := jAt (hb.fr hf) k hlt
    have HA := HAt.out k hlt
    have hso := hs _ (List.getElem_mem hlt)
    generalize hsy : syms[k] = s at *
    obtain ⟨b2, off2, cp2, hv2, c2⟩ := vAt (ha.fr hf) s hso
    have e2 : often.getD s 0 = often[s] := by rw [List.getD_eq_getElem?_getD, List.getElem?_eq_getElem hso]; rfl
    have h32' := h32 _ (List.getElem_mem hso)
    rw [e2] at HA
    generalize often[s] = x at *
    cases hv
    cases hv2
    have hlen : (R.take k ++ List.replicate (syms.length - k) (⟨0, false, []⟩ : It)).length = syms.length := fill_len R _ _ _ HLe.out hk
    have hx64 : ((UInt64.ofNat x).toNat : Int) = x := by rw [UInt64.toNat_ofNat']; omega
    have HSet := hid (hO.set2 (fun y => ⟨_, _, rfl⟩) k (by rw [hlen]; exact hlt) (⟨UInt64.ofNat x, true, [s]⟩ : It) (.int .u64 (x : Int)) (.bool true) (by show [Value.int .u64 ((UInt64.ofNat x).toNat : Int), Value.bool true] = _; rw [hx64]))
    have HFil := hid (fill_set R (⟨0, false, []⟩ : It) syms.length k HLe.out hlt ⟨UInt64.ofNat x, true, [s]⟩ (by rw [List.getElem?_eq_getElem (by rw [HLe.out]; exact hlt)] at HA; exact Option.some.inj HA))
    obtain ⟨u0, v0, d1, d2, d3⟩ : ∃ u v, wr.cell? ⟨w.heap.size, k * 2, none⟩ = some u ∧ wr.cell? ⟨w.heap.size, k * 2 + 1, none⟩ = some v ∧ (∀ j, wr.frozen? ⟨w.heap.size, j, none⟩ = false) := ⟨_, _, hO.cell2 k (by rw [hlen]; exact hlt) _ _ rfl⟩
    have d4 := d3 (k * 2)
    have d5 := d3 (k * 2 + 1)
    clear d3
    have i1 : (0 : Int) ≤ k := by omega
    have i2 : (k : Int) < syms.length := by omega
    have i3 : (0 : Int) ≤ s := by omega
    have i4 : (s : Int) < often.length := by omega
    have HBe := hid hsy
    have hxw : IntKind.u64.wrap (x : Int) = (x : Int) := IntWalk.u64_in _ (by omega)
    clear hsy HA hs h32 h32' hx64
    go_wp2_with fail
    go_roundw
    case rel => exact ⟨k + 1, by omega, by go_num, by rw [← HFil.out]; exact HSet.out, set_below (set_below hf (Nat.le_refl _) hf.size) (Nat.le_refl _) (by simpa [World.setCell] using hf.size)⟩
    case measure => simp [intOf]; omega
  · obtain rfl : k = syms.length := by omega
    have hnl : ¬ ((syms.length : Int) < syms.length) := by omega
    have e : R.take syms.length ++ List.replicate (syms.length - syms.length) (⟨0, false, []⟩ : It) = R := by rw [Nat.sub_self, List.replicate_zero, List.append_nil, ← HLe.out, List.take_length]
    rw [e] at hO
    go_wp2_with fail
    go_ret
    exact ⟨_, rfl, hO, hf⟩
set_option maxRecDepth 512
theorem itAt {w : World} {v : Value} {l : List It} (h : See w eIt v l) (k : Nat) (hk : k < l.length) :
  ∃ b off cap, v = .slice (some ⟨b, off, none⟩) l.length cap ∧ w.cell? ⟨b, off + k * 2, none⟩ = some (.int .u64 (l[k].w.toNat : Int)) ∧ w.cell? ⟨b, off + k * 2 + 1, none⟩ = some (.bool l[k].leaf) := by
 obtain ⟨b, off, cap, rfl, h1, h2, h3⟩ := h.cells (by intro e; simp [e] at hk)
 have e0 := h3 k hk 0 (by decide) _ rfl
 have e1 := h3 k hk 1 (by decide) _ rfl
 exact ⟨b, off, cap, rfl, by simpa [eIt] using e0, by simpa [eIt, Nat.add_assoc] using e1⟩
theorem drop_pairs (row : List It) (k : Nat) (h : k + 1 < row.length) : pairsI (row.drop k) = ⟨row[k].w + row[k + 1].w, false, row[k].syms ++ row[k + 1].syms⟩ :: pairsI (row.drop (k + 2)) := by
 rw [List.drop_eq_getElem_cons (by omega), List.drop_eq_getElem_cons h, pairsI]
theorem drop_pairs_end (row : List It) (k : Nat) (h : row.length ≤ k + 1) : pairsI (row.drop k) = [] := by
 have hl : (row.drop k).length ≤ 1 := by rw [List.length_drop]; omega
 generalize row.drop k = r at *
 match r, hl with
 | [], _ => rfl
 | [_], _ => rfl
theorem u64_le (a b : UInt64) : (a ≤ b) ↔ ((a.toNat : Int) ≤ b.toNat) := by rw [UInt64.le_iff_toNat_le]; omega
theorem u64_add (a b : UInt64) : IntKind.u64.wrap ((a.toNat : Int) + b.toNat) = ((a + b).toNat : Int) := by
 rw [IntKind.wrap_u64, UInt64.toNat_add]; omega
set_option maxRecDepth 100000
theorem next_any (va vb : Value) (leaf row : List It) (w : World) (ha : See w eIt va leaf) (hb : See w eIt vb row) (hn : leaf.length ≤ 1000000) (hm : row.length ≤ 2000000) :
  Calls Tryz.prog 194 #[va, vb] w fun e w' => ∃ v, e = .returned v ∧ Ow w' w.heap.size eIt v (mergeI leaf (pairsI row)) ∧ Fr w w' := by
 obtain ⟨a, cap, hv, hcap1, hcap2, hnone⟩ := ha.shape
 subst hv
 obtain ⟨a', cap', hv, hcap1', hcap2', hnone'⟩ := hb.shape
 subst hv
 unfold maxLen at hcap2 hcap2'
 have hml := mergeI_len leaf (pairsI row)
 rw [pairsI_len] at hml
 have hcd : (row.length : Int).tdiv 2 = ((row.length / 2 : Nat) : Int) := by rw [Int.tdiv_eq_ediv_of_nonneg (by omega)]; omega
 have hcd2 : (row.length : Int) / 2 = ((row.length / 2 : Nat) : Int) := by omega
 have hsum : IntKind.i64.wrap ((leaf.length : Int) + ((row.length / 2 : Nat) : Int)) = ((leaf.length + row.length / 2 : Nat) : Int) := by rw [IntWalk.i64_in _ (by omega)]; omega
 have hc3 : leaf.length + row.length / 2 ≤ 1000000000 := by omega
 have HE0 : Hid (mergeI leaf (pairsI row) = [] ++ mergeI (leaf.drop 0) (pairsI (row.drop 0))) := by show _ = _; simp
 have HML := hid hml
 clear hml
 generalize mergeI leaf (pairsI row) = R at *
 generalize hcq : leaf.length + row.length / 2 = C at *
 have HC := hid hcq
 clear hcq
 generalize row.length / 2 = rh at *
 go_enter Tryz.func194, Tryz.ntmps194
 go_wp2_with (refine wpList_make0 eIt rfl (.const (.int .i64 0)) (.tmp 14) 252 rfl Tryz.underlying252 .i64 .i64 (C : Int) C rfl ?c1 rfl hc3 w.heap.size (Nat.le_refl _) ?_)
 case c1 => first | rfl | trivial
 intro w1 hO1 hg1
 have hf1 : Fr w w1 := Fr.own (Fr.refl w) hg1 (fun k hk => by cases hk)
 go_wp2_with fail
 clear hg1
 go_loopw [5, 6, 7] (fun ov iv kv wr => ∃ (i k : Nat) (m : List It), i ≤ leaf.length ∧ k ≤ row.length ∧ iv = N i ∧ kv = N k ∧ m.length ≤ i + k ∧ Ow wr w.heap.size eIt ov m ∧ Hid (R = m ++ mergeI (leaf.drop i) (pairsI (row.drop k))) ∧ Fr w wr) (fun _ iv kv _ => leaf.length - (intOf iv).toNat + (row.length - (intOf kv).toNat))
 case atStart => exact ⟨0, 0, [], Nat.zero_le _, Nat.zero_le _, rfl, rfl, by simp, hO1, HE0, hf1⟩
 case round =>
  clear hO1 hf1
  obtain ⟨i, k, m, hi, hk, rfl, rfl, hml, hO, HE, hf⟩ := hrel
  have hwk : IntKind.i64.wrap ((k : Int) + 1) = ((k + 1 : Nat) : Int) := by rw [IntWalk.i64_in _ (by omega)]; omega
  by_cases hi1 : i < leaf.length
  · have hi1' : (i : Int) < leaf.length := by omega
    obtain ⟨b, off, cp, hv, c0, c1⟩ := itAt (ha.fr hf) i hi1
    have HL := hid (List.drop_eq_getElem_cons hi1)
    have HC1 : Hid (eIt.cells [leaf[i]] = [.int .u64 (leaf[i].w.toNat : Int), .bool leaf[i].leaf]) := rfl
    generalize leaf[i] = x at *
    have hxb := UInt64.toNat_lt x.w
    cases hv
    have j1 : (0 : Int) ≤ i := by omega
    by_cases hk1 : k + 1 < row.length
    · have hk1' : ((k + 1 : Nat) : Int) < row.length := by omega
      obtain ⟨b2, off2, cp2, hv2, d0, d1⟩ := itAt (hb.fr hf) k (by omega)
      obtain ⟨b3, off3, cp3, hv3, e0, e1⟩ := itAt (hb.fr hf) (k + 1) hk1
      rw [hv2] at hv3
      cases hv3
      have HP := hid (drop_pairs row k hk1)
      generalize row[k] = p at *
      generalize row[k + 1] = q at *
      cases hv2
      have hsm := u64_add p.w q.w
      have HU := hid (u64_le x.w (p.w + q.w))
      generalize hy : (⟨p.w + q.w, false, p.syms ++ q.syms⟩ : It) = y at *
      have HY1 : Hid (eIt.cells [y] = [.int .u64 ((p.w + q.w).toNat : Int), .bool false]) := by subst hy; rfl
      have HYw : Hid (y.w = p.w + q.w) := by subst hy; rfl
      have hsb := UInt64.toNat_lt (p.w + q.w)
      have hpb := UInt64.toNat_lt p.w
      have hqb := UInt64.toNat_lt q.w
      clear hy
      generalize (p.w + q.w).toNat = s at *
      generalize p.w.toNat = pw at *
      generalize q.w.toNat = qw at *
      have j2 : (0 : Int) ≤ k := by omega
      have j3 : (k : Int) < row.length := by omega
      have j4 : (0 : Int) ≤ ((k + 1 : Nat) : Int) := by omega
      have hk1n : ¬ (row.length : Int) ≤ ((k + 1 : Nat) : Int) := by omega
      have hlk : k + 2 ≤ row.length := by omega
      have hwk2 : IntKind.i64.wrap ((k : Int) + 2) = ((k + 2 : Nat) : Int) := by rw [IntWalk.i64_in _ (by omega)]; omega
      have hO' := hO
      by_cases hle : x.w ≤ p.w + q.w
      · have hle' : (x.w.toNat : Int) ≤ s := HU.out.1 hle
        have HE2 : Hid (R = (m ++ [x]) ++ mergeI (leaf.drop (i + 1)) (pairsI (row.drop k))) := by
         show _ = _; rw [HE.out, HP.out, HL.out, mergeI, if_pos (by rw [HYw.out]; exact hle)]; simp
        clear HE HL HP HU hle hO'
        go_upto_region 7 with fail
        go_quiet (fail)
        have hO2 := hO.fr ((Fr.refl wr).drewN nq)
        have hf2 := hf.trans ((Fr.refl wr).drewN nq)
        replace c0 := ((Fr.refl wr).drewN nq).cell c0
        replace c1 := ((Fr.refl wr).drewN nq).cell c1
        clear hO hf d0 d1 e0 e1
        generalize wr.drewN nq = w5 at *
        go_wp2_with (at_builtin; refine wpList_app1 eIt rfl (.tmp 66) (.tmp 71) 252 rfl Tryz.underlying252 w.heap.size rfl hO2 [x] _ _ _ rfl rfl rfl (by simp; omega) hf2.size ?_)
        intro v' w4 hap
        go_wp2_with fail
        go_roundw
        case rel => exact ⟨i + 1, k, m ++ [x], by omega, hk, by go_num, rfl, by simp; omega, hap.own, HE2, hap.below hO2 hf2 (Nat.le_refl _) hf2.size⟩
        case measure => simp [intOf]; omega
      · have hle' : ¬ (x.w.toNat : Int) ≤ s := fun e => hle (HU.out.2 e)
        have HE2 : Hid (R = (m ++ [y]) ++ mergeI (leaf.drop i) (pairsI (row.drop (k + 2)))) := by
         show _ = _; rw [HE.out, HP.out, HL.out, mergeI, if_neg (by rw [HYw.out]; exact hle)]; simp
        clear HE HL HP HU hle hO'
        go_upto_region 7 with fail
        go_quiet (fail)
        have hO2 := hO.fr ((Fr.refl wr).drewN nq)
        have hf2 := hf.trans ((Fr.refl wr).drewN nq)
        replace c0 := ((Fr.refl wr).drewN nq).cell c0
        replace c1 := ((Fr.refl wr).drewN nq).cell c1
        clear hO hf d0 d1 e0 e1
        generalize wr.drewN nq = w5 at *
        go_wp2_with (at_builtin; refine wpList_app1 eIt rfl (.tmp 75) (.tmp 78) 252 rfl Tryz.underlying252 w.heap.size rfl hO2 [y] _ _ _ (by rw [HY1.out]) rfl rfl (by simp; omega) hf2.size ?_)
        intro v' w4 hap
        go_wp2_with fail
        go_roundw
        case rel => exact ⟨i, k + 2, m ++ [y], hi, hlk, rfl, by go_num, by simp; omega, hap.own, HE2, hap.below hO2 hf2 (Nat.le_refl _) hf2.size⟩
        case measure => simp [intOf]; omega
    · have hk1' : ¬ ((k + 1 : Nat) : Int) < row.length := by omega
      have hk2' : (row.length : Int) ≤ ((k + 1 : Nat) : Int) := by omega
      have HE2 : Hid (R = (m ++ [x]) ++ mergeI (leaf.drop (i + 1)) (pairsI (row.drop k))) := by
       have h1 := drop_pairs_end row k (by omega)
       show _ = _; rw [HE.out, h1, mergeI_nil, mergeI_nil, HL.out]; simp
      clear HE HL
      go_wp2_with (at_builtin; refine wpList_app1 eIt rfl (.tmp 32) (.tmp 37) 252 rfl Tryz.underlying252 w.heap.size rfl hO [x] _ _ _ rfl rfl rfl (by simp; omega) hf.size ?_)
      intro v' w4 hap
      go_wp2_with fail
      go_roundw
      case rel => exact ⟨i + 1, k, m ++ [x], by omega, hk, by go_num, rfl, by simp; omega, hap.own, HE2, hap.below hO hf (Nat.le_refl _) hf.size⟩
      case measure => simp [intOf]; omega
  · obtain rfl : i = leaf.length := by omega
    have hi1' : ¬ (leaf.length : Int) < leaf.length := by omega
    by_cases hk1 : k + 1 < row.length
    · have hk1' : ((k + 1 : Nat) : Int) < row.length := by omega
      obtain ⟨b2, off2, cp2, hv2, d0, d1⟩ := itAt (hb.fr hf) k (by omega)
      obtain ⟨b3, off3, cp3, hv3, e0, e1⟩ := itAt (hb.fr hf) (k + 1) hk1
      rw [hv2] at hv3
      cases hv3
      have HP := hid (drop_pairs row k hk1)
      generalize row[k] = p at *
      generalize row[k + 1] = q at *
      cases hv2
      have hsm := u64_add p.w q.w
      generalize hy : (⟨p.w + q.w, false, p.syms ++ q.syms⟩ : It) = y at *
      have HY1 : Hid (eIt.cells [y] = [.int .u64 ((p.w + q.w).toNat : Int), .bool false]) := by subst hy; rfl
      have hsb := UInt64.toNat_lt (p.w + q.w)
      have hpb := UInt64.toNat_lt p.w
      have hqb := UInt64.toNat_lt q.w
      clear hy
      generalize (p.w + q.w).toNat = s at *
      generalize p.w.toNat = pw at *
      generalize q.w.toNat = qw at *
      have j2 : (0 : Int) ≤ k := by omega
      have j3 : (k : Int) < row.length := by omega
      have j4 : (0 : Int) ≤ ((k + 1 : Nat) : Int) := by omega
      have hk1n : ¬ (row.length : Int) ≤ ((k + 1 : Nat) : Int) := by omega
      have hlk : k + 2 ≤ row.length := by omega
      have hwk2 : IntKind.i64.wrap ((k : Int) + 2) = ((k + 2 : Nat) : Int) := by rw [IntWalk.i64_in _ (by omega)]; omega
      have HE2 : Hid (R = (m ++ [y]) ++ mergeI (leaf.drop leaf.length) (pairsI (row.drop (k + 2)))) := by
       show _ = _; rw [HE.out, HP.out, List.drop_length, nil_mergeI, nil_mergeI]; simp
      clear HE HP
      go_upto_region 7 with fail
      go_quiet (fail)
      have hO2 := hO.fr ((Fr.refl wr).drewN nq)
      have hf2 := hf.trans ((Fr.refl wr).drewN nq)
      clear hO hf d0 d1 e0 e1
      generalize wr.drewN nq = w5 at *
      go_wp2_with (at_builtin; refine wpList_app1 eIt rfl (.tmp 75) (.tmp 78) 252 rfl Tryz.underlying252 w.heap.size rfl hO2 [y] _ _ _ (by rw [HY1.out]) rfl rfl (by simp; omega) hf2.size ?_)
      intro v' w4 hap
      go_wp2_with fail
      go_roundw
      case rel => exact ⟨leaf.length, k + 2, m ++ [y], Nat.le_refl _, hlk, rfl, by go_num, by simp; omega, hap.own, HE2, hap.below hO2 hf2 (Nat.le_refl _) hf2.size⟩
      case measure => simp [intOf]; omega
    · have hk1' : ¬ ((k + 1 : Nat) : Int) < row.length := by omega
      have HE2 : Hid (R = m) := by
       have h1 := drop_pairs_end row k (by omega)
       show _ = _; rw [HE.out, h1, List.drop_length, mergeI_nil, List.append_nil]
      clear HE
      go_wp2_with fail
      go_ret
      exact ⟨_, rfl, by rw [HE2.out]; exact hO, hf⟩
set_option maxRecDepth 512
end Go.Proofs.YtmfbmjplmaimbaaGreatDoor
