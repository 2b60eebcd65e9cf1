/- Parts of the proof of ThreeMends: Q1. -/
import Derived.Test.YtfhdgenlpmlajaaGreatDoorM11
import Derived.Test.YtfhdgenlpmlajaaGreatDoorM01
import Derived.Test.YtfhdgenlpmlajaaGreatDoorM08
import Derived.Test.YtfhdgenlpmlajaaGreatDoorM26
set_option linter.unusedVariables false
set_option linter.unusedSectionVars false
set_option linter.unusedSimpArgs false
set_option maxHeartbeats 8000000
namespace Go.Proofs.YtfhdgenlpmlajaaGreatDoor
open Go.RowKit Go.Fk
def wt1 (r : Rec) : Nat := 16 + r.source.length + r.text.length
def longR (r : Rec) : Bool := decide (4000 < r.source.length) || decide (4000 < r.text.length)
def okLog (l : List Rec) : Bool := decide (l.length ≤ 20000) && (l.all fun r => !longR r) && decide (wtS wt1 l ≤ 1048576)
abbrev recV (r : Rec) : Value := .agg #[.int .u64 r.time.toNat, Fk.u8 r.level, S r.source, S r.text]
set_option maxRecDepth 100000
theorem long_any (r : Rec) (w : World) : Calls Tryz.prog 81 #[recV r] w fun e w' => e = .returned (.bool (longR r)) ∧ Fr w w' := by
 have HR : Hid (longR r = (decide (4000 < r.source.length) || decide (4000 < r.text.length))) := rfl
 by_cases h1 : 4000 < r.source.length
 · have h1' : (4000 : Int) < r.source.length := by omega
   have HE : Hid (longR r = true) := by show _ = _; rw [HR.out, decide_eq_true h1]; rfl
   go_enter Tryz.func81, Tryz.ntmps81
   go_wp2_with fail
   go_ret
   exact ⟨by rw [HE.out]; rfl, (Fr.refl w).alloc _⟩
 · have h1' : ¬ (4000 : Int) < r.source.length := by omega
   by_cases h2 : 4000 < r.text.length
   · have h2' : (4000 : Int) < r.text.length := by omega
     have HE : Hid (longR r = true) := by show _ = _; rw [HR.out, decide_eq_true h2]; simp
     go_enter Tryz.func81, Tryz.ntmps81
     go_wp2_with fail
     go_ret
     exact ⟨by rw [HE.out]; rfl, (Fr.refl w).alloc _⟩
   · have h2' : ¬ (4000 : Int) < r.text.length := by omega
     have HE : Hid (longR r = false) := by show _ = _; rw [HR.out, decide_eq_false h1, decide_eq_false h2]; rfl
     go_enter Tryz.func81, Tryz.ntmps81
     go_wp2_with fail
     go_ret
     exact ⟨by rw [HE.out]; rfl, (Fr.refl w).alloc _⟩
theorem QWeight_any (v : Value) (l : List Rec) (w : World) (hs : See w eR v l) (hl : l.length ≤ 20000) (hb : ∀ r ∈ l, wt1 r ≤ 8016) :
  Calls Tryz.prog 82 #[v] w fun e w' => e = .returned (N (wtS wt1 l)) ∧ Fr w w' := by
 obtain ⟨a, cap, hv, hcap1, hcap2, hnone⟩ := hs.shape
 subst hv
 have HTk := hid (fun k => wtS_le wt1 8016 (l.take k) (fun x hx => hb x (List.mem_of_mem_take hx)))
 have HB := hid hb
 clear hb
 go_enter Tryz.func82, Tryz.ntmps82
 go_wp2_with fail
 go_loopw [3, 8] (fun sv iv wr => ∃ k : Nat, k ≤ l.length ∧ iv = N k ∧ sv = N (wtS wt1 (l.take k)) ∧ Fr w wr) (fun _ iv _ => l.length - (intOf iv).toNat)
 case atStart => exact ⟨0, Nat.zero_le _, rfl, rfl, Fr.refl w⟩
 case round =>
  obtain ⟨k, hk, rfl, rfl, hf⟩ := hrel
  have hbd := HTk.out k
  rw [List.length_take, Nat.min_eq_left hk] at hbd
  have hbd2 : wtS wt1 (l.take k) ≤ 20000 * 8016 := Nat.le_trans hbd (Nat.mul_le_mul (by omega) (Nat.le_refl _))
  clear hbd
  by_cases hlt : k < l.length
  · obtain ⟨b, off, cap', hv, c0, c1, c2, c3⟩ := recAt (hs.fr hf) k hlt
    have HN := hid (wtS_snoc wt1 l k hlt)
    have h1 : wt1 l[k] ≤ 8016 := HB.out _ (List.getElem_mem hlt)
    generalize wtS wt1 (l.take k) = sum at *
    generalize l[k] = r at *
    cases hv
    unfold wt1 at h1
    have i1 : (0 : Int) ≤ k := by omega
    have i2 : (k : Int) < l.length := by omega
    go_wp2_with fail
    exact ⟨⟨k + 1, by omega, by go_num, by rw [HN.out]; unfold wt1; go_num, hf.alloc _⟩, by simp [intOf]; omega⟩
  · obtain rfl : k = l.length := by omega
    have hnl : ¬ ((l.length : Int) < l.length) := by omega
    rw [List.take_length] at *
    go_wp2_with fail
    go_ret
    exact ⟨rfl, hf⟩
theorem indexLong_any (v : Value) (l : List Rec) (w : World) (hs : See w eR v l) :
  Calls Tryz.prog 114 #[v, .func (.func 81) #[] #[]] w fun e w' => ∃ x : Int, e = .returned (.int .i64 x) ∧ Hid (decide (0 ≤ x) = l.any longR) ∧ Fr w w' := by
 obtain ⟨a, cap, hv, hcap1, hcap2, hnone⟩ := hs.shape
 subst hv
 unfold maxLen at hcap2
 have HL := hid long_any
 go_enter Tryz.func114, Tryz.ntmps114
 go_wp2_with fail
 go_loopw [8] (fun iv wr => ∃ k : Nat, k ≤ l.length ∧ iv = N k ∧ Hid ((l.take k).any longR = false) ∧ Fr w wr) (fun iv _ => l.length - (intOf iv).toNat)
 case atStart => exact ⟨0, Nat.zero_le _, rfl, rfl, Fr.refl w⟩
 case round =>
  obtain ⟨k, hk, rfl, HA, hf⟩ := hrel
  by_cases hlt : k < l.length
  · obtain ⟨b, off, cap', hv, c0, c1, c2, c3⟩ := recAt (hs.fr hf) k hlt
    have HN : Hid ((l.take (k + 1)).any longR = longR l[k]) := by
     show _ = _; rw [List.take_succ_eq_append_getElem hlt, List.any_append, HA.out]; simp
    have HX : Hid (longR l[k] = true → l.any longR = true) := fun h => List.any_eq_true.2 ⟨_, List.getElem_mem hlt, h⟩
    generalize l[k] = r at *
    cases hv
    have HR := hid (HL.out r)
    have i1 : (0 : Int) ≤ k := by omega
    have i2 : (k : Int) < l.length := by omega
    cases hr : longR r
    · rw [hr] at HR HN HX
      clear hr
      go_wp2_with fail
      refine (HR.out _).mono ?_
      rintro e w1 ⟨rfl, hf1⟩
      go_wp2_with fail
      exact ⟨⟨k + 1, by omega, by go_num, HN.out, hf.trans hf1⟩, by simp [intOf]; omega⟩
    · have HX2 := hid (HX.out hr)
      rw [hr] at HR HN
      clear hr HX
      go_wp2_with fail
      refine (HR.out _).mono ?_
      rintro e w1 ⟨rfl, hf1⟩
      go_wp2_with fail
      go_ret
      exact ⟨_, rfl, by show _ = _; rw [HX2.out]; simp, hf.trans hf1⟩
  · obtain rfl : k = l.length := by omega
    have hnl : ¬ ((l.length : Int) < l.length) := by omega
    rw [List.take_length] at HA
    go_wp2_with fail
    go_ret
    exact ⟨_, rfl, by show _ = _; rw [HA.out]; rfl, hf⟩
theorem hasLong_any (v : Value) (l : List Rec) (w : World) (hs : See w eR v l) :
  Calls Tryz.prog 80 #[v, .func (.func 81) #[] #[]] w fun e w' => e = .returned (.bool (l.any longR)) ∧ Fr w w' := by
 obtain ⟨a, cap, hv, hcap1, hcap2, hnone⟩ := hs.shape
 have HI := hid (indexLong_any v l w hs)
 subst hv
 go_enter Tryz.func80, Tryz.ntmps80
 go_wp2_with fail
 refine HI.out.mono ?_
 rintro e w1 ⟨x, rfl, HX, hf⟩
 go_wp2_with fail
 go_ret
 exact ⟨by rw [← HX.out]; rfl, hf⟩
theorem QCheck_any (v : Value) (l : List Rec) (w : World) (hs : See w eR v l) :
  Calls Tryz.prog 46 #[v] w fun e w' => e = .returned (.int .i64 (if okLog l then 0 else 6)) ∧ Fr w w' := by
 obtain ⟨a, cap, hv, hcap1, hcap2, hnone⟩ := hs.shape
 have HL := hid (fun W h => hasLong_any v l W h)
 have HW := hid (fun W h => QWeight_any v l W h)
 have HR : Hid ((if okLog l then (0 : Int) else 6) = if (decide (l.length ≤ 20000) && (l.all fun r => !longR r) && decide (wtS wt1 l ≤ 1048576)) = true then 0 else 6) := rfl
 have HAll : Hid ((l.all fun r => !longR r) = !(l.any longR)) := by show _ = _; rw [List.not_any_eq_all_not]
 generalize (if okLog l then (0 : Int) else 6) = R at *
 rw [HAll.out] at HR
 subst hv
 unfold maxLen at hcap2
 by_cases h1 : l.length ≤ 20000
 · have h1' : ¬ (20000 : Int) < l.length := by omega
   rw [decide_eq_true h1] at HR
   cases ha : l.any longR
   · have hb : ∀ r ∈ l, wt1 r ≤ 8016 := by
       intro r hr
       have h2 : longR r = false := by
        cases hx : longR r
        · rfl
        · rw [List.any_eq_true.2 ⟨r, hr, hx⟩] at ha; cases ha
       unfold longR at h2
       simp only [Bool.or_eq_false_iff, decide_eq_false_iff_not] at h2
       unfold wt1; omega
     rw [ha] at HR HL
     have HW2 := hid (fun W h => HW.out W h h1 hb)
     clear HAll HW hb ha
     by_cases h3 : wtS wt1 l ≤ 1048576
     · rw [decide_eq_true h3] at HR
       have h3' : ¬ (1048576 : Int) < wtS wt1 l := by omega
       have HE : Hid (R = 0) := by show _ = _; rw [HR.out]; rfl
       generalize wtS wt1 l = wt at *
       go_enter Tryz.func46, Tryz.ntmps46
       go_wp2_with fail
       refine (HL.out _ hs).mono ?_
       rintro e w1 ⟨rfl, hf1⟩
       go_wp2_with fail
       refine (HW2.out _ (hs.fr hf1)).mono ?_
       rintro e w2 ⟨rfl, hf2⟩
       go_wp2_with fail
       go_ret
       exact ⟨by rw [HE.out]; rfl, hf1.trans hf2⟩
     · rw [decide_eq_false h3] at HR
       have h3' : (1048576 : Int) < wtS wt1 l := by omega
       have HE : Hid (R = 6) := by show _ = _; rw [HR.out]; rfl
       generalize wtS wt1 l = wt at *
       go_enter Tryz.func46, Tryz.ntmps46
       go_wp2_with fail
       refine (HL.out _ hs).mono ?_
       rintro e w1 ⟨rfl, hf1⟩
       go_wp2_with fail
       refine (HW2.out _ (hs.fr hf1)).mono ?_
       rintro e w2 ⟨rfl, hf2⟩
       go_wp2_with fail
       go_ret
       exact ⟨by rw [HE.out]; rfl, hf1.trans hf2⟩
   · rw [ha] at HR HL
     have HE : Hid (R = 6) := by show _ = _; rw [HR.out]; rfl
     clear HAll ha
     go_enter Tryz.func46, Tryz.ntmps46
     go_wp2_with fail
     refine (HL.out _ hs).mono ?_
     rintro e w1 ⟨rfl, hf1⟩
     go_wp2_with fail
     go_ret
     exact ⟨by rw [HE.out]; rfl, hf1⟩
 · have h1' : (20000 : Int) < l.length := by omega
   rw [decide_eq_false h1] at HR
   have HE : Hid (R = 6) := by show _ = _; rw [HR.out]; rfl
   go_enter Tryz.func46, Tryz.ntmps46
   go_wp2_with fail
   go_ret
   exact ⟨by rw [HE.out]; rfl, Fr.refl w⟩
set_option maxRecDepth 512
end Go.Proofs.YtfhdgenlpmlajaaGreatDoor
