/- Parts of the proof of ThreeMends: T1 T2. -/
import Derived.Test.YtfhdgenlpmlajaaGreatDoorM17
import Derived.Lib.SmallJoins
import Derived.Test.YtfhdgenlpmlajaaGreatDoorM11
import Derived.Test.YtfhdgenlpmlajaaGreatDoorM06
import Derived.Test.YtfhdgenlpmlajaaGreatDoorM10
set_option linter.unusedVariables false
set_option linter.unusedSectionVars false
set_option linter.unusedSimpArgs false
set_option maxHeartbeats 8000000
namespace Go.Proofs.YtfhdgenlpmlajaaGreatDoor
open Go.RowKit Go.Fk
theorem wrap_mul (a b m : Nat) (ha : a * b ≤ m) (hm : m < 9223372036854775808) : IntKind.i64.wrap ((a : Int) * (b : Int)) = ((a * b : Nat) : Int) := by
 rw [Int.natCast_mul]; exact IntWalk.i64_in _ (by rw [← Int.natCast_mul]; omega)
abbrev shV (k m c : Nat) : Value := .agg #[N k, N m, N c]
set_option maxRecDepth 100000
theorem sdata_any (k m c : Nat) (hk : k ≤ 255) (hc : c ≤ 4096) (w : World) : Calls Tryz.prog 28 #[shV k m c] w fun e w' => e = .returned (N (k * c)) ∧ Fr w w' := by
 have h1 : k * c ≤ 255 * 4096 := Nat.mul_le_mul hk hc
 have hw := wrap_mul k c _ h1 (by omega)
 generalize k * c = z at *
 go_enter Tryz.func28, Tryz.ntmps28
 go_wp2_with fail
 go_ret
 exact ⟨rfl, (Fr.refl w).alloc _⟩
theorem slaid_any (k m c : Nat) (hk : k + m ≤ 255) (hc : c ≤ 4096) (w : World) : Calls Tryz.prog 60 #[shV k m c] w fun e w' => e = .returned (N ((k + m) * (c + 4))) ∧ Fr w w' := by
 have h1 : (k + m) * (c + 4) ≤ 255 * 4100 := Nat.mul_le_mul hk (by omega)
 have hw := wrap_mul (k + m) (c + 4) _ h1 (by omega)
 have k1 : (0 : Int) ≤ k := by omega
 have k2 : (k : Int) ≤ 255 := by omega
 have k3 : (0 : Int) ≤ m := by omega
 have k4 : (m : Int) ≤ 255 := by omega
 have k5 : (c : Int) ≤ 4096 := by omega
 have k6 : (0 : Int) ≤ c := by omega
 rw [show ((k + m : Nat) : Int) = (k : Int) + m by omega, show ((c + 4 : Nat) : Int) = (c : Int) + 4 by omega] at hw
 generalize (k + m) * (c + 4) = z at *
 go_enter Tryz.func60, Tryz.ntmps60
 go_wp2_with fail
 go_ret
 exact ⟨rfl, (Fr.refl w).alloc _⟩
set_option maxRecDepth 512
def strN (k c n : Nat) : Nat := (n + k * c - 1) / (k * c)
set_option maxRecDepth 100000
theorem sstripes_any (k m c n : Nat) (hk0 : 1 ≤ k) (hc0 : 1 ≤ c) (hk : k ≤ 255) (hc : c ≤ 4096) (hn : n ≤ 8388608) (w : World) : Calls Tryz.prog 27 #[shV k m c, N n] w fun e w' => e = .returned (N (strN k c n)) ∧ Fr w w' := by
  have h1 : k * c ≤ 255 * 4096 := Nat.mul_le_mul hk hc
  have h2 : 1 * 1 ≤ k * c := Nat.mul_le_mul hk0 hc0
  have HD := hid (sdata_any k m c hk hc)
  unfold strN
  generalize k * c = z at *
  have hz1 : (1 : Int) ≤ z := by omega
  have hw1 : IntKind.i64.wrap ((n : Int) + z) = (n : Int) + z := IntWalk.i64_in _ (by omega)
  have hw2 : IntKind.i64.wrap ((n : Int) + z - 1) = (n : Int) + z - 1 := IntWalk.i64_in _ (by omega)
  have hdv : ((n : Int) + z - 1).tdiv z = (((n + z - 1) / z : Nat) : Int) := by
    rw [show (n : Int) + z - 1 = ((n + z - 1 : Nat) : Int) by omega, Int.tdiv_eq_ediv_of_nonneg (by omega)]; simp
  have hq : (n + z - 1) / z ≤ 8388608 + 255 * 4096 := Nat.le_trans (Nat.div_le_self _ _) (by omega)
  generalize (n + z - 1) / z = q at *
  have hw3 : IntKind.i64.wrap (q : Int) = q := IntWalk.i64_in _ (by omega)
  have hz0 : ¬ (z : Int) = 0 := by omega
  have hz2 : ¬ z = 0 := by omega
  have hz3 : z ≠ 0 := hz2
  go_enter Tryz.func27, Tryz.ntmps27
  go_wp2_with fail
  generalize hW : w.alloc (.cells #[N k, N m, N c] 57) = W
  have hf0 : Fr w W := by rw [← hW]; exact (Fr.refl w).alloc _
  have hc0 : W.cell? ⟨w.heap.size, 0, none⟩ = some (N k) ∧ W.cell? ⟨w.heap.size, 1, none⟩ = some (N m) ∧ W.cell? ⟨w.heap.size, 2, none⟩ = some (N c) := by
    rw [← hW]; refine ⟨?_, ?_, ?_⟩ <;> rw [World.cell?_alloc_at _ _ _ _ rfl] <;> rfl
  obtain ⟨a0, a1, a2⟩ := hc0
  have HF := hid hf0
  clear hW hf0
  go_region_held3 (fun w' => w'.cell? ⟨w.heap.size, 0, none⟩ = some (N k) ∧ w'.cell? ⟨w.heap.size, 1, none⟩ = some (N m) ∧ w'.cell? ⟨w.heap.size, 2, none⟩ = some (N c))
    (first | go_keep)
    ((first
      | (go_at_call 28; refine (HD.out _).mono ?_; rintro e w1 ⟨rfl, hf1⟩; have b0 := hf1.cell a0; have b1 := hf1.cell a1; have b2 := hf1.cell a2)
      | (go_at_call 28; refine (HD.out _).mono ?_; rintro e w2 ⟨rfl, hf2⟩; have d0 := hf2.cell b0; have d1 := hf2.cell b1; have d2 := hf2.cell b2)))
  go_wp2_with fail
  go_ret
  exact ⟨rfl, ((HF.out.trans (Fr.drew (Fr.refl _))).trans hf1).trans hf2⟩
theorem smay_any (k m c n : Nat) (hk0 : 1 ≤ k) (hkm : k + m ≤ 255) (hc0 : 1 ≤ c) (hc : c ≤ 4096) (w : World) : Calls Tryz.prog 62 #[shV k m c, N n] w fun e w' => e = .returned (.bool (decide (n ≤ 8388608))) ∧ Fr w w' := by
 have k1 : (1 : Int) ≤ k := by omega
 have k2 : (0 : Int) ≤ m := by omega
 have k3 : (k : Int) ≤ 255 := by omega
 have k4 : (m : Int) ≤ 255 - k := by omega
 have k5 : (1 : Int) ≤ c := by omega
 have k6 : (c : Int) ≤ 4096 := by omega
 have k7 : (0 : Int) ≤ n := by omega
 have hw : IntKind.i64.wrap (255 - (k : Int)) = 255 - k := IntWalk.i64_in _ (by omega)
 by_cases h : n ≤ 8388608
 · rw [decide_eq_true h]
   have h8 : (n : Int) ≤ 8388608 := by omega
   go_enter Tryz.func62, Tryz.ntmps62
   go_wp2_with fail
   go_ret
   exact ⟨rfl, (Fr.refl w).alloc _⟩
 · rw [decide_eq_false h]
   have h8 : ¬ (n : Int) ≤ 8388608 := by omega
   go_enter Tryz.func62, Tryz.ntmps62
   go_wp2_with fail
   go_ret
   exact ⟨rfl, (Fr.refl w).alloc _⟩
set_option maxRecDepth 512
def sizeV (k m c n : Nat) : Value :=
 if n ≤ 8388608 then (if strN k c n * ((k + m) * (c + 4)) ≤ 16777216 then .tuple #[N (strN k c n * ((k + m) * (c + 4))), .int .i64 0] else .tuple #[.int .i64 0, .int .i64 6]) else .tuple #[.int .i64 0, .int .i64 13]
theorem sizeV_cases (k m c n : Nat) : (n ≤ 8388608 → (strN k c n * ((k + m) * (c + 4)) ≤ 16777216 → sizeV k m c n = .tuple #[N (strN k c n * ((k + m) * (c + 4))), .int .i64 0]) ∧ (¬ strN k c n * ((k + m) * (c + 4)) ≤ 16777216 → sizeV k m c n = .tuple #[.int .i64 0, .int .i64 6])) ∧ (¬ n ≤ 8388608 → sizeV k m c n = .tuple #[.int .i64 0, .int .i64 13]) := by
 unfold sizeV
 refine ⟨fun h => ⟨fun h2 => by rw [if_pos h, if_pos h2], fun h2 => by rw [if_pos h, if_neg h2]⟩, fun h => by rw [if_neg h]⟩
theorem strN_le (k c n : Nat) (hk : k ≤ 255) (hc : c ≤ 4096) (hn : n ≤ 8388608) : strN k c n ≤ 9433088 := by
 have h1 : k * c ≤ 255 * 4096 := Nat.mul_le_mul hk hc
 unfold strN
 exact Nat.le_trans (Nat.div_le_self _ _) (by omega)
set_option maxRecDepth 100000
theorem Size_any (k m c n : Nat) (hk0 : 1 ≤ k) (hkm : k + m ≤ 255) (hc0 : 1 ≤ c) (hc : c ≤ 4096) (w : World) : Calls Tryz.prog 26 #[N k, N m, N c, N n] w fun e w' => e = .returned (sizeV k m c n) ∧ Fr w w' := by
 have HM := hid (smay_any k m c n hk0 hkm hc0 hc)
 have HR := hid (sizeV_cases k m c n)
 generalize sizeV k m c n = R at *
 have h3 := heap_new w (.cells #[.int .i64 0, .int .i64 0, .int .i64 0] 57) _ rfl
 have hinf : (Tryz.prog.info? 57).map (·.size) = some 3 := by kernel_rfl
 have hone : (#[N k, N m, N c] : Array Value).all (·.oneCell') = true := by
  rw [List.all_toArray]; rfl
 have hset := setRow_row _ _ #[N k, N m, N c] _ _ h3
 have hf4 : Fr w ((w.alloc (.cells #[.int .i64 0, .int .i64 0, .int .i64 0] 57)).setRow w.heap.size #[N k, N m, N c]) := Chg.below ((Fr.refl w).alloc _) (setRow_chg _ _ _) (by simp) (fun q hq => by rw [hq]; exact Nat.le_refl _)
 go_enter Tryz.func26, Tryz.ntmps26
 go_wp2_with (first | (refine wpList_store_row rfl 57 (.tmp 10) (.tmp 15) rfl w.heap.size #[N k, N m, N c] rfl rfl 57 _ h3 hinf rfl hone ?_) | (refine wpList_load_row rfl 57 (.tmp 10) rfl w.heap.size rfl 57 #[N k, N m, N c] (0, 0) _ hset Tryz.underlying57 rfl hinf ?_))
 refine (HM.out _).mono ?_
 rintro e w1 ⟨rfl, hf1⟩
 have hB1 := hf1.heap hset
 have hf01 := hf4.trans hf1
 clear hset hone h3 hf4
 generalize hW : (w.alloc (.cells #[.int .i64 0, .int .i64 0, .int .i64 0] 57)).setRow w.heap.size #[N k, N m, N c] = W0 at *
 clear hW
 by_cases hn : n ≤ 8388608
 · rw [decide_eq_true hn]
   have HSt := hid (sstripes_any k m c n hk0 hc0 (by omega) hc hn)
   have HLa := hid (slaid_any k m c hkm hc)
   have hL1 : (k + m) * (c + 4) ≤ 255 * 4100 := Nat.mul_le_mul hkm (by omega)
   have hS1 := strN_le k c n (by omega) hc hn
   have hP1 : strN k c n * ((k + m) * (c + 4)) ≤ 9433088 * (255 * 4100) := Nat.mul_le_mul hS1 hL1
   have hw1 := wrap_mul (strN k c n) ((k + m) * (c + 4)) _ hP1 (by omega)
   have HR1 := hid (HR.out.1 hn)
   clear HR
   generalize (k + m) * (c + 4) = la at *
   generalize strN k c n = st at *
   generalize st * la = z at *
   have a0 : w1.cell? ⟨w.heap.size, 0, none⟩ = some (N k) := by rw [cell_of_heap hB1]; rfl
   have a1 : w1.cell? ⟨w.heap.size, 1, none⟩ = some (N m) := by rw [cell_of_heap hB1]; rfl
   have a2 : w1.cell? ⟨w.heap.size, 2, none⟩ = some (N c) := by rw [cell_of_heap hB1]; rfl
   have HF := hid hf01
   clear hf01 hf1 hB1 hn hP1 hS1 hL1
   go_upto_region 4 with fail
   go_region_held3 (fun w' => w'.cell? ⟨w.heap.size, 0, none⟩ = some (N k) ∧ w'.cell? ⟨w.heap.size, 1, none⟩ = some (N m) ∧ w'.cell? ⟨w.heap.size, 2, none⟩ = some (N c))
    (first | go_keep)
    ((first
     | (go_at_call 27; refine (HSt.out _).mono ?_; rintro e w2 ⟨rfl, hf2⟩; have b0 := hf2.cell a0; have b1 := hf2.cell a1; have b2 := hf2.cell a2)
     | (go_at_call 60; refine (HLa.out _).mono ?_; rintro e w3 ⟨rfl, hf3⟩; have d0 := hf3.cell b0; have d1 := hf3.cell b1; have d2 := hf3.cell b2)))
   by_cases hz : z ≤ 16777216
   · have hz' : ¬ (16777216 : Int) < z := by omega
     have HE := hid (HR1.out.1 hz)
     go_wp2_with fail
     exact bodyPost_ret (v := .tuple #[N z, .int .i64 0]) (by simp [results, Tryz.results26, go_sem, *]) rfl ⟨by rw [HE.out], ((HF.out.trans (Fr.drew (Fr.refl _))).trans hf2).trans hf3⟩
   · have hz' : (16777216 : Int) < z := by omega
     have HE := hid (HR1.out.2 hz)
     go_wp2_with fail
     exact bodyPost_ret (v := .tuple #[.int .i64 0, .int .i64 6]) (by simp [results, Tryz.results26, go_sem, *]) rfl ⟨by rw [HE.out], ((HF.out.trans (Fr.drew (Fr.refl _))).trans hf2).trans hf3⟩
 · rw [decide_eq_false hn]
   have HE := hid (HR.out.2 hn)
   go_wp2_with fail
   exact bodyPost_ret (v := .tuple #[.int .i64 0, .int .i64 13]) (by simp [results, Tryz.results26, go_sem, *]) rfl ⟨by rw [HE.out], hf01⟩
theorem RSize_any (k m c n : Nat) (hk0 : 1 ≤ k) (hkm : k + m ≤ 255) (hc0 : 1 ≤ c) (hc : c ≤ 4096) (w : World) : Calls Tryz.prog 74 #[N k, N m, N c, N n] w fun e w' => e = .returned (sizeV k m c n) ∧ Fr w w' := by
 have HM := hid (RMay_any k m hk0 hkm)
 have HR := hid (sizeV_cases k m c n)
 generalize sizeV k m c n = R at *
 have k5 : (1 : Int) ≤ c := by omega
 have k6 : (c : Int) ≤ 4096 := by omega
 have k7 : (0 : Int) ≤ n := by omega
 by_cases hn : n ≤ 8388608
 · have hn' : (n : Int) ≤ 8388608 := by omega
   have hL1 : (k + m) * (c + 4) ≤ 255 * 4100 := Nat.mul_le_mul hkm (by omega)
   have hS1 := strN_le k c n (by omega) hc hn
   have hS0 : 1 * 1 ≤ k * c := Nat.mul_le_mul hk0 hc0
   have hS2 : k * c ≤ 255 * 4096 := Nat.mul_le_mul (by omega) hc
   have hP1 : strN k c n * ((k + m) * (c + 4)) ≤ 9433088 * (255 * 4100) := Nat.mul_le_mul hS1 hL1
   have hst : strN k c n = n / (k * c) + (if n / (k * c) * k * c < n then 1 else 0) := by
    unfold strN
    have h1 := Nat.div_add_mod n (k * c)
    have h2 := Nat.mod_lt n (show 0 < k * c by omega)
    have h3 : n / (k * c) * k * c = k * c * (n / (k * c)) := by rw [Nat.mul_assoc, Nat.mul_comm]
    rw [h3]
    generalize k * c = z at *
    generalize hq : n / z = q at *
    generalize hr : n % z = r at *
    have hz : 0 < z := by omega
    have e : (n + z - 1) = z * q + (r + z - 1) := by omega
    rw [e, Nat.mul_add_div hz]
    by_cases hr0 : r = 0
    · subst hr0
      rw [if_neg (by omega), Nat.div_eq_of_lt (by omega)]
    · rw [if_pos (by omega)]
      have : r + z - 1 = z + (r - 1) := by omega
      rw [this, Nat.add_div_left _ hz, Nat.div_eq_of_lt (by omega)]
   have HR1 := hid (HR.out.1 hn)
   clear HR
   have hsplit : (if n / (k * c) * k * c < n then 1 else 0) ≤ 1 := by split <;> omega
   have hw1 := wrap_mul k c _ hS2 (by omega)
   have hdv : (n : Int).tdiv ((k * c : Nat) : Int) = ((n / (k * c) : Nat) : Int) := by rw [Int.tdiv_eq_ediv_of_nonneg (by omega)]; simp
   have hkc0 : ¬ ((k * c : Nat) : Int) = 0 := by omega
   have hq1 : n / (k * c) ≤ 8388608 := Nat.le_trans (Nat.div_le_self _ _) hn
   have hq2 : 0 ≤ n / (k * c) := Nat.zero_le _
   have hw2 := wrap_mul (n / (k * c)) k (8388608 * 255) (Nat.mul_le_mul hq1 (by omega)) (by omega)
   have hw3 := wrap_mul (n / (k * c) * k) c (8388608 * 255 * 4096) (Nat.mul_le_mul (Nat.mul_le_mul hq1 (by omega)) hc) (by omega)
   have hwq : IntKind.i64.wrap ((n / (k * c) : Nat) : Int) = ((n / (k * c) : Nat) : Int) := wrap_i64 _ (by omega)
   have hw4 := wrap_mul (strN k c n) (k + m) (9433088 * 255) (Nat.mul_le_mul hS1 hkm) (by omega)
   have hw5 := wrap_mul (strN k c n * (k + m)) (c + 4) (9433088 * 255 * 4100) (Nat.mul_le_mul (Nat.mul_le_mul hS1 hkm) (by omega)) (by omega)
   rw [Nat.mul_assoc] at hw5
   rw [show ((k + m : Nat) : Int) = (k : Int) + m by omega] at hw4
   rw [show ((c + 4 : Nat) : Int) = (c : Int) + 4 by omega] at hw5
   generalize hz : strN k c n * ((k + m) * (c + 4)) = z at *
   generalize strN k c n * (k + m) = z1 at *
   generalize strN k c n = st at *
   generalize n / (k * c) * k * c = z2 at *
   generalize n / (k * c) * k = z3 at *
   generalize n / (k * c) = q at *
   generalize k * c = kc at *
   have HST := hid hst
   clear hst hz hP1 hS1 hL1
   go_enter Tryz.func74, Tryz.ntmps74
   go_wp2_with fail
   refine (HM.out _).mono ?_
   rintro e w1 ⟨rfl, rfl⟩
   have k8 : (1 : Int) ≤ k := by omega
   have k9 : (k : Int) + m ≤ 255 := by omega
   have k10 : (0 : Int) ≤ m := by omega
   have fin : ∀ W : World, Fr W W := Fr.refl
   by_cases h2 : z2 < n
   · have h2' : (z2 : Int) < n := by omega
     obtain rfl : st = q + 1 := by rw [HST.out, if_pos h2]
     rw [show ((q + 1 : Nat) : Int) = (q : Int) + 1 by omega] at hw4
     clear HST
     by_cases hz : z ≤ 16777216
     · have hz' : ¬ (16777216 : Int) < z := by omega
       have HE := hid (HR1.out.1 hz)
       clear HR1
       go_wp2_with fail
       exact bodyPost_ret (v := .tuple #[N z, .int .i64 0]) (by simp [results, Tryz.results74, go_sem, *]) rfl ⟨by rw [HE.out], Fr.refl _⟩
     · have hz' : (16777216 : Int) < z := by omega
       have HE := hid (HR1.out.2 hz)
       clear HR1
       go_wp2_with fail
       exact bodyPost_ret (v := .tuple #[.int .i64 0, .int .i64 6]) (by simp [results, Tryz.results74, go_sem, *]) rfl ⟨by rw [HE.out], Fr.refl _⟩
   · have h2' : ¬ (z2 : Int) < n := by omega
     obtain rfl : st = q := by rw [HST.out, if_neg h2]; rfl
     clear HST
     by_cases hz : z ≤ 16777216
     · have hz' : ¬ (16777216 : Int) < z := by omega
       have HE := hid (HR1.out.1 hz)
       clear HR1
       go_wp2_with fail
       exact bodyPost_ret (v := .tuple #[N z, .int .i64 0]) (by simp [results, Tryz.results74, go_sem, *]) rfl ⟨by rw [HE.out], Fr.refl _⟩
     · have hz' : (16777216 : Int) < z := by omega
       have HE := hid (HR1.out.2 hz)
       clear HR1
       go_wp2_with fail
       exact bodyPost_ret (v := .tuple #[.int .i64 0, .int .i64 6]) (by simp [results, Tryz.results74, go_sem, *]) rfl ⟨by rw [HE.out], Fr.refl _⟩
 · have hn' : ¬ (n : Int) ≤ 8388608 := by omega
   have HE := hid (HR.out.2 hn)
   clear HR
   go_enter Tryz.func74, Tryz.ntmps74
   go_wp2_with fail
   refine (HM.out _).mono ?_
   rintro e w1 ⟨rfl, rfl⟩
   go_wp2_with fail
   exact bodyPost_ret (v := .tuple #[.int .i64 0, .int .i64 13]) (by simp [results, Tryz.results74, go_sem, *]) rfl ⟨by rw [HE.out], Fr.refl _⟩
set_option maxRecDepth 512
def stripeL (l : List UInt8) (k m c a : Nat) : List UInt8 := putsL (partsS l c a k) ++ putsL (parL m (partsS l c a k) c)
def layL (l : List UInt8) (k m c : Nat) : Nat → List UInt8
 | 0 => []
 | s + 1 => layL l k m c s ++ stripeL l k m c (s * (k * c))
theorem parL_len (m : Nat) (ds : List (List UInt8)) (L : Nat) : (parL m ds L).length = m := timesL_len _ _ _ _ _
theorem parL_all (m : Nat) (ds : List (List UInt8)) (L : Nat) (hl : ∀ p ∈ ds, p.length = L) : ∀ p ∈ parL m ds L, p.length = L := by
 intro p hp
 unfold parL timesL at hp
 simp only [List.mem_map] at hp
 obtain ⟨i, _, rfl⟩ := hp
 exact rowT_len _ _ _ _ _ _ hl (Nat.le_refl _)
theorem stripeL_len (l : List UInt8) (k m c a : Nat) : (stripeL l k m c a).length = (k + m) * (c + 4) := by
 unfold stripeL
 rw [List.length_append, putsL_len _ c (partsS_all l c a k), putsL_len _ c (parL_all m _ c (partsS_all l c a k)), partsS_len, parL_len, Nat.add_mul]
theorem layL_len (l : List UInt8) (k m c s : Nat) : (layL l k m c s).length = s * ((k + m) * (c + 4)) := by
 induction s with
 | zero => simp [layL]
 | succ s ih => rw [layL, List.length_append, ih, stripeL_len]; generalize (k + m) * (c + 4) = z; rw [Nat.add_mul, Nat.one_mul]
theorem strN_lt (k c n : Nat) (h : 0 < k * c) (s : Nat) : s < strN k c n ↔ s * (k * c) < n := by
 unfold strN
 rw [Nat.lt_iff_add_one_le, Nat.le_div_iff_mul_le h, Nat.add_mul, Nat.one_mul]
 omega
set_option maxRecDepth 100000
theorem RLay_any (k m c : Nat) (v : Value) (l : List UInt8) (w : World) (hv : See w eB v l) (hk0 : 1 ≤ k) (hkm : k + m ≤ 255) (hc0 : 1 ≤ c) (hc : c ≤ 4096) (hl : l.length ≤ 1000000) (hz : strN k c l.length * ((k + m) * (c + 4)) ≤ 16777216) :
    Calls Tryz.prog 39 #[N k, N m, N c, v] w fun e w' => ∃ v', e = .returned (.tuple #[v', .int .i64 0]) ∧ Ow w' w.heap.size eB v' (layL l k m c (strN k c l.length)) ∧ Fr w w' := by
  obtain ⟨va, vc, hva, hv1, hv2, hv3⟩ := hv.shape
  subst hva
  unfold maxLen at hv2
  have HS := hid (RSize_any k m c l.length hk0 hkm hc0 hc)
  rw [(sizeV_cases k m c l.length).1 (by omega) |>.1 hz] at HS
  have HP := hid (fun W dv hs ds (h : Sees2 W eHB eB dv hs ds) (h1 : ds.length = k) (h2 : ∀ p ∈ ds, p.length = c) => RParity_any m dv hs ds c W h (by omega) (by omega) h2 (by omega))
  have HPut := hid (fun W pv p (h : See W eB pv p) (h2 : p.length ≤ 1000000) => RPut_any pv p W h h2)
  have hS0 : 1 * 1 ≤ k * c := Nat.mul_le_mul hk0 hc0
  have hS2 : k * c ≤ 255 * 4096 := Nat.mul_le_mul (by omega) hc
  have hwkc := wrap_mul k c _ hS2 (by omega)
  go_enter Tryz.func39, Tryz.ntmps39
  go_wp2_with fail
  refine (HS.out _).mono ?_
  rintro e w1 ⟨rfl, hf1⟩
  go_wp2_with fail
  have hstr := strN_lt k c l.length (by omega)
  have HStr := hid hstr
  clear hstr HS
  generalize hN : strN k c l.length = sN at *
  have HN := hid hN
  clear hN
  have hput : ∀ p : List UInt8, (putB p).length = p.length + 4 := putB_len
  have HputL := hid hput
  clear hput
  go_loopw [12, 13] (fun ov av wr => ∃ s : Nat, s ≤ sN ∧ av = N (s * (k * c)) ∧ Ow wr w.heap.size eB ov (layL l k m c s) ∧ Fr w wr) (fun _ av _ => l.length + k * c - (intOf av).toNat)
  case atStart => exact ⟨0, Nat.zero_le _, by simp, Ow.nil, hf1⟩
  case round =>
    clear hf1
    obtain ⟨s, hs, rfl, hout, hf⟩ := hrel
    by_cases hlt : s < sN
    · have hA : s * (k * c) < l.length := (HStr.out s).1 hlt
      have HNext : Hid ((s + 1) * (k * c) = s * (k * c) + k * c) := by show _ = _; rw [Nat.add_mul, Nat.one_mul]
      have HLay : Hid (layL l k m c (s + 1) = layL l k m c s ++ stripeL l k m c (s * (k * c))) := rfl
      have HLl : Hid ((layL l k m c s).length + (k + m) * (c + 4) ≤ 16777216) := by
        show _ ≤ _
        rw [layL_len]
        have h1 := Nat.mul_le_mul_right ((k + m) * (c + 4)) (show s + 1 ≤ sN by omega)
        rw [Nat.add_mul, Nat.one_mul] at h1
        omega
      generalize hAe : s * (k * c) = A at *
      have hA' : (A : Int) < l.length := by omega
      have hwW := hf.size
      generalize wr = W at *
      generalize layL l k m c s = lay at *
      clear hAe
      go_wp2_with fail
      go_loopw [12, 14, 15] (fun ov dv iv wr => ∃ (i : Nat) (ps : List Hd), i ≤ k ∧ iv = N i ∧ Ow wr w.heap.size eB ov (lay ++ putsL (partsS l c A i)) ∧ Ow wr W.heap.size eHB dv ps ∧ RowsA wr W.heap.size eB ps (partsS l c A i) ov ∧ W.heap.size ≤ wr.heap.size ∧ Fr w wr) (fun _ _ iv _ => k - (intOf iv).toNat)
      case atStart => exact ⟨0, [], Nat.zero_le _, rfl, by simpa [putsL, partsS] using hout, Ow.nil, RowsA.nil, Nat.le_refl _, hf⟩
      case round =>
        clear hout hf
        obtain ⟨i, ps, hi, rfl, hout, hdat, hrows, hxs, hf⟩ := hrel
        by_cases hik : i < k
        · have hik' : (i : Int) < k := by omega
          have hBd : i * c + c ≤ k * c := by
            have := Nat.mul_le_mul_right c (show i + 1 ≤ k by omega)
            rw [Nat.add_mul, Nat.one_mul] at this; exact this
          have hwB := wrap_mul i c (255 * 4096) (Nat.mul_le_mul (by omega) hc) (by omega)
          have hwB2 : IntKind.i64.wrap (((i : Int) + 1) * (c : Int)) = ((i * c : Nat) : Int) + c := by
            have h1 := wrap_mul (i + 1) c (255 * 4096) (Nat.mul_le_mul (by omega) hc) (by omega)
            rw [show ((i + 1 : Nat) : Int) = (i : Int) + 1 by omega] at h1
            rw [h1, Nat.add_mul, Nat.one_mul]; omega
          have HParts : Hid (partsS l c A (i + 1) = partsS l c A i ++ [cutP l (A + i * c) c]) := partsS_snoc l c A i
          have HPl : Hid ((partsS l c A i).length = i) := partsS_len l c A i
          have HOl : Hid ((lay ++ putsL (partsS l c A i)).length = lay.length + i * (c + 4)) := by show _ = _; rw [List.length_append, putsL_len _ c (partsS_all l c A i), partsS_len]
          have hOb : i * (c + 4) + (c + 4) ≤ (k + m) * (c + 4) := by
            have := Nat.mul_le_mul_right (c + 4) (show i + 1 ≤ k + m by omega)
            rw [Nat.add_mul, Nat.one_mul] at this; exact this
          generalize i * (c + 4) = ob at *
          generalize (k + m) * (c + 4) = lb at *
          generalize hBe : i * c = B at *
          clear hBe
          generalize wr = W2 at *
          have hwA : IntKind.i64.wrap ((A : Int) + B) = (A : Int) + B := IntWalk.i64_in _ (by omega)
          have hwA2 : IntKind.i64.wrap ((A : Int) + ((B : Int) + c)) = (A : Int) + ((B : Int) + c) := IntWalk.i64_in _ (by omega)
          have hwk := hwkc
          clear hwkc
          have HWK := hid hwk
          clear hwk
          go_wp2_with fail
          go_loopw [16, 17] (fun pv xv wr => ∃ t : Nat, t ≤ c ∧ xv = .int .i64 ((A : Int) + B + t) ∧ Ow wr W2.heap.size eB pv (cutP l (A + B) t) ∧ Fr W2 wr) (fun _ xv _ => ((A : Int) + B + c - intOf xv).toNat)
          case atStart => exact ⟨0, Nat.zero_le _, by simp, Ow.nil, Fr.refl W2⟩
          case round =>
            obtain ⟨t, ht, rfl, hp, hfp⟩ := hrel
            have x0 : (0 : Int) ≤ (A : Int) + B + t := by omega
            have HCl : Hid ((cutP l (A + B) t).length = t) := cutP_len _ _ _
            by_cases htc : t < c
            · have htc' : (A : Int) + B + t < (A : Int) + ((B : Int) + c) := by omega
              have HC : Hid (cutP l (A + B) (t + 1) = cutP l (A + B) t ++ [l.getD (A + B + t) 0]) := cutP_snoc _ _ _
              have hc1 : (cutP l (A + B) t).length + 1 ≤ 2147483648 := by rw [HCl.out]; omega
              by_cases hin : A + B + t < l.length
              · have hin' : (A : Int) + B + t < l.length := by omega
                obtain ⟨b, off, cap, hv2, e1⟩ := ((hv.fr hf).fr hfp).cell1 (fun c => Fk.u8 c) rfl (A + B + t) hin
                rw [← getD_at l (A + B + t) 0 hin] at e1
                have xn : ((A : Int) + B + t).toNat = A + B + t := by omega
                generalize l.getD (A + B + t) 0 = ch at *
                cases hv2
                go_wp2_with (at_builtin; refine wpList_app1 eB rfl (.tmp 71) (.tmp 73) 22 rfl Tryz.underlying22 W2.heap.size rfl hp [ch] _ _ _ rfl rfl rfl hc1 hfp.size ?_)
                intro v' w4 hap
                go_wp2_with fail
                go_roundw
                case rel => exact ⟨t + 1, by omega, by go_num, by rw [HC.out]; exact hap.own, hap.below hp hfp (Nat.le_refl _) hfp.size⟩
                case measure => simp [intOf]; omega
              · have hin' : ¬ (A : Int) + B + t < l.length := by omega
                have HG : Hid (l.getD (A + B + t) 0 = 0) := by show _ = _; rw [List.getD_eq_getElem?_getD, List.getElem?_eq_none (by omega)]; rfl
                go_wp2_with (at_builtin; refine wpList_app1 eB rfl (.tmp 71) (.tmp 73) 22 rfl Tryz.underlying22 W2.heap.size rfl hp [0] _ _ _ rfl rfl rfl hc1 hfp.size ?_)
                intro v' w4 hap
                go_wp2_with fail
                go_roundw
                case rel => exact ⟨t + 1, by omega, by go_num, by rw [HC.out, HG.out]; exact hap.own, hap.below hp hfp (Nat.le_refl _) hfp.size⟩
                case measure => simp [intOf]; omega
            · obtain rfl : t = c := by omega
              have htn : ¬ ((A : Int) + B + t < (A : Int) + ((B : Int) + t)) := by omega
              obtain ⟨pa, pc, hpv⟩ := hp.shape'
              rw [HCl.out] at hpv
              subst hpv
              have hpl : (cutP l (A + B) t).length ≤ 1000000 := by rw [HCl.out]; omega
              have houtq := hout.fr hfp
              have hdatq := hdat.fr hfp
              have hrowq := hrows.fr hfp
              have hps : ps.length + 1 ≤ 2147483648 := by have := hrows.1; rw [HPl.out] at this; omega
              have hWs : W.heap.size ≤ wr.heap.size := Nat.le_trans hxs hfp.size
              have hapt := apart_of hout hp (Nat.le_refl _)
              go_wp2_with (at_builtin; refine wpList_app1 eHB rfl (.tmp 75) (.tmp 77) 60 rfl Tryz.underlying60 W.heap.size rfl hdatq [⟨pa, t, pc⟩] _ _ _ rfl rfl rfl hps hWs ?_)
              intro dv2 w4 hapd
              have hT : eHB.e ≠ eB.e := by decide
              have hp4 := own_app hp hdatq hapd hT
              have hout4 := own_app houtq hdatq hapd hT
              have hrow4 := hrowq.beside hdatq hapd hT
              have hd4 := hapd.own
              have hf4 : Fr w w4 := hapd.below hdatq (hf.trans hfp) hwW (hf.trans hfp).size
              have hWs4 : W.heap.size ≤ w4.heap.size := Nat.le_trans hWs hapd.size
              clear hapd hdatq hrowq houtq hp
              go_wp2_with fail
              refine (HPut.out _ _ _ hp4.see hpl).mono ?_
              rintro e w5 ⟨v5, rfl, own5, hf5⟩
              have hout5 := hout4.fr hf5
              have hxo : (lay ++ putsL (partsS l t A i)).length + (putB (cutP l (A + B) t)).length ≤ 2147483648 := by
                have := HLl.out; rw [HOl.out, HputL.out, HCl.out]; omega
              go_wp2_with (at_builtin; refine wpList_app eB rfl (.tmp 79) (.tmp 81) 22 rfl Tryz.underlying22 w.heap.size rfl hout5 _ _ rfl own5.see hxo (hf4.trans hf5).size ?_)
              intro ov6 w6 hap6
              have hap4 := (hrow4.fr hf5).snoc (x := ⟨pa, t, pc⟩) (hp4.fr hf5 |>.rebase hxs) hapt
              have hd6 := own_app2 (hd4.fr hf5) hout5 hap6 hT
              go_wp2_with fail
              go_roundw
              case rel =>
                refine ⟨i + 1, _, by omega, by go_num, ?_, hd6, ?_, Nat.le_trans hWs4 (Nat.le_trans hf5.size hap6.size), hap6.below hout5 (hf4.trans hf5) (Nat.le_refl _) (hf4.trans hf5).size⟩
                · rw [HParts.out, putsL_snoc]; first | exact hap6.own | (rw [← List.append_assoc]; exact hap6.own)
                · rw [HParts.out]; exact hap4.app hap6
              case measure => simp [intOf]; omega
        · obtain rfl : i = k := by omega
          have hnk : ¬ ((i : Int) < i) := by omega
          have HPl : Hid ((partsS l c A i).length = i) := partsS_len l c A i
          have hpar := HP.out wr _ _ _ (hrows.sees2 hdat.see) HPl.out (partsS_all l c A i)
          have HPar := hid hpar
          have HOl : Hid ((lay ++ putsL (partsS l c A i)).length = lay.length + i * (c + 4)) := by show _ = _; rw [List.length_append, putsL_len _ c (partsS_all l c A i), partsS_len]
          have HLay2 : Hid (layL l i m c (s + 1) = (lay ++ putsL (partsS l c A i)) ++ putsL (parL m (partsS l c A i) c)) := by show _ = _; rw [HLay.out, stripeL, List.append_assoc]
          have HPal := hid (parL_all m _ c (partsS_all l c A i))
          have HPll := hid (parL_len m (partsS l c A i) c)
          generalize parL m (partsS l c A i) c = par at *
          generalize lay ++ putsL (partsS l c A i) = o1 at *
          clear hpar hdat hrows
          go_wp2_with fail
          refine HPar.out.mono ?_
          rintro e w3 ⟨v3, rfl, ps3, hown3, howns3, hf3⟩
          have hrow3 : RowsA w3 wr.heap.size eB ps3 par u12 := howns3.rows (fun b hb => (hout.lt b hb).2)
          have hout3 := hout.fr hf3
          obtain ⟨p3a, p3c, hv3⟩ := hown3.shape'
          have hp3l : ps3.length = m := by rw [howns3.1, HPll.out]
          rw [hp3l] at hv3
          have HP3l := hid hp3l
          clear hp3l
          subst hv3
          have hf33 := hf.trans hf3
          go_wp2_with fail
          generalize wr = W2 at *
          go_loopw [12, 21] (fun ov iv wr => ∃ j : Nat, j ≤ m ∧ iv = N j ∧ Ow wr w.heap.size eB ov (o1 ++ putsL (par.take j)) ∧ RowsA wr W2.heap.size eB ps3 par ov ∧ Ow wr W2.heap.size eHB (.slice p3a m p3c) ps3 ∧ Fr w wr) (fun _ iv _ => m - (intOf iv).toNat)
          case atStart => exact ⟨0, Nat.zero_le _, rfl, by simpa [putsL] using hout3, hrow3, hown3, hf33⟩
          case round =>
            clear hout3 hrow3 hown3 hf33
            obtain ⟨j, hj, rfl, hout, hrows, hown, hf⟩ := hrel
            by_cases hjm : j < m
            · have hjm' : (j : Int) < m := by omega
              have hj1 : j < ps3.length := by rw [HP3l.out]; exact hjm
              have hj2 : j < par.length := by rw [HPll.out]; exact hjm
              have hrow := hrows.2 j hj1 hj2
              obtain ⟨b, off, cap, hv1, e1⟩ := hown.see.cell1 (fun (h : Hd) => h.v) rfl j hj1
              have HTk : Hid (putsL (par.take (j + 1)) = putsL (par.take j) ++ putB par[j]) := by show _ = _; rw [List.take_succ_eq_append_getElem hj2, putsL_snoc]
              have HQl : Hid ((putsL (par.take j)).length = j * (c + 4)) := by
                show _ = _
                rw [putsL_len _ c (fun p hp => HPal.out p (List.mem_of_mem_take hp)), List.length_take, Nat.min_eq_left (by omega)]
              have HRl : Hid (par[j].length = c) := HPal.out _ (List.getElem_mem _)
              have hjb : (i + j) * (c + 4) + (c + 4) ≤ (i + m) * (c + 4) := by
                have := Nat.mul_le_mul_right (c + 4) (show i + j + 1 ≤ i + m by omega)
                rw [Nat.add_mul (i + j) 1, Nat.one_mul] at this; exact this
              have hjb2 : (i + j) * (c + 4) = i * (c + 4) + j * (c + 4) := Nat.add_mul _ _ _
              have hrp := hrow.1
              obtain ⟨ra, rc, hrv⟩ := hrp.shape'
              rw [HRl.out] at hrv
              rw [HP3l.out] at hv1
              generalize ps3[j] = h at *
              obtain ⟨ha, hn, hcc⟩ := h
              simp only [Hd.v, Value.slice.injEq] at hrv
              obtain ⟨rfl, rfl, rfl⟩ := hrv
              simp only [Hd.v] at e1 hrp
              cases hv1
              have i1 : (0 : Int) ≤ j := by omega
              have HC := hid (HPut.out wr _ _ hrp.see (by rw [HRl.out]; omega))
              generalize par[j] = pj at *
              go_wp2_with fail
              refine HC.out.mono ?_
              rintro e w5 ⟨v5, rfl, own5, hf5⟩
              have hout5 := hout.fr hf5
              have hxo : (o1 ++ putsL (par.take j)).length + (putB pj).length ≤ 2147483648 := by
                have h1 := HLl.out
                have h2 := HOl.out
                rw [List.length_append, HputL.out, HRl.out, HQl.out]; omega
              go_wp2_with (at_builtin; refine wpList_app eB rfl (.tmp 95) (.tmp 100) 22 rfl Tryz.underlying22 w.heap.size rfl hout5 _ _ rfl own5.see hxo (hf.trans hf5).size ?_)
              intro ov6 w6 hap6
              have hT : eHB.e ≠ eB.e := by decide
              have hrow6 := (hrows.fr hf5).app hap6
              have hown6 := own_app2 (hown.fr hf5) hout5 hap6 hT
              go_wp2_with fail
              go_roundw
              case rel => exact ⟨j + 1, by omega, by go_num, by rw [HTk.out]; first | exact hap6.own | (rw [← List.append_assoc]; exact hap6.own), hrow6, hown6, hap6.below hout5 (hf.trans hf5) (Nat.le_refl _) (hf.trans hf5).size⟩
              case measure => simp [intOf]; omega
            · obtain rfl : j = m := by omega
              have hnj : ¬ ((j : Int) < j) := by omega
              rw [List.take_of_length_le (by rw [HPll.out]; exact Nat.le_refl _), ← HLay2.out] at hout
              clear hown hrows
              have hwkc2 := hwkc
              have HAN : Hid ((A : Int) + ((i * c : Nat) : Int) = ((((s + 1) * (i * c)) : Nat) : Int)) := by show _ = _; rw [HNext.out]; simp
              have hwA : IntKind.i64.wrap ((A : Int) + ((i * c : Nat) : Int)) = (A : Int) + ((i * c : Nat) : Int) := IntWalk.i64_in _ (by omega)
              have hzN : ∃ zN : Nat, ((i * c : Nat) : Int) = (zN : Int) ∧ i * c = zN := ⟨_, rfl, rfl⟩
              obtain ⟨zN, hz1, hz2⟩ := hzN
              rw [hz1] at hwA HAN hwkc hwkc2
              have HZ := hid hz2
              clear hz1 hz2
              go_wp2_with fail
              go_roundw
              case rel => exact ⟨s + 1, by omega, by rw [HAN.out], hout, hf⟩
              case measure => have := HZ.out; simp [intOf]; omega
    · obtain rfl : s = sN := by omega
      have hA : l.length ≤ s * (k * c) := by have := fun h => (HStr.out s).2 h; omega
      generalize s * (k * c) = A at *
      have hnA : ¬ ((A : Int) < l.length) := by omega
      go_wp2_with fail
      obtain ⟨oa, oc, hov⟩ := hout.shape'
      subst hov
      exact bodyPost_ret (v := .tuple #[.slice oa (layL l k m c s).length oc, .int .i64 0]) (by simp [results, Tryz.results39, go_sem, *]) rfl ⟨_, rfl, by rw [HN.out]; exact hout, hf⟩
set_option maxRecDepth 512
end Go.Proofs.YtfhdgenlpmlajaaGreatDoor
