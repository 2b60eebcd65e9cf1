/- Parts of the proof of ThreeMends: M7 Mr1. -/
import Derived.Test.YtfhdgenlpmlajaaGreatDoorM32
import Derived.Test.YtfhdgenlpmlajaaGreatDoorM16
set_option linter.unusedVariables false
set_option linter.unusedSectionVars false
set_option linter.unusedSimpArgs false
set_option maxHeartbeats 8000000
namespace Go.Proofs.YtfhdgenlpmlajaaGreatDoor
open Go.RowKit Go.Fk
theorem aug_left (M : List UInt8) (n : Nat) (hM : M.length = n * n) : preL n (augF (cellF M n) n) (n * n) = M := by
 rw [← preL_cellF M n n hM]
 conv => lhs; rw [preL_cellF M n n hM]
 refine preL_congr n _ _ _ fun t ht => ?_
 have hn : 0 < n := by rcases Nat.eq_zero_or_pos n with e | e; (subst e; simp at ht); exact e
 unfold augF
 rw [if_pos (Nat.mod_lt t hn)]
theorem aug_right (M : List UInt8) (n : Nat) : preL n (fun r j => augF (cellF M n) n r (n + j)) (n * n) = idL n := by
 unfold idL
 refine preL_congr n _ _ _ fun t ht => ?_
 unfold augF oneU
 rw [if_neg (by omega), show n + t % n - n = t % n by omega]
 by_cases e : t / n = t % n
 · rw [if_pos e, if_pos e.symm]
 · rw [if_neg e, if_neg (fun h => e h.symm)]
set_option maxRecDepth 100000
theorem working_any (n : Nat) (M : List UInt8) (v : Value) (w : World) (hs : See w eB v M) (hM : M.length = n * n) (h1 : 1 ≤ n) (hn : n ≤ 255) :
  Calls Tryz.prog 169 #[.agg #[N n, N n, v]] w fun e w' => ∃ B g1 cap1 g2 cap2, e = .returned (.pointer (some ⟨B, 0, none⟩)) ∧ PairAt w' B w.heap.size n g1 cap1 g2 cap2 (augF (cellF M n) n) ∧ Fr w w' ∧ w.heap.size ≤ B := by
 have hnn : n * n ≤ 255 * 255 := Nat.mul_le_mul hn hn
 have h11 : 1 * 1 ≤ n * n := Nat.mul_le_mul h1 h1
 have HC := hid (fun W (h : Fr w W) => BClone_any v M W (hs.fr h) (by omega))
 have HM := hid (fun W => made1_any n h1 hn W)
 have HL := hid (aug_left M n hM)
 have HR := hid (aug_right M n)
 have hidl : (idL n).length = n * n := preL_len _ _ _
 have HIl := hid hidl
 have hM0 : M ≠ [] := by intro e; subst e; simp at hM; omega
 have hI0 : idL n ≠ [] := by intro e; rw [e] at hidl; simp at hidl; omega
 obtain ⟨a, cap, hva, _⟩ := hs.shape
 rw [hM] at hva
 subst hva
 have HMl := hid hM
 clear hM
 clear hidl
 generalize augF (cellF M n) n = A at *
 have hb0 : (w.alloc (.cells #[N n, N n, .slice a (n * n) cap] 105)).heap[w.heap.size]? = some (.cells #[N n, N n, .slice a (n * n) cap] 105 (0, 0)) := heap_new _ _ _ rfl
 have hf0 : Fr w (w.alloc (.cells #[N n, N n, .slice a (n * n) cap] 105)) := (Fr.refl w).alloc _
 go_enter Tryz.func169, Tryz.ntmps169
 go_wp2_with fail
 refine (HC.out _ hf0).mono ?_
 rintro e w1 ⟨v1, rfl, hO1, hf1⟩
 obtain ⟨g1, cap1, rfl, hg1, hg1s, _, _⟩ := hO1.atHead hM0
 have hb1 := hf1.heap hb0
 rw [HMl.out] at hO1
 have hf01 := hf0.trans hf1
 have hne : g1 ≠ w.heap.size := by have : w.heap.size + 1 ≤ g1 := by simpa using hg1
                                   omega
 have hst := setCell_chg w1 ⟨w.heap.size, 2, none⟩ (.slice (some ⟨g1, 0, none⟩) (n * n) cap1)
 have hb2 := heap_setCell_own hb1 2 (.slice (some ⟨g1, 0, none⟩) (n * n) cap1)
 have hz2 := frozen_of_heap hb1 2
 have hk2 : w1.cell? ⟨w.heap.size, 2, none⟩ = some (.slice a (n * n) cap) := by rw [cell_of_heap hb1]; rfl
 have hO2 := hO1.chg hst fun k hk e => by simp [Value.ownBlock] at hk; have e : k = w.heap.size := e; omega
 have hf02 : Fr w (w1.setCell ⟨w.heap.size, 2, none⟩ (.slice (some ⟨g1, 0, none⟩) (n * n) cap1)) := set_below hf01 (Nat.le_refl _) hf01.size
 rw [HMl.out]
 go_upto_region 2 with fail
 have hO2b := hO2.rebase (b := w.heap.size) (by simp)
 have hlt2 := (hO2.lt g1 rfl).2
 generalize w1.setCell ⟨w.heap.size, 2, none⟩ (.slice (some ⟨g1, 0, none⟩) (n * n) cap1) = w2 at *
 have c0 : w2.cell? ⟨w.heap.size, 0, none⟩ = some (N n) := by rw [cell_of_heap hb2]; rfl
 have c1 : w2.cell? ⟨w.heap.size, 1, none⟩ = some (N n) := by rw [cell_of_heap hb2]; rfl
 have c2 : w2.cell? ⟨w.heap.size, 2, none⟩ = some (.slice (some ⟨g1, 0, none⟩) (n * n) cap1) := by rw [cell_of_heap hb2]; rfl
 generalize hbb : w.heap.size = b at *
 clear hk2 hb0 hf0 hf1 hO1 hb1 hst hz2 hO2 hs hf01
 go_region_held3 (fun w' => w'.cell? ⟨b, 0, none⟩ = some (N n) ∧ w'.cell? ⟨b, 1, none⟩ = some (N n) ∧ w'.cell? ⟨b, 2, none⟩ = some (.slice (some ⟨g1, 0, none⟩) (n * n) cap1))
  (first | go_keep)
  ((first
   | (go_at_call 99; refine (HM.out _).mono ?_; rintro e w3 ⟨v3, rfl, hO3, hf3⟩; rw [idPre_all] at hO3; obtain ⟨g2, cap2, hv3, hg2, hg2s, _, _⟩ := hO3.atHead hI0; rw [HIl.out] at hv3; subst hv3; unfold idV; have d0 := hf3.cell c0; have d1 := hf3.cell c1; have d2 := hf3.cell c2)))
 have hf23 : Fr w2 w3 := (Fr.refl w2).drew.trans hf3
 have hf03 := hf02.trans hf23
 have hO3a := (hO2b.fr hf23).fr ((Fr.refl w3).alloc (.cells #[N n, N n, .slice (some ⟨g1, 0, none⟩) (n * n) cap1, N n, N n, .slice (some ⟨g2, 0, none⟩) (n * n) cap2] 236))
 have hO3b := hO3.fr ((Fr.refl w3).alloc (.cells #[N n, N n, .slice (some ⟨g1, 0, none⟩) (n * n) cap1, N n, N n, .slice (some ⟨g2, 0, none⟩) (n * n) cap2] 236))
 have hsb : b ≤ w2.heap.size := by rw [← hbb]; exact hf02.size
 have hsz3 : w2.heap.size ≤ w3.heap.size := hf23.size
 have hg2' : w2.heap.size ≤ g2 := hg2
 go_wp2_with fail
 go_ret
 refine ⟨w3.heap.size, g1, cap1, g2, cap2, rfl, ⟨heap_new _ _ _ rfl, ?_, ?_, by omega⟩, hf03.alloc _, by omega⟩
 · rw [HL.out, hbb]; exact hO3a
 · rw [HR.out, hbb]; exact hO3b.rebase hsb
theorem Inverse_any (n : Nat) (M : List UInt8) (v : Value) (w : World) (hs : See w eB v M) (hM : M.length = n * n) (h1 : 1 ≤ n) (hn : n ≤ 255) (hG : Goes M n) :
  Calls Tryz.prog 140 #[.agg #[N n, N n, v]] w fun e w' => ∃ u, e = .returned (.tuple #[.agg #[N n, N n, u], .int .i64 0]) ∧ Ow w' w.heap.size eB u (invL M n) ∧ Fr w w' := by
 obtain ⟨a, cap, hva, _⟩ := hs.shape
 rw [hM] at hva
 subst hva
 have HM := hid (MMay_any n n a cap hn hn)
 have HWk := hid (fun W (h : Fr w W) => working_any n M _ W (hs.fr h) hM h1 hn)
 have HI : Hid (invL M n = preL n (fun r j => stG (augF (cellF M n) n) n n r (n + j)) (n * n)) := rfl
 have HGo : Hid (∀ i, i < n → HasPiv (stG (augF (cellF M n) n) n i) n i) := hG
 have HS : Hid (∀ i, stepF (stG (augF (cellF M n) n) n i) n i = stG (augF (cellF M n) n) n (i + 1)) := fun _ => rfl
 have HZ : Hid (stG (augF (cellF M n) n) n 0 = augF (cellF M n) n) := rfl
 rw [← HZ.out] at HWk
 generalize stG (augF (cellF M n) n) n = St at *
 generalize invL M n = IV at *
 clear HZ hG
 generalize hnn : n * n = nn at *
 have hb0 : ((w.alloc (.cells #[N n, N n, .slice a nn cap] 105)).alloc (.cells #[.int .i64 0, .int .i64 0, .slice none 0 0] 105)).heap[w.heap.size]? = some (.cells #[N n, N n, .slice a nn cap] 105 (0, 0)) := by
  rw [heap_old _ _ _ (by simp), heap_new _ _ _ rfl]
 have hb1 : ((w.alloc (.cells #[N n, N n, .slice a nn cap] 105)).alloc (.cells #[.int .i64 0, .int .i64 0, .slice none 0 0] 105)).heap[w.heap.size + 1]? = some (.cells #[.int .i64 0, .int .i64 0, .slice none 0 0] 105 (0, 0)) := heap_new _ _ _ (by simp)
 have hf0 : Fr w ((w.alloc (.cells #[N n, N n, .slice a nn cap] 105)).alloc (.cells #[.int .i64 0, .int .i64 0, .slice none 0 0] 105)) := ((Fr.refl w).alloc _).alloc _
 have hs0 : ((w.alloc (.cells #[N n, N n, .slice a nn cap] 105)).alloc (.cells #[.int .i64 0, .int .i64 0, .slice none 0 0] 105)).heap.size = w.heap.size + 2 := by simp
 go_enter Tryz.func140, Tryz.ntmps140
 go_upto_region 1 with fail
 generalize (w.alloc (.cells #[N n, N n, .slice a nn cap] 105)).alloc (.cells #[.int .i64 0, .int .i64 0, .slice none 0 0] 105) = w0 at *
 have k0 : w0.cell? ⟨w.heap.size, 0, none⟩ = some (N n) := by rw [cell_of_heap hb0]; rfl
 have k1 : w0.cell? ⟨w.heap.size, 1, none⟩ = some (N n) := by rw [cell_of_heap hb0]; rfl
 have k2 : w0.cell? ⟨w.heap.size, 2, none⟩ = some (.slice a nn cap) := by rw [cell_of_heap hb0]; rfl
 generalize hb : w.heap.size = b at *
 go_wp2_with fail
 refine (HM.out _).mono ?_
 rintro e w1 ⟨rfl, hf1⟩
 have c0 := hf1.cell k0
 have c1 := hf1.cell k1
 have c2 := hf1.cell k2
 have hf01 := hf0.trans hf1
 have hr1 := hf1.heap hb1
 clear k0 k1 k2 hf0 hb0 hb1
 go_wp2_with fail
 refine (HWk.out _ hf01).mono ?_
 rintro e w2 ⟨B, g1, cap1, g2, cap2, rfl, hP, hf2, hB⟩
 have k0 := hf2.cell c0
 have hr2 := hf2.heap hr1
 have hf02 := hf01.trans hf2
 have hs1 : b + 2 ≤ w1.heap.size := by have := hf1.size; omega
 clear c0 c1 c2 hr1 hf1 hf01 HM HWk hf2
 go_wp2_with fail
 go_loopw [21] (fun iv wr => ∃ i : Nat, i ≤ n ∧ iv = N i ∧ PairAt wr B w1.heap.size n g1 cap1 g2 cap2 (St i) ∧ wr.heap[b + 1]? = some (.cells #[.int .i64 0, .int .i64 0, .slice none 0 0] 105 (0, 0)) ∧ Fr w wr) (fun iv _ => n - (intOf iv).toNat)
 case atStart => exact ⟨0, Nat.zero_le _, rfl, hP, hr2, hf02⟩
 case round =>
  clear hP hr2 hf02 k0
  obtain ⟨i, hi, rfl, hP, hr, hf⟩ := hrel
  by_cases hlt : i < n
  · have hlt' : (i : Int) < n := by omega
    have HC := hid (clear_any B w1.heap.size n i g1 cap1 g2 cap2 (St i) wr hP hlt hn (HGo.out i hlt))
    rw [HS.out] at HC
    go_wp2_with fail
    refine (HC.out).mono ?_
    rintro e w3 ⟨rfl, hP3, hc3⟩
    have hg1 := (hP.o1.lt g1 rfl).1
    have hg2 := (hP.o2.lt g2 rfl).1
    have hr3 := hc3.heap hr (fun e => by omega)
    have hf3 : Fr w w3 := Chg.below hf hc3 hf.size (fun k e => by omega)
    clear hP hr hf hc3 HC
    go_wp2_with fail
    go_roundw
    case rel => exact ⟨i + 1, by omega, by go_num, hP3, hr3, hf3⟩
    case measure => simp [intOf]; omega
  · obtain rfl : n = i := by omega
    have hnl : ¬ ((n : Int) < n) := by omega
    have k0 := hP.w2.c0
    have k1 := hP.w2.c1
    have k2 := hP.w2.c2
    have ho := hP.o2
    rw [hnn] at k2 ho
    rw [← HI.out] at ho
    have hinf : (Tryz.prog.info? 105).map (·.size) = some 3 := by kernel_rfl
    have hone : (#[N n, N n, .slice (some ⟨g2, 0, none⟩) nn cap2] : Array Value).all (·.oneCell') = true := by
     rw [List.all_toArray]; rfl
    have q0 := cell_setRow_same wr (b + 1) 0 _ #[N n, N n, .slice (some ⟨g2, 0, none⟩) nn cap2] _ _ hr
    have q1 := cell_setRow_same wr (b + 1) 1 _ #[N n, N n, .slice (some ⟨g2, 0, none⟩) nn cap2] _ _ hr
    have q2 := cell_setRow_same wr (b + 1) 2 _ #[N n, N n, .slice (some ⟨g2, 0, none⟩) nn cap2] _ _ hr
    have hset : Ow (wr.setRow (b + 1) #[N n, N n, .slice (some ⟨g2, 0, none⟩) nn cap2]) b eB (.slice (some ⟨g2, 0, none⟩) nn cap2) IV := (ho.chg (setRow_chg wr (b + 1) _) fun q hq => by have := (ho.lt q hq).1; show ¬ q = b + 1; omega).rebase (by omega)
    have hfin : Fr w (wr.setRow (b + 1) #[N n, N n, .slice (some ⟨g2, 0, none⟩) nn cap2]) := Chg.below hf (setRow_chg wr (b + 1) _) hf.size (fun q hq => by rw [hq]; omega)
    clear hP HI HS HGo ho
    go_wp2_with (refine wpList_store_row rfl 105 (.tmp 2) (.tmp 35) rfl (b + 1) #[N n, N n, .slice (some ⟨g2, 0, none⟩) nn cap2] rfl rfl 105 _ hr hinf rfl hone ?_)
    exact bodyPost_ret (v := .tuple #[.agg #[N n, N n, .slice (some ⟨g2, 0, none⟩) nn cap2], .int .i64 0]) (by simp [results, Tryz.results140, go_sem, *]) rfl ⟨_, rfl, hset, hfin⟩
set_option maxRecDepth 512
set_option maxRecDepth 100000
theorem RMMay_any (R C : Nat) (a : Option Addr) (cap : Nat) (hR : R ≤ 255) (hC : C ≤ 255) (w : World) :
  Calls Tryz.prog 145 #[.agg #[N R, N C, .slice a (R * C) cap]] w fun e w' => e = .returned (.bool true) ∧ Fr w w' := by
 have hw := wrap_nmul R C 255 255 hR hC (by omega)
 generalize R * C = L at *
 have h1 : (0 : Int) ≤ R := by omega
 have h2 : (R : Int) ≤ 255 := by omega
 have h3 : (0 : Int) ≤ C := by omega
 have h4 : (C : Int) ≤ 255 := by omega
 go_enter Tryz.func145, Tryz.ntmps145
 go_wp2_with fail
 go_ret
 exact ⟨rfl, (Fr.refl w).alloc _⟩
theorem RIdentity_any (n : Nat) (hk : 1 ≤ n) (hn : n ≤ 255) (w : World) :
  Calls Tryz.prog 108 #[N n] w fun e w' => ∃ v, e = .returned (.tuple #[idV n v, .int .i64 0]) ∧ Ow w' w.heap.size eB v (idL n) ∧ Fr w w' := by
 have hnn : n * n ≤ 255 * 255 := Nat.mul_le_mul hn hn
 have hw := wrap_nmul n n 255 255 hn hn (by omega)
 have HLen := hid (fun t => preL_len n oneU t)
 have HAt : Hid (∀ t, preL n oneU (t + 1) = preL n oneU t ++ [oneU (t / n) (t % n)]) := fun t => by unfold preL; rw [List.range_succ, List.map_append]; rfl
 have HZ : Hid (preL n oneU 0 = []) := rfl
 have HA : Hid (idL n = preL n oneU (n * n)) := rfl
 have hn255 : ¬ (255 : Int) < n := by omega
 have hn0 : ¬ (n : Int) < 0 := by omega
 have hb0 : ((w.alloc (.cells #[.int .i64 0, .int .i64 0, .slice none 0 0] 105)).alloc (.cells #[N n, N n, .slice none 0 0] 105)).heap[w.heap.size]? = some (.cells #[.int .i64 0, .int .i64 0, .slice none 0 0] 105 (0, 0)) := by
  rw [heap_old _ _ _ (by simp), heap_new _ _ _ rfl]
 have hb1 : ((w.alloc (.cells #[.int .i64 0, .int .i64 0, .slice none 0 0] 105)).alloc (.cells #[N n, N n, .slice none 0 0] 105)).heap[w.heap.size + 1]? = some (.cells #[N n, N n, .slice none 0 0] 105 (0, 0)) := heap_new _ _ _ (by simp)
 have hf0 : Fr w ((w.alloc (.cells #[.int .i64 0, .int .i64 0, .slice none 0 0] 105)).alloc (.cells #[N n, N n, .slice none 0 0] 105)) := ((Fr.refl w).alloc _).alloc _
 have hs0 : ((w.alloc (.cells #[.int .i64 0, .int .i64 0, .slice none 0 0] 105)).alloc (.cells #[N n, N n, .slice none 0 0] 105)).heap.size = w.heap.size + 2 := by simp
 generalize hnm : n * n = nn at *
 go_enter Tryz.func108, Tryz.ntmps108
 go_upto_region 5 with fail
 generalize (w.alloc (.cells #[.int .i64 0, .int .i64 0, .slice none 0 0] 105)).alloc (.cells #[N n, N n, .slice none 0 0] 105) = w0 at *
 generalize hg : w.heap.size = g at *
 go_loopw [5] (fun iv wr => ∃ (i : Nat) (sv : Value), i ≤ nn ∧ iv = N i ∧ wr.heap[g]? = some (.cells #[.int .i64 0, .int .i64 0, .slice none 0 0] 105 (0, 0)) ∧ wr.heap[g + 1]? = some (.cells #[N n, N n, sv] 105 (0, 0)) ∧ Ow wr (g + 2) eB sv (preL n oneU i) ∧ Fr w wr ∧ g + 2 ≤ wr.heap.size) (fun iv _ => nn - (intOf iv).toNat)
 case atStart => exact ⟨0, _, Nat.zero_le _, rfl, hb0, hb1, by rw [HZ.out]; exact Ow.nil, hf0, by omega⟩
 case round =>
  clear hb0 hb1 hf0 hs0
  obtain ⟨i, sv, hi, rfl, h0, h1, hown, hf, hs⟩ := hrel
  by_cases hlt : i < nn
  · have hlt' : (i : Int) < nn := by omega
    have hdiv : (i : Int).tdiv n = ((i / n : Nat) : Int) := by rw [Int.tdiv_eq_ediv_of_nonneg (by omega)]; rfl
    have hmod : (i : Int).tmod n = ((i % n : Nat) : Int) := by rw [Int.tmod_eq_emod_of_nonneg (by omega)]; rfl
    have hnz : ¬ (n : Int) = 0 := by omega
    have hwd : IntKind.i64.wrap ((i / n : Nat) : Int) = ((i / n : Nat) : Int) := wrap_i64 _ (by have := Nat.div_le_self i n; omega)
    have hwm : IntKind.i64.wrap ((i % n : Nat) : Int) = ((i % n : Nat) : Int) := wrap_i64 _ (by have := Nat.mod_lt i hk; omega)
    have HStep := hid (HAt.out i)
    have hPl := HLen.out i
    have HC1 : Hid ((preL n oneU i).length + 1 ≤ 2147483648) := by show _ ≤ _; omega
    by_cases hd : i / n = i % n
    · have HO : Hid (oneU (i / n) (i % n) = 1) := by show _ = _; unfold oneU; rw [if_pos hd]
      rw [HO.out] at HStep
      have hdi : ((i / n : Nat) : Int) = ((i % n : Nat) : Int) := by rw [hd]
      obtain ⟨P2, hP2⟩ : ∃ q, q = preL n oneU (i + 1) := ⟨_, rfl⟩
      rw [← hP2] at HStep
      have HP2 := hid hP2
      clear hP2 hd HO hPl
      generalize i / n = qn at *
      generalize i % n = rn at *
      have e2 : wr.cell? ⟨g + 1, 2, none⟩ = some sv := by rw [cell_of_heap h1]; rfl
      have hneq : ∀ q, sv.ownBlock = some q → g + 2 ≤ q := fun q hq => (hown.lt q hq).1
      go_wp2_with fail
      go_quiet (fail)
      go_wp2_with (at_builtin; refine wpList_app1 eB rfl (.tmp 32) (.tmp 34) 22 rfl Tryz.underlying22 (g + 2) rfl (hown.fr ((Fr.refl wr).drewN _)) [1] _ _ _ rfl rfl rfl HC1.out hs ?_)
      intro v' w4 hap
      have own4 := hap.own
      rw [← HStep.out] at own4
      obtain ⟨va, vc, hv'⟩ := own4.shape'
      subst hv'
      have hownD := hown.fr ((Fr.refl wr).drewN 1)
      have k0 := hap.chg'.heap (show _ = _ from h0) (fun e => by have := hneq _ e; omega)
      have k1 := hap.chg'.heap (show _ = _ from h1) (fun e => by have := hneq _ e; omega)
      have hf4 : Fr w w4 := hap.below (hown.fr ((Fr.refl wr).drewN _)) (hf.drewN _) (by rw [hg]; omega) (hf.drewN _).size
      have hs4 : g + 2 ≤ w4.heap.size := Nat.le_trans hs hap.size
      have e3 : w4.cell? ⟨g + 1, 2, none⟩ = some sv := by rw [cell_of_heap k1]; rfl
      have e4 : w4.frozen? ⟨g + 1, 2, none⟩ = false := frozen_of_heap k1 2
      clear hap hown hownD
      go_wp2_with fail
      go_roundw
      case rel => exact ⟨i + 1, _, by omega, by go_num, by rw [Below.heap_setCell _ _ _ _ (by simp)]; exact k0, heap_setCell_own k1 2 _, by rw [← HP2.out]; exact own4.chg (setCell_chg w4 ⟨g + 1, 2, none⟩ _) (fun k hk e => (own4.ne_cells k1 (by decide)) (by rw [hk, show k = g + 1 from e])), Chg.below hf4 (setCell_chg w4 ⟨g + 1, 2, none⟩ _) hf4.size (fun i e => by have e : i = g + 1 := e; rw [hg]; omega), by simp [World.setCell]; omega⟩
      case measure => simp [intOf]; omega
    · have HO : Hid (oneU (i / n) (i % n) = 0) := by show _ = _; unfold oneU; rw [if_neg hd]
      rw [HO.out] at HStep
      have hdi : ¬ ((i / n : Nat) : Int) = ((i % n : Nat) : Int) := fun e => hd (by omega)
      obtain ⟨P2, hP2⟩ : ∃ q, q = preL n oneU (i + 1) := ⟨_, rfl⟩
      rw [← hP2] at HStep
      have HP2 := hid hP2
      clear hP2 hd HO hPl
      generalize i / n = qn at *
      generalize i % n = rn at *
      have e2 : wr.cell? ⟨g + 1, 2, none⟩ = some sv := by rw [cell_of_heap h1]; rfl
      have hneq : ∀ q, sv.ownBlock = some q → g + 2 ≤ q := fun q hq => (hown.lt q hq).1
      go_wp2_with fail
      go_quiet (fail)
      go_wp2_with (at_builtin; refine wpList_app1 eB rfl (.tmp 32) (.tmp 34) 22 rfl Tryz.underlying22 (g + 2) rfl (hown.fr ((Fr.refl wr).drewN _)) [0] _ _ _ rfl rfl rfl HC1.out hs ?_)
      intro v' w4 hap
      have own4 := hap.own
      rw [← HStep.out] at own4
      obtain ⟨va, vc, hv'⟩ := own4.shape'
      subst hv'
      have hownD := hown.fr ((Fr.refl wr).drewN 1)
      have k0 := hap.chg'.heap (show _ = _ from h0) (fun e => by have := hneq _ e; omega)
      have k1 := hap.chg'.heap (show _ = _ from h1) (fun e => by have := hneq _ e; omega)
      have hf4 : Fr w w4 := hap.below (hown.fr ((Fr.refl wr).drewN _)) (hf.drewN _) (by rw [hg]; omega) (hf.drewN _).size
      have hs4 : g + 2 ≤ w4.heap.size := Nat.le_trans hs hap.size
      have e3 : w4.cell? ⟨g + 1, 2, none⟩ = some sv := by rw [cell_of_heap k1]; rfl
      have e4 : w4.frozen? ⟨g + 1, 2, none⟩ = false := frozen_of_heap k1 2
      clear hap hown hownD
      go_wp2_with fail
      go_roundw
      case rel => exact ⟨i + 1, _, by omega, by go_num, by rw [Below.heap_setCell _ _ _ _ (by simp)]; exact k0, heap_setCell_own k1 2 _, by rw [← HP2.out]; exact own4.chg (setCell_chg w4 ⟨g + 1, 2, none⟩ _) (fun k hk e => (own4.ne_cells k1 (by decide)) (by rw [hk, show k = g + 1 from e])), Chg.below hf4 (setCell_chg w4 ⟨g + 1, 2, none⟩ _) hf4.size (fun i e => by have e : i = g + 1 := e; rw [hg]; omega), by simp [World.setCell]; omega⟩
      case measure => simp [intOf]; omega
  · obtain rfl : nn = i := by omega
    rw [← HA.out] at hown
    have hnl : ¬ ((nn : Int) < nn) := by omega
    have hinf : (Tryz.prog.info? 105).map (·.size) = some 3 := by kernel_rfl
    have hone : (#[N n, N n, sv] : Array Value).all (·.oneCell') = true := by
     obtain ⟨va, vc, hv⟩ := hown.shape'
     subst hv
     rw [List.all_toArray]
     rfl
    have hneq : ∀ q, sv.ownBlock = some q → g + 2 ≤ q := fun q hq => (hown.lt q hq).1
    have hset : Ow (wr.setRow g #[N n, N n, sv]) (g + 2) eB sv (idL n) := hown.chg (setRow_chg wr g _) fun q hq => by have := hneq q hq; show ¬ q = g; omega
    have hfin : Fr w (wr.setRow g #[N n, N n, sv]) := Chg.below hf (setRow_chg wr g _) hf.size (fun q hq => by rw [hq]; omega)
    have z0 := cell_setRow_same wr g 0 _ #[N n, N n, sv] _ _ h0
    have z1 := cell_setRow_same wr g 1 _ #[N n, N n, sv] _ _ h0
    have z2 := cell_setRow_same wr g 2 _ #[N n, N n, sv] _ _ h0
    clear hown HAt HA HLen
    go_wp2_with (first | (refine wpList_load_row rfl 105 (.tmp 4) rfl (g + 1) rfl 105 #[N n, N n, sv] (0, 0) _ h1 Tryz.underlying105 rfl hinf ?_) | (refine wpList_store_row rfl 105 (.tmp 2) (.tmp 37) rfl g #[N n, N n, sv] rfl rfl 105 _ h0 hinf rfl hone ?_))
    exact bodyPost_ret (v := .tuple #[.agg #[N n, N n, sv], .int .i64 0]) (by simp [results, Tryz.results108, go_sem, *]) rfl ⟨_, rfl, hset.rebase (by omega), hfin⟩
set_option maxRecDepth 512
end Go.Proofs.YtfhdgenlpmlajaaGreatDoor
