/- Parts of the proof of ThreeMends: M8 M9. -/
import Derived.Test.YtfhdgenlpmlajaaGreatDoorM33
import Derived.Test.YtfhdgenlpmlajaaGreatDoorM16
import Derived.Test.YtfhdgenlpmlajaaGreatDoorM20
set_option linter.unusedVariables false
set_option linter.unusedSectionVars false
set_option linter.unusedSimpArgs false
set_option maxHeartbeats 8000000
namespace Go.Proofs.YtfhdgenlpmlajaaGreatDoor
open Go.RowKit Go.Fk
set_option maxRecDepth 100000
theorem Stack_any (k m b c1 c2 : Nat) (a1 a2 : Option Addr) (l1 l2 : List UInt8) (w : World)
  (hb : w.heap[b]? = some (.cells #[N k, N k, .slice a1 (k * k) c1, N m, N k, .slice a2 (m * k) c2] 105 (0, 0)))
  (hs1 : See w eB (.slice a1 (k * k) c1) l1) (hs2 : See w eB (.slice a2 (m * k) c2) l2) (hl1 : l1.length = k * k) (hl2 : l2.length = m * k) (hk : 1 ≤ k) (hkm : k + m ≤ 255) :
  Calls Tryz.prog 168 #[.slice (some ⟨b, 0, none⟩) 2 2] w fun e w' => ∃ u, e = .returned (.tuple #[.agg #[N (k + m), N k, u], .int .i64 0]) ∧ Ow w' w.heap.size eB u (l1 ++ l2) ∧ Fr w w' := by
 have hkk : k * k ≤ 255 * 255 := Nat.mul_le_mul (by omega) (by omega)
 have hmk : m * k ≤ 255 * 255 := Nat.mul_le_mul (by omega) (by omega)
 have M1 := hid (MMay_any k k a1 c1 (by omega) (by omega))
 have M2 := hid (MMay_any m k a2 c2 (by omega) (by omega))
 have HL1 := hid hl1
 have HL2 := hid hl2
 clear hl1 hl2
 generalize k * k = kk at *
 generalize m * k = mk at *
 have q0 : w.cell? ⟨b, 0, none⟩ = some (N k) := by rw [cell_of_heap hb]; rfl
 have q1 : w.cell? ⟨b, 1, none⟩ = some (N k) := by rw [cell_of_heap hb]; rfl
 have q2 : w.cell? ⟨b, 2, none⟩ = some (.slice a1 kk c1) := by rw [cell_of_heap hb]; rfl
 have q3 : w.cell? ⟨b, 3, none⟩ = some (N m) := by rw [cell_of_heap hb]; rfl
 have q4 : w.cell? ⟨b, 4, none⟩ = some (N k) := by rw [cell_of_heap hb]; rfl
 have q5 : w.cell? ⟨b, 5, none⟩ = some (.slice a2 mk c2) := by rw [cell_of_heap hb]; rfl
 obtain ⟨km, hkm9⟩ : ∃ q, q = k + m := ⟨_, rfl⟩
 rw [← hkm9]
 have hw9 : IntKind.i64.wrap ((k : Int) + m) = (km : Int) := by rw [show (k : Int) + m = (km : Int) by omega]; exact wrap_i64 _ (by omega)
 have hk255 : ¬ (255 : Int) < k := by omega
 have hkm255 : ¬ (255 : Int) < km := by omega
 have hkm1 : k + m ≤ 255 := hkm
 clear hb hkm9 hkm
 go_enter Tryz.func168, Tryz.ntmps168
 go_wp2_with fail
 have hb0 : ((w.alloc (.cells #[.int .i64 0, .int .i64 0, .slice none 0 0] 105)).alloc (.cells #[.int .i64 0, .int .i64 0, .slice none 0 0] 105)).heap[w.heap.size]? = some (.cells #[.int .i64 0, .int .i64 0, .slice none 0 0] 105 (0, 0)) := by
  rw [heap_old _ _ _ (by simp), heap_new _ _ _ rfl]
 have hb1 : ((w.alloc (.cells #[.int .i64 0, .int .i64 0, .slice none 0 0] 105)).alloc (.cells #[.int .i64 0, .int .i64 0, .slice none 0 0] 105)).heap[w.heap.size + 1]? = some (.cells #[.int .i64 0, .int .i64 0, .slice none 0 0] 105 (0, 0)) := heap_new _ _ _ (by simp)
 have hf0 : Fr w ((w.alloc (.cells #[.int .i64 0, .int .i64 0, .slice none 0 0] 105)).alloc (.cells #[.int .i64 0, .int .i64 0, .slice none 0 0] 105)) := ((Fr.refl w).alloc _).alloc _
 have hs0 : ((w.alloc (.cells #[.int .i64 0, .int .i64 0, .slice none 0 0] 105)).alloc (.cells #[.int .i64 0, .int .i64 0, .slice none 0 0] 105)).heap.size = w.heap.size + 2 := by simp
 generalize (w.alloc (.cells #[.int .i64 0, .int .i64 0, .slice none 0 0] 105)).alloc (.cells #[.int .i64 0, .int .i64 0, .slice none 0 0] 105) = w0 at *
 generalize hg : w.heap.size = g at *
 go_loopw [9] (fun iv wr => ∃ (i r c : Nat) (sv : Value) (L : List UInt8), iv = N i ∧ Hid ((i = 0 ∧ r = 0 ∧ c = 0 ∧ L = []) ∨ (i = 1 ∧ r = k ∧ c = k ∧ L = l1) ∨ (i = 2 ∧ r = km ∧ c = k ∧ L = l1 ++ l2)) ∧ wr.heap[g]? = some (.cells #[.int .i64 0, .int .i64 0, .slice none 0 0] 105 (0, 0)) ∧ wr.heap[g + 1]? = some (.cells #[N r, N c, sv] 105 (0, 0)) ∧ Ow wr (g + 2) eB sv L ∧ Fr w wr ∧ g + 2 ≤ wr.heap.size) (fun iv _ => 2 - (intOf iv).toNat)
 case atStart => exact ⟨0, 0, 0, _, [], rfl, .inl ⟨rfl, rfl, rfl, rfl⟩, hb0, hb1, Ow.nil, hf0, by omega⟩
 case round =>
  clear hb0 hb1 hf0 hs0
  obtain ⟨i, r, c, sv, L, rfl, HH, h0, h1, hown, hf, hs⟩ := hrel
  have p0 := hf.cell q0
  have p1 := hf.cell q1
  have p2 := hf.cell q2
  have p3 := hf.cell q3
  have p4 := hf.cell q4
  have p5 := hf.cell q5
  have hneq : ∀ q, sv.ownBlock = some q → g + 2 ≤ q := fun q hq => (hown.lt q hq).1
  rcases HH.out with ⟨rfl, rfl, rfl, rfl⟩ | ⟨rfl, hr, hc, hL⟩ | ⟨rfl, hr, hc, rfl⟩
  · have hA : (wr.alloc (.cells #[N k, N k, (.slice a1 kk c1)] 105)).heap[wr.heap.size]? = some (.cells #[N k, N k, (.slice a1 kk c1)] 105 (0, 0)) := heap_new _ _ _ rfl
    have hfA : Fr wr (wr.alloc (.cells #[N k, N k, (.slice a1 kk c1)] 105)) := (Fr.refl wr).alloc _
    have h0A := hfA.heap h0
    have h1A := hfA.heap h1
    have hoA := hown.fr hfA
    have hsA : g + 2 ≤ (wr.alloc (.cells #[N k, N k, (.slice a1 kk c1)] 105)).heap.size := by simp; omega
    go_upto_region 5 with fail
    generalize wr.alloc (.cells #[N k, N k, (.slice a1 kk c1)] 105) = W at *
    have hfW := hf.trans hfA
    generalize hq : wr.heap.size = q at *
    clear p0 p1 p2 p3 p4 p5 hown h0 h1 hf hfA
    have e0 : W.cell? ⟨q, 0, none⟩ = some (N k) := by rw [cell_of_heap hA]; rfl
    have e1 : W.cell? ⟨q, 1, none⟩ = some (N k) := by rw [cell_of_heap hA]; rfl
    have e2 : W.cell? ⟨q, 2, none⟩ = some (.slice a1 kk c1) := by rw [cell_of_heap hA]; rfl
    have f1 : W.cell? ⟨g + 1, 1, none⟩ = some (.int .i64 0) := by rw [cell_of_heap h1A]; rfl
    have g1 := frozen_of_heap h1A 1
    go_upto_region 7 with fail
    have hst := setCell_chg W ⟨g + 1, 1, none⟩ (N k)
    have h1B := heap_setCell_own h1A 1 (N k)
    have hAB := hst.heap hA (fun e => by have e : q = g + 1 := e; omega)
    have h0B := hst.heap h0A (fun e => by have e : g = g + 1 := e; omega)
    have hoB := hoA.chg hst (fun k hk e => by have e : k = g + 1 := e; have := hneq k hk; omega)
    have hfB : Fr w (W.setCell ⟨g + 1, 1, none⟩ (N k)) := Chg.below hfW hst (by rw [hg]; omega) (fun i e => by have e : i = g + 1 := e; rw [hg]; omega)
    have hsB : g + 2 ≤ (W.setCell ⟨g + 1, 1, none⟩ (N k)).heap.size := by simp [World.setCell]; omega
    clear f1 g1 e0 e1 e2 hst hA h0A h1A hoA hfW hsA
    generalize W.setCell ⟨g + 1, 1, none⟩ (N k) = V at *
    have e0 : V.cell? ⟨q, 0, none⟩ = some (N k) := by rw [cell_of_heap hAB]; rfl
    have e1 : V.cell? ⟨q, 1, none⟩ = some (N k) := by rw [cell_of_heap hAB]; rfl
    have e2 : V.cell? ⟨q, 2, none⟩ = some (.slice a1 kk c1) := by rw [cell_of_heap hAB]; rfl
    have f0 : V.cell? ⟨g + 1, 0, none⟩ = some (.int .i64 0) := by rw [cell_of_heap h1B]; rfl
    have f1 : V.cell? ⟨g + 1, 1, none⟩ = some (N k) := by rw [cell_of_heap h1B]; rfl
    go_wp2_with fail
    refine (M1.out _).mono ?_
    rintro e U ⟨rfl, hfU⟩
    have e0 := hfU.cell e0
    have e1 := hfU.cell e1
    have e2 := hfU.cell e2
    have f0 := hfU.cell f0
    have f1 := hfU.cell f1
    have h1U := hfU.heap h1B
    have hAU := hfU.heap hAB
    have h0U := hfU.heap h0B
    have hoU := hoB.fr hfU
    have hfwU := hfB.trans hfU
    have hsU : g + 2 ≤ U.heap.size := by have := hfU.size; omega
    have g0 := frozen_of_heap h1U 0
    clear hfU h1B hAB h0B hoB hfB hsB
    go_upto_region 10 with fail
    have hst := setCell_chg U ⟨g + 1, 0, none⟩ (N k)
    have h1X := heap_setCell_own h1U 0 (N k)
    have hAX := hst.heap hAU (fun e => by have e : q = g + 1 := e; omega)
    have h0X := hst.heap h0U (fun e => by have e : g = g + 1 := e; omega)
    have hoX := hoU.chg hst (fun k hk e => by have e : k = g + 1 := e; have := hneq k hk; omega)
    have hfX : Fr w (U.setCell ⟨g + 1, 0, none⟩ (N k)) := Chg.below hfwU hst (by rw [hg]; omega) (fun i e => by have e : i = g + 1 := e; rw [hg]; omega)
    have hsX : g + 2 ≤ (U.setCell ⟨g + 1, 0, none⟩ (N k)).heap.size := by simp [World.setCell]; omega
    clear e0 e1 e2 f0 f1 g0 hst hAU h0U h1U hoU hfwU hsU
    generalize U.setCell ⟨g + 1, 0, none⟩ (N k) = X at *
    have e2 : X.cell? ⟨q, 2, none⟩ = some (.slice a1 kk c1) := by rw [cell_of_heap hAX]; rfl
    have f2 : X.cell? ⟨g + 1, 2, none⟩ = some sv := by rw [cell_of_heap h1X]; rfl
    go_wp2_with (at_builtin; refine wpList_app eB rfl (.tmp 45) (.tmp 47) 22 rfl Tryz.underlying22 (g + 2) rfl hoX _ _ rfl (hs1.fr hfX) ?c1 hsX ?_)
    case c1 => first | (rw [HL1.out]; simp; omega) | (rw [HL1.out, HL2.out]; omega)
    intro v' w4 hap
    have own4 := hap.own
    obtain ⟨q9, hq9⟩ : ∃ q, q = l1 := ⟨_, rfl⟩
    rw [← hq9] at own4
    have HQ9 := hid hq9
    clear hq9
    obtain ⟨va, vc, hv'⟩ := own4.shape'
    subst hv'
    have h14 := hap.chg'.heap h1X (fun e => by have := hneq _ e; omega)
    have h04 := hap.chg'.heap h0X (fun e => by have := hneq _ e; omega)
    have hf4 : Fr w w4 := hap.below hoX hfX (by rw [hg]; omega) hfX.size
    have hs4 : g + 2 ≤ w4.heap.size := by have := hap.size; omega
    have e3 : w4.cell? ⟨g + 1, 2, none⟩ = some sv := by rw [cell_of_heap h14]; rfl
    have e4 := frozen_of_heap h14 2
    have hne4 : ∀ q, (Value.slice va _ vc).ownBlock = some q → g + 2 ≤ q := fun q hq => (own4.lt q hq).1
    clear hap hoX hfX hsX h1X h0X hAX e2 f2
    go_wp2_with fail
    go_roundw
    case rel => exact ⟨1, _, k, _, _, by go_num, .inr (.inl ⟨rfl, rfl, rfl, HQ9.out⟩), by rw [Below.heap_setCell _ _ _ _ (by simp)]; exact h04, heap_setCell_own h14 2 _, own4.chg (setCell_chg w4 ⟨g + 1, 2, none⟩ _) (fun k hk e => by have e : k = g + 1 := e; have := hne4 k hk; omega), Chg.below hf4 (setCell_chg w4 ⟨g + 1, 2, none⟩ _) hf4.size (fun i e => by have e : i = g + 1 := e; rw [hg]; omega), by simp [World.setCell]; omega⟩
    case measure => simp [intOf]
  · obtain rfl : k = c := hc.symm
    obtain rfl : k = r := hr.symm
    obtain rfl : l1 = L := hL.symm
    have hA : (wr.alloc (.cells #[N m, N k, (.slice a2 mk c2)] 105)).heap[wr.heap.size]? = some (.cells #[N m, N k, (.slice a2 mk c2)] 105 (0, 0)) := heap_new _ _ _ rfl
    have hfA : Fr wr (wr.alloc (.cells #[N m, N k, (.slice a2 mk c2)] 105)) := (Fr.refl wr).alloc _
    have h0A := hfA.heap h0
    have h1A := hfA.heap h1
    have hoA := hown.fr hfA
    have hsA : g + 2 ≤ (wr.alloc (.cells #[N m, N k, (.slice a2 mk c2)] 105)).heap.size := by simp; omega
    go_upto_region 5 with fail
    generalize wr.alloc (.cells #[N m, N k, (.slice a2 mk c2)] 105) = W at *
    have hfW := hf.trans hfA
    generalize hq : wr.heap.size = q at *
    clear p0 p1 p2 p3 p4 p5 hown h0 h1 hf hfA
    have e0 : W.cell? ⟨q, 0, none⟩ = some (N m) := by rw [cell_of_heap hA]; rfl
    have e1 : W.cell? ⟨q, 1, none⟩ = some (N k) := by rw [cell_of_heap hA]; rfl
    have e2 : W.cell? ⟨q, 2, none⟩ = some (.slice a2 mk c2) := by rw [cell_of_heap hA]; rfl
    go_upto_region 7 with fail
    have h1B := h1A
    have hAB := hA
    have h0B := h0A
    have hoB := hoA
    have hfB := hfW
    have hsB := hsA
    clear e0 e1 e2 hA h0A h1A hoA hfW hsA
    generalize W = V at *
    have e0 : V.cell? ⟨q, 0, none⟩ = some (N m) := by rw [cell_of_heap hAB]; rfl
    have e1 : V.cell? ⟨q, 1, none⟩ = some (N k) := by rw [cell_of_heap hAB]; rfl
    have e2 : V.cell? ⟨q, 2, none⟩ = some (.slice a2 mk c2) := by rw [cell_of_heap hAB]; rfl
    have f0 : V.cell? ⟨g + 1, 0, none⟩ = some (N k) := by rw [cell_of_heap h1B]; rfl
    have f1 : V.cell? ⟨g + 1, 1, none⟩ = some (N k) := by rw [cell_of_heap h1B]; rfl
    go_wp2_with fail
    refine (M2.out _).mono ?_
    rintro e U ⟨rfl, hfU⟩
    have e0 := hfU.cell e0
    have e1 := hfU.cell e1
    have e2 := hfU.cell e2
    have f0 := hfU.cell f0
    have f1 := hfU.cell f1
    have h1U := hfU.heap h1B
    have hAU := hfU.heap hAB
    have h0U := hfU.heap h0B
    have hoU := hoB.fr hfU
    have hfwU := hfB.trans hfU
    have hsU : g + 2 ≤ U.heap.size := by have := hfU.size; omega
    have g0 := frozen_of_heap h1U 0
    clear hfU h1B hAB h0B hoB hfB hsB
    go_upto_region 10 with fail
    have hst := setCell_chg U ⟨g + 1, 0, none⟩ (N km)
    have h1X := heap_setCell_own h1U 0 (N km)
    have hAX := hst.heap hAU (fun e => by have e : q = g + 1 := e; omega)
    have h0X := hst.heap h0U (fun e => by have e : g = g + 1 := e; omega)
    have hoX := hoU.chg hst (fun k hk e => by have e : k = g + 1 := e; have := hneq k hk; omega)
    have hfX : Fr w (U.setCell ⟨g + 1, 0, none⟩ (N km)) := Chg.below hfwU hst (by rw [hg]; omega) (fun i e => by have e : i = g + 1 := e; rw [hg]; omega)
    have hsX : g + 2 ≤ (U.setCell ⟨g + 1, 0, none⟩ (N km)).heap.size := by simp [World.setCell]; omega
    clear e0 e1 e2 f0 f1 g0 hst hAU h0U h1U hoU hfwU hsU
    generalize U.setCell ⟨g + 1, 0, none⟩ (N km) = X at *
    have e2 : X.cell? ⟨q, 2, none⟩ = some (.slice a2 mk c2) := by rw [cell_of_heap hAX]; rfl
    have f2 : X.cell? ⟨g + 1, 2, none⟩ = some sv := by rw [cell_of_heap h1X]; rfl
    go_wp2_with (at_builtin; refine wpList_app eB rfl (.tmp 45) (.tmp 47) 22 rfl Tryz.underlying22 (g + 2) rfl hoX _ _ rfl (hs2.fr hfX) ?c1 hsX ?_)
    case c1 => first | (rw [HL2.out]; simp; omega) | (rw [HL1.out, HL2.out]; omega)
    intro v' w4 hap
    have own4 := hap.own
    obtain ⟨q9, hq9⟩ : ∃ q, q = l1 ++ l2 := ⟨_, rfl⟩
    rw [← hq9] at own4
    have HQ9 := hid hq9
    clear hq9
    obtain ⟨va, vc, hv'⟩ := own4.shape'
    subst hv'
    have h14 := hap.chg'.heap h1X (fun e => by have := hneq _ e; omega)
    have h04 := hap.chg'.heap h0X (fun e => by have := hneq _ e; omega)
    have hf4 : Fr w w4 := hap.below hoX hfX (by rw [hg]; omega) hfX.size
    have hs4 : g + 2 ≤ w4.heap.size := by have := hap.size; omega
    have e3 : w4.cell? ⟨g + 1, 2, none⟩ = some sv := by rw [cell_of_heap h14]; rfl
    have e4 := frozen_of_heap h14 2
    have hne4 : ∀ q, (Value.slice va _ vc).ownBlock = some q → g + 2 ≤ q := fun q hq => (own4.lt q hq).1
    clear hap hoX hfX hsX h1X h0X hAX e2 f2
    go_wp2_with fail
    go_roundw
    case rel => exact ⟨2, _, k, _, _, by go_num, .inr (.inr ⟨rfl, rfl, rfl, HQ9.out⟩), by rw [Below.heap_setCell _ _ _ _ (by simp)]; exact h04, heap_setCell_own h14 2 _, own4.chg (setCell_chg w4 ⟨g + 1, 2, none⟩ _) (fun k hk e => by have e : k = g + 1 := e; have := hne4 k hk; omega), Chg.below hf4 (setCell_chg w4 ⟨g + 1, 2, none⟩ _) hf4.size (fun i e => by have e : i = g + 1 := e; rw [hg]; omega), by simp [World.setCell]; omega⟩
    case measure => simp [intOf]
  · obtain rfl : k = c := hc.symm
    obtain rfl : km = r := hr.symm
    have hinf : (Tryz.prog.info? 105).map (·.size) = some 3 := by kernel_rfl
    have hone : (#[N km, N k, sv] : Array Value).all (·.oneCell') = true := by
     obtain ⟨va, vc, hv⟩ := hown.shape'
     subst hv
     rw [List.all_toArray]
     rfl
    have hset : Ow (wr.setRow g #[N km, N k, sv]) (g + 2) eB sv (l1 ++ l2) := hown.chg (setRow_chg wr g _) fun q hq => by have := hneq q hq; show ¬ q = g; omega
    have hfin : Fr w (wr.setRow g #[N km, N k, sv]) := Chg.below hf (setRow_chg wr g _) hf.size (fun q hq => by rw [hq]; omega)
    have z0 := cell_setRow_same wr g 0 _ #[N km, N k, sv] _ _ h0
    have z1 := cell_setRow_same wr g 1 _ #[N km, N k, sv] _ _ h0
    have z2 := cell_setRow_same wr g 2 _ #[N km, N k, sv] _ _ h0
    clear p0 p1 p2 p3 p4 p5 q0 q1 q2 q3 q4 q5 hown M1 M2 HH
    generalize hLL : l1 ++ l2 = LL at *
    go_wp2_with (first | (refine wpList_load_row rfl 105 (.tmp 4) rfl (g + 1) rfl 105 #[N km, N k, sv] (0, 0) _ h1 Tryz.underlying105 rfl hinf ?_) | (refine wpList_store_row rfl 105 (.tmp 2) (.tmp 51) rfl g #[N km, N k, sv] rfl rfl 105 _ h0 hinf rfl hone ?_))
    exact bodyPost_ret (v := .tuple #[.agg #[N km, N k, sv], .int .i64 0]) (by simp [results, Tryz.results168, go_sem, *]) rfl ⟨_, rfl, hset.rebase (by omega), hfin⟩
set_option maxRecDepth 512
theorem cauPre_row (k i : Nat) (h0 : cauPre k i 0 = preL k (cauC k) (i * k + 0)) : ∀ j, j ≤ k → cauPre k i j = preL k (cauC k) (i * k + j) := by
 intro j
 induction j with
 | zero => intro _; exact h0
 | succ j ih => intro hj; rw [cauPre_step, ih (by omega), preL_step k (cauC k) i j (by omega)]
theorem cauPre_pre (k i : Nat) : cauPre k i 0 = preL k (cauC k) (i * k + 0) := by
 induction i with
 | zero => rw [cauPre_zero]; simp [preL]
 | succ i ih => rw [cauPre_next, cauPre_row k i ih k (Nat.le_refl _), preL_next]
theorem wholeU_cau (k i j : Nat) (hi : k + i < 256) (hj : j < 256) : wholeU k (k + i) j = cauC k i j := by
 have hx : (k + i) ^^^ j < 2 ^ 8 := Nat.xor_lt_two_pow hi hj
 unfold wholeU cauC inv8 inv1
 rw [if_neg (by omega), ofNat_toNat8 _ hx]
theorem whole_app (k m : Nat) (hk : 1 ≤ k) (hkm : k + m ≤ 255) : idL k ++ cauPre k m 0 = wholeL k m := by
 rw [cauPre_pre]
 unfold idL wholeL preL
 rw [Nat.add_zero, Nat.add_mul k m k, List.range_add, List.map_append, List.map_map]
 congr 1
 · refine List.map_congr_left fun t ht => ?_
   have ht := List.mem_range.1 ht
   have := (Nat.div_lt_iff_lt_mul (show 0 < k by omega)).2 ht
   unfold oneU wholeU
   rw [if_pos this]
 · refine List.map_congr_left fun t ht => ?_
   have ht := List.mem_range.1 ht
   have h1 := (Nat.div_lt_iff_lt_mul (show 0 < k by omega)).2 ht
   have h2 := Nat.mod_lt t (show 0 < k by omega)
   simp only [Function.comp]
   rw [Nat.mul_add_div (by omega), Nat.mul_add_mod, wholeU_cau k _ _ (by omega) (by omega)]
set_option maxRecDepth 100000
theorem whole_any (k m : Nat) (hk : 1 ≤ k) (hkm : k + m ≤ 255) (w : World) :
  Calls Tryz.prog 139 #[N k, N m] w fun e w' => ∃ u, e = .returned (.agg #[N (k + m), N k, u]) ∧ Ow w' w.heap.size eB u (wholeL k m) ∧ Fr w w' := by
 have HI := hid (Identity_any k hk (by omega))
 have HC := hid (Cauchy_any k m hk hkm)
 have hl1 : Hid ((idL k).length = k * k) := preL_len _ _ _
 have hl2 : Hid ((cauPre k m 0).length = m * k) := by show _ = _; rw [cauPre_len]; omega
 have HW := hid (whole_app k m hk hkm)
 have HS := hid (fun b c1 c2 a1 a2 W hb h1 h2 => Stack_any k m b c1 c2 a1 a2 (idL k) (cauPre k m 0) W hb h1 h2 hl1.out hl2.out hk hkm)
 rw [HW.out] at HS
 clear HW
 obtain ⟨km, hkm9⟩ : ∃ q, q = k + m := ⟨_, rfl⟩
 rw [← hkm9] at HS ⊢
 clear hkm9
 generalize idL k = l1 at *
 generalize cauPre k m 0 = l2 at *
 generalize wholeL k m = l3 at *
 have hb0 : (w.alloc (.cells #[.int .i64 0, .int .i64 0, .slice none 0 0] 105)).heap[w.heap.size]? = some (.cells #[.int .i64 0, .int .i64 0, .slice none 0 0] 105 (0, 0)) := heap_new _ _ _ rfl
 have hf0 : Fr w (w.alloc (.cells #[.int .i64 0, .int .i64 0, .slice none 0 0] 105)) := (Fr.refl w).alloc _
 have hs0 : (w.alloc (.cells #[.int .i64 0, .int .i64 0, .slice none 0 0] 105)).heap.size = w.heap.size + 1 := by simp
 go_enter Tryz.func139, Tryz.ntmps139
 go_upto_region 1 with fail
 generalize w.alloc (.cells #[.int .i64 0, .int .i64 0, .slice none 0 0] 105) = w0 at *
 generalize hg : w.heap.size = g at *
 go_wp2_with fail
 refine (HI.out _).mono ?_
 rintro e w1 ⟨v1, rfl, hO1, hf1⟩
 obtain ⟨a1, c1, hv1⟩ := hO1.shape'
 rw [hl1.out] at hv1
 subst hv1
 unfold idV
 have h1 := hf1.heap hb0
 have hf01 := hf0.trans hf1
 have hs1 := hf1.size
 clear hb0 hf0 hf1 HI
 have hA : (w1.alloc (.cells #[N k, N k, .slice a1 (k * k) c1] 105)).heap[w1.heap.size]? = some (.cells #[N k, N k, .slice a1 (k * k) c1] 105 (0, 0)) := heap_new _ _ _ rfl
 have hfA : Fr w1 (w1.alloc (.cells #[N k, N k, .slice a1 (k * k) c1] 105)) := (Fr.refl w1).alloc _
 go_upto_region 2 with fail
 generalize w1.alloc (.cells #[N k, N k, .slice a1 (k * k) c1] 105) = w2 at *
 generalize w1.heap.size = q1 at *
 go_wp2_with fail
 refine (HC.out _).mono ?_
 rintro e w3 ⟨v3, rfl, hO3, hf3⟩
 obtain ⟨a3, c3, hv3⟩ := hO3.shape'
 rw [hl2.out] at hv3
 subst hv3
 unfold cauV
 have hf13 := hfA.trans hf3
 have hf03 := hf01.trans hf13
 have h3 := hf13.heap h1
 have hA3 := hf3.heap hA
 have hO13 := hO1.fr hf13
 have hs3 := hf13.size
 clear hf3 hfA hA h1 hf01 hf13 hO1 HC
 have hB : (w3.alloc (.cells #[N m, N k, .slice a3 (m * k) c3] 105)).heap[w3.heap.size]? = some (.cells #[N m, N k, .slice a3 (m * k) c3] 105 (0, 0)) := heap_new _ _ _ rfl
 have hfB : Fr w3 (w3.alloc (.cells #[N m, N k, .slice a3 (m * k) c3] 105)) := (Fr.refl w3).alloc _
 go_upto_region 3 with fail
 generalize w3.alloc (.cells #[N m, N k, .slice a3 (m * k) c3] 105) = w4 at *
 generalize w3.heap.size = q3 at *
 have e0 : w4.cell? ⟨q1, 0, none⟩ = some (N k) := by rw [cell_of_heap (hfB.heap hA3)]; rfl
 have e1 : w4.cell? ⟨q1, 1, none⟩ = some (N k) := by rw [cell_of_heap (hfB.heap hA3)]; rfl
 have e2 : w4.cell? ⟨q1, 2, none⟩ = some (.slice a1 (k * k) c1) := by rw [cell_of_heap (hfB.heap hA3)]; rfl
 have f0 : w4.cell? ⟨q3, 0, none⟩ = some (N m) := by rw [cell_of_heap hB]; rfl
 have f1 : w4.cell? ⟨q3, 1, none⟩ = some (N k) := by rw [cell_of_heap hB]; rfl
 have f2 : w4.cell? ⟨q3, 2, none⟩ = some (.slice a3 (m * k) c3) := by rw [cell_of_heap hB]; rfl
 have hf4 : Fr w4 (w4.alloc (.cells #[N k, N k, .slice a1 (k * k) c1, N m, N k, .slice a3 (m * k) c3] 105)) := (Fr.refl w4).alloc _
 have HS4 := hid (HS.out w4.heap.size c1 c3 a1 a3 _ (heap_new w4 (.cells #[N k, N k, .slice a1 (k * k) c1, N m, N k, .slice a3 (m * k) c3] 105) _ rfl) ((hO13.fr hfB).fr hf4).see ((hO3.fr hfB).fr hf4).see)
 have hf04 := (hf03.trans hfB).trans hf4
 have h4 := hf4.heap (hfB.heap h3)
 go_wp2_with fail
 refine HS4.out.mono ?_
 rintro e w5 ⟨u, rfl, hO5, hf5⟩
 have hf05 := hf04.trans hf5
 have h5 := hf5.heap h4
 have hgb := (Array.getElem?_eq_some_iff.1 h4).1
 generalize (w4.alloc (.cells #[N k, N k, .slice a1 (k * k) c1, N m, N k, .slice a3 (m * k) c3] 105)).heap.size = b4 at hO5 hgb
 clear HS4 HS hf04 h4 hf4 hf03 h3 hA3 hO13 hO3 hB hfB e0 e1 e2 f0 f1 f2
 obtain ⟨a5, c5, hv5⟩ := hO5.shape'
 subst hv5
 have hinf : (Tryz.prog.info? 105).map (·.size) = some 3 := by kernel_rfl
 have hone : (#[N km, N k, .slice a5 l3.length c5] : Array Value).all (·.oneCell') = true := by
  rw [List.all_toArray]; rfl
 have hC : (w5.alloc (.cells #[N km, N k, .slice a5 l3.length c5] 105)).heap[w5.heap.size]? = some (.cells #[N km, N k, .slice a5 l3.length c5] 105 (0, 0)) := heap_new _ _ _ rfl
 have hfC : Fr w5 (w5.alloc (.cells #[N km, N k, .slice a5 l3.length c5] 105)) := (Fr.refl w5).alloc _
 go_upto_region 4 with fail
 generalize w5.alloc (.cells #[N km, N k, .slice a5 l3.length c5] 105) = w6 at *
 generalize w5.heap.size = q5 at *
 have hf06 := hf05.trans hfC
 have h6 := hfC.heap h5
 have hO6 := hO5.fr hfC
 have hset : Ow (w6.setRow g #[N km, N k, .slice a5 l3.length c5]) b4 eB (.slice a5 l3.length c5) l3 := hO6.chg (setRow_chg w6 g _) fun q hq => by have := (hO6.lt q hq).1; show ¬ q = g; omega
 have hfin : Fr w (w6.setRow g #[N km, N k, .slice a5 l3.length c5]) := Chg.below hf06 (setRow_chg w6 g _) hf06.size (fun q hq => by rw [hq]; omega)
 go_wp2_with (first | (refine wpList_load_row rfl 105 (.tmp 9) rfl q5 rfl 105 #[N km, N k, .slice a5 l3.length c5] (0, 0) _ hC Tryz.underlying105 rfl hinf ?_) | (refine wpList_store_row rfl 105 (.tmp 4) (.tmp 29) rfl g #[N km, N k, .slice a5 l3.length c5] rfl rfl 105 _ h6 hinf rfl hone ?_))
 exact bodyPost_ret (v := .agg #[N km, N k, .slice a5 l3.length c5]) (results_cell_row Tryz.results139 _ _ g 105 #[N km, N k, .slice a5 l3.length c5] (0, 0) _ rfl (setRow_heap _ g _ #[N km, N k, .slice a5 l3.length c5] _ _ h6) Tryz.underlying105 rfl hinf) rfl ⟨_, rfl, hset.rebase (by omega), hfin⟩
set_option maxRecDepth 512
end Go.Proofs.YtfhdgenlpmlajaaGreatDoor
