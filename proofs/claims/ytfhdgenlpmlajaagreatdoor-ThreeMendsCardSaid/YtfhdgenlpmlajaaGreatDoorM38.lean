/- Parts of the proof of ThreeMends: Mr2. -/
import Derived.Test.YtfhdgenlpmlajaaGreatDoorM33
import Derived.Test.YtfhdgenlpmlajaaGreatDoorM35
set_option linter.unusedVariables false
set_option linter.unusedSectionVars false
set_option linter.unusedSimpArgs false
set_option maxHeartbeats 8000000
namespace Go.Proofs.YtfhdgenlpmlajaaGreatDoor
open Go.RowKit Go.Fk
set_option maxRecDepth 100000
theorem RStack_any (k m b c1 c2 : Nat) (a1 a2 : Option Addr) (l1 l2 : List UInt8) (w : World)
  (hb : w.heap[b]? = some (.cells #[N k, N k, .slice a1 (k * k) c1, N m, N k, .slice a2 (m * k) c2] 105 (0, 0)))
  (hs1 : See w eB (.slice a1 (k * k) c1) l1) (hs2 : See w eB (.slice a2 (m * k) c2) l2) (hl1 : l1.length = k * k) (hl2 : l2.length = m * k) (hk : 1 ≤ k) (hkm : k + m ≤ 255) :
  Calls Tryz.prog 110 #[.slice (some ⟨b, 0, none⟩) 2 2] w fun e w' => ∃ u, e = .returned (.tuple #[.agg #[N (k + m), N k, u], .int .i64 0]) ∧ Ow w' w.heap.size eB u (l1 ++ l2) ∧ Fr w w' := by
 have hkk : k * k ≤ 255 * 255 := Nat.mul_le_mul (by omega) (by omega)
 have hmk : m * k ≤ 255 * 255 := Nat.mul_le_mul (by omega) (by omega)
 have M1 := hid (RMMay_any k k a1 c1 (by omega) (by omega))
 have M2 := hid (RMMay_any m k a2 c2 (by omega) (by omega))
 have HL1 := hid hl1
 have HL2 := hid hl2
 clear hl1 hl2
 generalize k * k = kk at *
 generalize m * k = mk at *
 have q0 : w.cell? ⟨b, 0, none⟩ = some (N k) := by rw [cell_of_heap hb]; rfl
 have q1 : w.cell? ⟨b, 1, none⟩ = some (N k) := by rw [cell_of_heap hb]; rfl
 have q2 : w.cell? ⟨b, 2, none⟩ = some (.slice a1 kk c1) := by rw [cell_of_heap hb]; rfl
 have q3 : w.cell? ⟨b, 3, none⟩ = some (N m) := by rw [cell_of_heap hb]; rfl
 have q4 : w.cell? ⟨b, 4, none⟩ = some (N k) := by rw [cell_of_heap hb]; rfl
 have q5 : w.cell? ⟨b, 5, none⟩ = some (.slice a2 mk c2) := by rw [cell_of_heap hb]; rfl
 obtain ⟨km, hkm9⟩ : ∃ q, q = k + m := ⟨_, rfl⟩
 rw [← hkm9]
 have hw9 : IntKind.i64.wrap ((k : Int) + m) = (km : Int) := by rw [show (k : Int) + m = (km : Int) by omega]; exact wrap_i64 _ (by omega)
 have hk255 : ¬ (255 : Int) < k := by omega
 have hkm255 : ¬ (255 : Int) < km := by omega
 have hkm1 : k + m ≤ 255 := hkm
 have hk0w : IntKind.i64.wrap (k : Int) = (k : Int) := wrap_i64 _ (by omega)
 clear hb hkm9 hkm
 go_enter Tryz.func110, Tryz.ntmps110
 have hb0 : ((w.alloc (.cells #[.int .i64 0, .int .i64 0, .slice none 0 0] 105)).alloc (.cells #[.int .i64 0, N k, .slice none 0 0] 105)).heap[w.heap.size]? = some (.cells #[.int .i64 0, .int .i64 0, .slice none 0 0] 105 (0, 0)) := by
  rw [heap_old _ _ _ (by simp), heap_new _ _ _ rfl]
 have hb1 : ((w.alloc (.cells #[.int .i64 0, .int .i64 0, .slice none 0 0] 105)).alloc (.cells #[.int .i64 0, N k, .slice none 0 0] 105)).heap[w.heap.size + 1]? = some (.cells #[.int .i64 0, N k, .slice none 0 0] 105 (0, 0)) := heap_new _ _ _ (by simp)
 have hf0 : Fr w ((w.alloc (.cells #[.int .i64 0, .int .i64 0, .slice none 0 0] 105)).alloc (.cells #[.int .i64 0, N k, .slice none 0 0] 105)) := ((Fr.refl w).alloc _).alloc _
 have hs0 : ((w.alloc (.cells #[.int .i64 0, .int .i64 0, .slice none 0 0] 105)).alloc (.cells #[.int .i64 0, N k, .slice none 0 0] 105)).heap.size = w.heap.size + 2 := by simp
 have q1a : (w.alloc (.cells #[.int .i64 0, .int .i64 0, .slice none 0 0] 105)).cell? ⟨b, 1, none⟩ = some (N k) := ((Fr.refl w).alloc _).cell q1
 go_upto_region 5 with fail
 clear q1a
 generalize (w.alloc (.cells #[.int .i64 0, .int .i64 0, .slice none 0 0] 105)).alloc (.cells #[.int .i64 0, N k, .slice none 0 0] 105) = w0 at *
 generalize hg : w.heap.size = g at *
 go_loopw [5] (fun iv wr => ∃ (i r : Nat) (sv : Value) (L : List UInt8), iv = N i ∧ Hid ((i = 0 ∧ r = 0 ∧ L = []) ∨ (i = 1 ∧ r = k ∧ L = l1) ∨ (i = 2 ∧ r = km ∧ L = l1 ++ l2)) ∧ wr.heap[g]? = some (.cells #[.int .i64 0, .int .i64 0, .slice none 0 0] 105 (0, 0)) ∧ wr.heap[g + 1]? = some (.cells #[N r, N k, sv] 105 (0, 0)) ∧ Ow wr (g + 2) eB sv L ∧ Fr w wr ∧ g + 2 ≤ wr.heap.size) (fun iv _ => 2 - (intOf iv).toNat)
 case atStart => exact ⟨0, 0, _, [], rfl, .inl ⟨rfl, rfl, rfl⟩, hb0, hb1, Ow.nil, hf0, by omega⟩
 case round =>
  clear hb0 hb1 hf0 hs0
  obtain ⟨i, r, sv, L, rfl, HH, h0, h1, hown, hf, hs⟩ := hrel
  have p0 := hf.cell q0
  have p1 := hf.cell q1
  have p2 := hf.cell q2
  have p3 := hf.cell q3
  have p4 := hf.cell q4
  have p5 := hf.cell q5
  have hneq : ∀ q, sv.ownBlock = some q → g + 2 ≤ q := fun q hq => (hown.lt q hq).1
  rcases HH.out with ⟨rfl, rfl, rfl⟩ | ⟨rfl, hr, hL⟩ | ⟨rfl, hr, rfl⟩
  · have f0 : wr.cell? ⟨g + 1, 0, none⟩ = some (.int .i64 0) := by rw [cell_of_heap h1]; rfl
    have f1 : wr.cell? ⟨g + 1, 1, none⟩ = some (N k) := by rw [cell_of_heap h1]; rfl
    go_upto_region 7 with fail
    go_region_held3 (fun w' => w'.cell? ⟨g + 1, 0, none⟩ = some (.int .i64 0) ∧ w'.cell? ⟨g + 1, 1, none⟩ = some (N k) ∧ w'.cell? ⟨b, 0, none⟩ = some (N k) ∧ w'.cell? ⟨b, 1, none⟩ = some (N k) ∧ w'.cell? ⟨b, 2, none⟩ = some (.slice a1 kk c1))
     (first | go_keep)
     ((first
      | (go_at_call 145; refine (M1.out _).mono ?_; rintro e U ⟨rfl, hfU⟩; have f0 := hfU.cell f0; have f1 := hfU.cell f1; have p0 := hfU.cell p0; have p1 := hfU.cell p1; have p2 := hfU.cell p2)))
    have hfU := (Fr.refl wr).drew.trans hfU
    have h1U := hfU.heap h1
    have h0U := hfU.heap h0
    have hoU := hown.fr hfU
    have hfwU := hf.trans hfU
    have hsU : g + 2 ≤ U.heap.size := by have := hfU.size; omega
    have g0 := frozen_of_heap h1U 0
    clear hfU h1 h0 hown hf hs
    go_wp2_with fail
    go_cut [] from 49 to 58 (fun wx => wx.heap[g]? = some (.cells #[.int .i64 0, .int .i64 0, .slice none 0 0] 105 (0, 0)) ∧ wx.heap[g + 1]? = some (.cells #[(N k), N k, sv] 105 (0, 0)) ∧ Ow wx (g + 2) eB sv ([] : List UInt8) ∧ Fr w wx ∧ g + 2 ≤ wx.heap.size)
    case first =>
     go_region
     all_goals go_wp2_with fail
     all_goals go_meet
     have hst := setCell_chg U ⟨g + 1, 0, none⟩ (N k)
     exact ⟨hst.heap h0U (fun e => by have e : g = g + 1 := e; omega), heap_setCell_own h1U 0 _, (hoU.chg hst (fun k hk e => by have e : k = g + 1 := e; have := hneq k hk; omega)).drew, Fr.drew (Chg.below hfwU hst (by rw [hg]; omega) (fun i e => by have e : i = g + 1 := e; rw [hg]; omega)), by simp [World.setCell]; omega⟩
    case rest =>
     obtain ⟨h0X, h1X, hoX, hfX, hsX⟩ := hcut
     clear h1U h0U hoU hfwU hsU g0 f0 f1 p0 p1 p2 p3 p4 p5
     have f2 : wc.cell? ⟨g + 1, 2, none⟩ = some sv := by rw [cell_of_heap h1X]; rfl
     have p2 := hfX.cell q2
     have hsD := (hs1.fr hfX).drew
     have hoD := hoX.drew
     have HC1 : Hid (([] : List UInt8).length + l1.length ≤ 2147483648) := by show _ ≤ _; first | (rw [HL1.out]; simp; omega) | (rw [HL1.out, HL2.out]; omega)
     go_upto_region 10 with fail
     go_region_law (refine step_app eB rfl (.tmp 59) (.tmp 64) 22 rfl Tryz.underlying22 (g + 2) rfl hoD _ _ rfl hsD HC1.out hsX ?_
                    intro v' w4 hap
                    have own4 := hap.own
                    obtain ⟨q9, hq9⟩ : ∃ q, q = l1 := ⟨_, rfl⟩
                    have own4 : Ow w4 (g + 2) eB v' q9 := by rw [hq9]; exact own4
                    have HQ9 := hid hq9
                    clear hq9
                    obtain ⟨va, vc, hv'⟩ := own4.shape'
                    subst hv'
                    have h14 := hap.chg'.heap (show wc.drew.heap[g + 1]? = _ from h1X) (fun e => by have := hneq _ e; omega)
                    have h04 := hap.chg'.heap (show wc.drew.heap[g]? = _ from h0X) (fun e => by have := hneq _ e; omega)
                    have hf4 : Fr w w4 := hap.below hoD (Fr.drew hfX) (by rw [hg]; omega) (Fr.drew hfX).size
                    have hs4 : g + 2 ≤ w4.heap.size := Nat.le_trans hsX hap.size
                    have e3 : w4.cell? ⟨g + 1, 2, none⟩ = some sv := by rw [cell_of_heap h14]; rfl
                    have e4 := frozen_of_heap h14 2
                    have hne4 : ∀ q, (Value.slice va q9.length vc).ownBlock = some q → g + 2 ≤ q := fun q hq => (own4.lt q hq).1)
     all_goals go_wp2_with fail
     all_goals go_roundw
     all_goals first
      | (simp [intOf]; done)
      | exact ⟨1, _, _, _, by go_num, .inr (.inl ⟨rfl, rfl, HQ9.out⟩), by rw [Below.heap_setCell _ _ _ _ (by simp)]; exact h04, heap_setCell_own h14 2 _, own4.chg (setCell_chg w4 ⟨g + 1, 2, none⟩ _) (fun k hk e => by have e : k = g + 1 := e; have := hne4 k hk; omega), Chg.below hf4 (setCell_chg w4 ⟨g + 1, 2, none⟩ _) hf4.size (fun i e => by have e : i = g + 1 := e; rw [hg]; omega), by simp [World.setCell]; omega⟩
  · obtain rfl : k = r := hr.symm
    obtain rfl : l1 = L := hL.symm
    have f0 : wr.cell? ⟨g + 1, 0, none⟩ = some (N k) := by rw [cell_of_heap h1]; rfl
    have f1 : wr.cell? ⟨g + 1, 1, none⟩ = some (N k) := by rw [cell_of_heap h1]; rfl
    go_upto_region 7 with fail
    go_region_held3 (fun w' => w'.cell? ⟨g + 1, 0, none⟩ = some (N k) ∧ w'.cell? ⟨g + 1, 1, none⟩ = some (N k) ∧ w'.cell? ⟨b, 3, none⟩ = some (N m) ∧ w'.cell? ⟨b, 4, none⟩ = some (N k) ∧ w'.cell? ⟨b, 5, none⟩ = some (.slice a2 mk c2))
     (first | go_keep)
     ((first
      | (go_at_call 145; refine (M2.out _).mono ?_; rintro e U ⟨rfl, hfU⟩; have f0 := hfU.cell f0; have f1 := hfU.cell f1; have p3 := hfU.cell p3; have p4 := hfU.cell p4; have p5 := hfU.cell p5)))
    have hfU := (Fr.refl wr).drew.trans hfU
    have h1U := hfU.heap h1
    have h0U := hfU.heap h0
    have hoU := hown.fr hfU
    have hfwU := hf.trans hfU
    have hsU : g + 2 ≤ U.heap.size := by have := hfU.size; omega
    have g0 := frozen_of_heap h1U 0
    clear hfU h1 h0 hown hf hs
    go_wp2_with fail
    go_cut [] from 49 to 58 (fun wx => wx.heap[g]? = some (.cells #[.int .i64 0, .int .i64 0, .slice none 0 0] 105 (0, 0)) ∧ wx.heap[g + 1]? = some (.cells #[(N km), N k, sv] 105 (0, 0)) ∧ Ow wx (g + 2) eB sv l1 ∧ Fr w wx ∧ g + 2 ≤ wx.heap.size)
    case first =>
     go_region
     all_goals go_wp2_with fail
     all_goals go_meet
     have hst := setCell_chg U ⟨g + 1, 0, none⟩ (N km)
     exact ⟨hst.heap h0U (fun e => by have e : g = g + 1 := e; omega), heap_setCell_own h1U 0 _, (hoU.chg hst (fun k hk e => by have e : k = g + 1 := e; have := hneq k hk; omega)).drew, Fr.drew (Chg.below hfwU hst (by rw [hg]; omega) (fun i e => by have e : i = g + 1 := e; rw [hg]; omega)), by simp [World.setCell]; omega⟩
    case rest =>
     obtain ⟨h0X, h1X, hoX, hfX, hsX⟩ := hcut
     clear h1U h0U hoU hfwU hsU g0 f0 f1 p0 p1 p2 p3 p4 p5
     have f2 : wc.cell? ⟨g + 1, 2, none⟩ = some sv := by rw [cell_of_heap h1X]; rfl
     have p2 := hfX.cell q5
     have hsD := (hs2.fr hfX).drew
     have hoD := hoX.drew
     have HC1 : Hid (l1.length + l2.length ≤ 2147483648) := by show _ ≤ _; first | (rw [HL2.out]; simp; omega) | (rw [HL1.out, HL2.out]; omega)
     go_upto_region 10 with fail
     go_region_law (refine step_app eB rfl (.tmp 59) (.tmp 64) 22 rfl Tryz.underlying22 (g + 2) rfl hoD _ _ rfl hsD HC1.out hsX ?_
                    intro v' w4 hap
                    have own4 := hap.own
                    obtain ⟨q9, hq9⟩ : ∃ q, q = l1 ++ l2 := ⟨_, rfl⟩
                    have own4 : Ow w4 (g + 2) eB v' q9 := by rw [hq9]; exact own4
                    have HQ9 := hid hq9
                    clear hq9
                    obtain ⟨va, vc, hv'⟩ := own4.shape'
                    subst hv'
                    have h14 := hap.chg'.heap (show wc.drew.heap[g + 1]? = _ from h1X) (fun e => by have := hneq _ e; omega)
                    have h04 := hap.chg'.heap (show wc.drew.heap[g]? = _ from h0X) (fun e => by have := hneq _ e; omega)
                    have hf4 : Fr w w4 := hap.below hoD (Fr.drew hfX) (by rw [hg]; omega) (Fr.drew hfX).size
                    have hs4 : g + 2 ≤ w4.heap.size := Nat.le_trans hsX hap.size
                    have e3 : w4.cell? ⟨g + 1, 2, none⟩ = some sv := by rw [cell_of_heap h14]; rfl
                    have e4 := frozen_of_heap h14 2
                    have hne4 : ∀ q, (Value.slice va q9.length vc).ownBlock = some q → g + 2 ≤ q := fun q hq => (own4.lt q hq).1)
     all_goals go_wp2_with fail
     all_goals go_roundw
     all_goals first
      | (simp [intOf]; done)
      | exact ⟨2, _, _, _, by go_num, .inr (.inr ⟨rfl, rfl, HQ9.out⟩), by rw [Below.heap_setCell _ _ _ _ (by simp)]; exact h04, heap_setCell_own h14 2 _, own4.chg (setCell_chg w4 ⟨g + 1, 2, none⟩ _) (fun k hk e => by have e : k = g + 1 := e; have := hne4 k hk; omega), Chg.below hf4 (setCell_chg w4 ⟨g + 1, 2, none⟩ _) hf4.size (fun i e => by have e : i = g + 1 := e; rw [hg]; omega), by simp [World.setCell]; omega⟩
  · obtain rfl : km = r := hr.symm
    have hinf : (Tryz.prog.info? 105).map (·.size) = some 3 := by kernel_rfl
    have hone : (#[N km, N k, sv] : Array Value).all (·.oneCell') = true := by
     obtain ⟨va, vc, hv⟩ := hown.shape'
     subst hv
     rw [List.all_toArray]
     rfl
    have hset : Ow (wr.setRow g #[N km, N k, sv]) (g + 2) eB sv (l1 ++ l2) := hown.chg (setRow_chg wr g _) fun q hq => by have := hneq q hq; show ¬ q = g; omega
    have hfin : Fr w (wr.setRow g #[N km, N k, sv]) := Chg.below hf (setRow_chg wr g _) hf.size (fun q hq => by rw [hq]; omega)
    have z0 := cell_setRow_same wr g 0 _ #[N km, N k, sv] _ _ h0
    have z1 := cell_setRow_same wr g 1 _ #[N km, N k, sv] _ _ h0
    have z2 := cell_setRow_same wr g 2 _ #[N km, N k, sv] _ _ h0
    clear p0 p1 p2 p3 p4 p5 q0 q1 q2 q3 q4 q5 hown M1 M2 HH
    generalize hLL : l1 ++ l2 = LL at *
    go_wp2_with (first | (refine wpList_load_row rfl 105 (.tmp 4) rfl (g + 1) rfl 105 #[N km, N k, sv] (0, 0) _ h1 Tryz.underlying105 rfl hinf ?_) | (refine wpList_store_row rfl 105 (.tmp 2) (.tmp 67) rfl g #[N km, N k, sv] rfl rfl 105 _ h0 hinf rfl hone ?_))
    exact bodyPost_ret (v := .tuple #[.agg #[N km, N k, sv], .int .i64 0]) (by simp [results, Tryz.results110, go_sem, *]) rfl ⟨_, rfl, hset.rebase (by omega), hfin⟩
set_option maxRecDepth 512
end Go.Proofs.YtfhdgenlpmlajaaGreatDoor
