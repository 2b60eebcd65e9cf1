/- Parts of the proof of ThreeMends: Ma R4. -/
import Derived.Test.YtfhdgenlpmlajaaGreatDoorM35
import Derived.Test.YtfhdgenlpmlajaaGreatDoorM01
import Derived.Test.YtfhdgenlpmlajaaGreatDoorM17
import Derived.Test.YtfhdgenlpmlajaaGreatDoorM04
set_option linter.unusedVariables false
set_option linter.unusedSectionVars false
set_option linter.unusedSimpArgs false
set_option maxHeartbeats 8000000
namespace Go.Proofs.YtfhdgenlpmlajaaGreatDoor
open Go.RowKit Go.Fk
theorem pickL_step (M : List UInt8) (C : Nat) (ats : List Nat) (i : Nat) (h : i < ats.length) : pickL M C (ats.take (i + 1)) = pickL M C (ats.take i) ++ (M.take ((ats[i] + 1) * C)).drop (ats[i] * C) := by
 rw [List.take_add_one, List.getElem?_eq_getElem h]
 unfold pickL
 show ((ats.take i ++ [ats[i]]).map _).flatten = _
 rw [List.map_append, List.flatten_append, List.map_cons, List.map_nil, List.flatten_cons, List.flatten_nil, List.append_nil]
theorem pickL_len (M : List UInt8) (R C : Nat) (hM : M.length = R * C) : ∀ ats : List Nat, (∀ r ∈ ats, r < R) → (pickL M C ats).length = ats.length * C := by
 intro ats
 induction ats with
 | nil => intro _; simp [pickL]
 | cons a ats ih =>
  intro h
  have e : pickL M C (a :: ats) = (M.take ((a + 1) * C)).drop (a * C) ++ pickL M C ats := by simp [pickL]
  have ha : (a + 1) * C ≤ R * C := Nat.mul_le_mul_right C (h a (by simp))
  rw [e, List.length_append, ih (fun r hr => h r (by simp [hr])), List.length_drop, List.length_take, hM, List.length_cons]
  rw [Nat.add_mul] at ha ⊢
  rw [Nat.add_mul ats.length]
  omega
set_option maxRecDepth 100000
theorem Pick_any (R C : Nat) (M : List UInt8) (ats : List Nat) (mv rv : Value) (base : Nat) (w : World) (ho : Ow w base eB mv M) (hM : M.length = R * C) (hr : See w eJ rv ats) (hat : ∀ r ∈ ats, r < R) (hC : 1 ≤ C) (hC2 : C ≤ 255) (hR1 : 1 ≤ R) (hR : R ≤ 255) (hal : ats.length ≤ 255) :
  Calls Tryz.prog 138 #[.agg #[N R, N C, mv], rv] w fun e w' => ∃ u, e = .returned (.tuple #[.agg #[N ats.length, N C, u], .int .i64 0]) ∧ Ow w' w.heap.size eB u (pickL M C ats) ∧ Fr w w' := by
 have h11 : 1 * 1 ≤ R * C := Nat.mul_le_mul hR1 hC
 have hM0 : M ≠ [] := by intro e; subst e; simp at hM; omega
 obtain ⟨mg, mcap, hmv, _⟩ := ho.atHead hM0
 rw [hM] at hmv
 subst hmv
 obtain ⟨ra, rcap, hrv, _, _, _⟩ := hr.shape
 subst hrv
 have HM := hid (MMay_any R C (some ⟨mg, 0, none⟩) mcap hR hC2)
 have HPL := hid (fun i => pickL_len M R C hM (ats.take i) (fun r hr => hat r (List.mem_of_mem_take hr)))
 have HRow := hid (fun W (hf : Fr w W) i hi => row_any R C i mg (R * C) mcap base M W (ho.fr hf) hM hi hC hC2 hR)
 have HSee : Hid (∀ W (hf : Fr w W) i (hi : i < R), See W eB (.slice (some ⟨mg, i * C, none⟩) C (mcap - i * C)) ((M.take ((i + 1) * C)).drop (i * C)) ∧ ((M.take ((i + 1) * C)).drop (i * C)).length = C) := fun W hf i hi => by
  have h1 : (i + 1) * C = i * C + C := by rw [Nat.add_mul, Nat.one_mul]
  have h2 : (i + 1) * C ≤ R * C := Nat.mul_le_mul_right C hi
  have := (run_mid_at (E := eB) (t := 22) rfl Tryz.underlying22 (ho.fr hf) (i * C) ((i + 1) * C) (by omega) (by omega)).2
  rw [show (i + 1) * C - i * C = C by omega] at this
  exact ⟨this, by rw [List.length_drop, List.length_take]; omega⟩
 have HStep := hid (pickL_step M C ats)
 have HAll : Hid (pickL M C (ats.take ats.length) = pickL M C ats) := by show _ = _; rw [List.take_of_length_le (Nat.le_refl _)]
 have HZ : Hid (pickL M C (ats.take 0) = []) := rfl
 have Hat : Hid (∀ i (h : i < ats.length), ats[i] < R) := fun i h => hat _ (List.getElem_mem h)
 clear hM0 hM h11 hat
 generalize hmn : R * C = mn at *
 have hb0 : ((w.alloc (.cells #[N R, N C, .slice (some ⟨mg, 0, none⟩) mn mcap] 105)).alloc (.cells #[.int .i64 0, .int .i64 0, .slice none 0 0] 105)).heap[w.heap.size]? = some (.cells #[N R, N C, .slice (some ⟨mg, 0, none⟩) mn mcap] 105 (0, 0)) := by
  rw [heap_old _ _ _ (by simp), heap_new _ _ _ rfl]
 have hb1 : ((w.alloc (.cells #[N R, N C, .slice (some ⟨mg, 0, none⟩) mn mcap] 105)).alloc (.cells #[.int .i64 0, .int .i64 0, .slice none 0 0] 105)).heap[w.heap.size + 1]? = some (.cells #[.int .i64 0, .int .i64 0, .slice none 0 0] 105 (0, 0)) := heap_new _ _ _ (by simp)
 have hf0 : Fr w ((w.alloc (.cells #[N R, N C, .slice (some ⟨mg, 0, none⟩) mn mcap] 105)).alloc (.cells #[.int .i64 0, .int .i64 0, .slice none 0 0] 105)) := ((Fr.refl w).alloc _).alloc _
 have hs0 : ((w.alloc (.cells #[N R, N C, .slice (some ⟨mg, 0, none⟩) mn mcap] 105)).alloc (.cells #[.int .i64 0, .int .i64 0, .slice none 0 0] 105)).heap.size = w.heap.size + 2 := by simp
 have hal' : ¬ (255 : Int) < ats.length := by omega
 go_enter Tryz.func138, Tryz.ntmps138
 go_upto_region 1 with fail
 generalize (w.alloc (.cells #[N R, N C, .slice (some ⟨mg, 0, none⟩) mn mcap] 105)).alloc (.cells #[.int .i64 0, .int .i64 0, .slice none 0 0] 105) = w0 at *
 generalize hg : w.heap.size = g at *
 have k0 : w0.cell? ⟨g, 0, none⟩ = some (N R) := by rw [cell_of_heap hb0]; rfl
 have k1 : w0.cell? ⟨g, 1, none⟩ = some (N C) := by rw [cell_of_heap hb0]; rfl
 have k2 : w0.cell? ⟨g, 2, none⟩ = some (.slice (some ⟨mg, 0, none⟩) mn mcap) := by rw [cell_of_heap hb0]; rfl
 go_wp2_with fail
 refine (HM.out _).mono ?_
 rintro e w1 ⟨rfl, hf1⟩
 have k1' := hf1.cell k1
 have hb0 := hf1.heap hb0
 have hb1 := hf1.heap hb1
 have hf01 := hf0.trans hf1
 have hs1 : g + 2 ≤ w1.heap.size := by have := hf1.size; omega
 clear k0 k1 k2 hf0 hf1 HM hs0
 have hA : (w1.alloc (.cells #[N ats.length, N C, .slice none 0 0] 105)).heap[w1.heap.size]? = some (.cells #[N ats.length, N C, .slice none 0 0] 105 (0, 0)) := heap_new _ _ _ rfl
 have hfA : Fr w1 (w1.alloc (.cells #[N ats.length, N C, .slice none 0 0] 105)) := (Fr.refl w1).alloc _
 have hb0A := hfA.heap hb0
 have hb1A := hfA.heap hb1
 have hfwA := hf01.trans hfA
 have hsA : g + 2 ≤ (w1.alloc (.cells #[N ats.length, N C, .slice none 0 0] 105)).heap.size := by simp; omega
 go_upto_region 4 with fail
 clear hb0 hb1 k1' hf01 hfA
 generalize w1.alloc (.cells #[N ats.length, N C, .slice none 0 0] 105) = w2 at *
 generalize w1.heap.size = q at *
 go_wp2_with fail
 go_loopw [25] (fun iv wr => ∃ (i : Nat) (sv : Value), i ≤ ats.length ∧ iv = N i ∧ wr.heap[g]? = some (.cells #[N R, N C, .slice (some ⟨mg, 0, none⟩) mn mcap] 105 (0, 0)) ∧ wr.heap[g + 1]? = some (.cells #[.int .i64 0, .int .i64 0, .slice none 0 0] 105 (0, 0)) ∧ wr.heap[q]? = some (.cells #[N ats.length, N C, sv] 105 (0, 0)) ∧ Ow wr (g + 2) eB sv (pickL M C (ats.take i)) ∧ Fr w wr ∧ g + 2 ≤ wr.heap.size) (fun iv _ => ats.length - (intOf iv).toNat)
 case atStart => exact ⟨0, _, Nat.zero_le _, rfl, hb0A, hb1A, hA, by rw [HZ.out]; exact Ow.nil, hfwA, hsA⟩
 case round =>
  clear hb0A hb1A hA hfwA hsA
  obtain ⟨i, sv, hi, rfl, hB0, hB1, hBq, hown, hf, hs⟩ := hrel
  by_cases hlt : i < ats.length
  · obtain ⟨rb, roff, rc, hv1, e1⟩ := (hr.fr hf).cell1 (fun n => N n) rfl i hlt
    cases hv1
    have HStep2 := hid (HStep.out i hlt)
    have haR := Hat.out i hlt
    have hPn := HPL.out i
    have hne := hown.ne_cells hBq (by decide)
    have hneq : ∀ q, sv.ownBlock = some q → g + 2 ≤ q := fun q hq => (hown.lt q hq).1
    have HRowI := hid (fun W (hf : Fr w W) => HRow.out W hf ats[i] haR)
    have HSeeI := hid (fun W (hf : Fr w W) => HSee.out W hf ats[i] haR)
    have hPl : (pickL M C (ats.take i)).length + C ≤ 255 * 255 + 255 := by
     rw [hPn, List.length_take]
     have : min i ats.length * C ≤ 255 * 255 := Nat.mul_le_mul (by omega) hC2
     omega
    generalize ats[i] = a at *
    have ha1 : ¬ (a : Int) < 0 := by omega
    have ha2 : (a : Int) < R := by omega
    have ha3 : ¬ (R : Int) ≤ a := by omega
    have c0 : wr.cell? ⟨g, 0, none⟩ = some (N R) := by rw [cell_of_heap hB0]; rfl
    have c1 : wr.cell? ⟨g, 1, none⟩ = some (N C) := by rw [cell_of_heap hB0]; rfl
    have c2 : wr.cell? ⟨g, 2, none⟩ = some (.slice (some ⟨mg, 0, none⟩) mn mcap) := by rw [cell_of_heap hB0]; rfl
    have d2 : wr.cell? ⟨q, 2, none⟩ = some sv := by rw [cell_of_heap hBq]; rfl
    generalize (M.take ((a + 1) * C)).drop (a * C) = row at *
    generalize mcap - a * C = cq at *
    generalize a * C = aC at *
    obtain ⟨P2, hP2⟩ : ∃ q, q = pickL M C (ats.take (i + 1)) := ⟨_, rfl⟩
    rw [← hP2] at HStep2
    have HP2 := hid hP2
    clear hP2
    generalize pickL M C (ats.take i) = P1 at *
    have hrl := (HSeeI.out wr hf).2
    have HC1 : Hid (P1.length + row.length ≤ 2147483648) := by show _ ≤ _; omega
    have hRD := hid (HRowI.out wr.drew (Fr.drew hf))
    clear HRowI hPl hPn
    go_upto_region 9 with fail
    go_region_law (first
     | (refine step_app eB rfl (.tmp 39) (.tmp 42) 22 rfl Tryz.underlying22 (g + 2) rfl (hown.drew.fr hf3) _ _ rfl ((HSeeI.out _ ((Fr.drew hf).trans hf3)).1) HC1.out (Nat.le_trans hs hf3.size) ?_
        intro v' w4 hap
        have own4 := hap.own
        rw [← HStep2.out] at own4
        obtain ⟨va, vc, hv'⟩ := own4.shape'
        subst hv'
        have hf03 : Fr w w3 := (Fr.drew hf).trans hf3
        have m0 := hap.chg'.heap (hf3.heap (show wr.drew.heap[g]? = _ from hB0)) (fun e => by have := hneq g e; omega)
        have m1 := hap.chg'.heap (hf3.heap (show wr.drew.heap[g + 1]? = _ from hB1)) (fun e => by have := hneq (g + 1) e; omega)
        have mq := hap.chg'.heap (hf3.heap (show wr.drew.heap[q]? = _ from hBq)) hne
        have hf4 : Fr w w4 := hap.below (hown.drew.fr hf3) hf03 (by rw [hg]; omega) hf03.size
        have hs4 := hap.size
        have hs3 := hf3.size
        have e3 : w4.cell? ⟨q, 2, none⟩ = some sv := by rw [cell_of_heap mq]; rfl
        have e4 : w4.frozen? ⟨q, 2, none⟩ = false := frozen_of_heap mq 2)
     | (go_simp; go_at_call 166; refine (hRD.out).mono ?_; rintro e w3 ⟨rfl, hf3⟩; have d2 := hf3.cell (show wr.drew.cell? ⟨q, 2, none⟩ = _ from d2); have c0 := hf3.cell (show wr.drew.cell? ⟨g, 0, none⟩ = _ from c0); have c1 := hf3.cell (show wr.drew.cell? ⟨g, 1, none⟩ = _ from c1); have c2 := hf3.cell (show wr.drew.cell? ⟨g, 2, none⟩ = _ from c2)))
    all_goals go_wp2_with fail
    all_goals go_roundw
    all_goals first
     | (simp [intOf]; omega)
     | (refine ⟨i + 1, _, by omega, by go_num, ?_, ?_, heap_setCell_own mq 2 _, ?_, ?_, ?_⟩
        · rw [(setCell_chg w4 ⟨q, 2, none⟩ _).block g (Array.getElem?_eq_some_iff.1 m0).1 (fun e => by have e : g = q := e; omega)]; exact m0
        · rw [(setCell_chg w4 ⟨q, 2, none⟩ _).block (g + 1) (Array.getElem?_eq_some_iff.1 m1).1 (fun e => by have e : g + 1 = q := e; omega)]; exact m1
        · rw [← HP2.out]
          exact own4.chg (setCell_chg w4 ⟨q, 2, none⟩ _) fun k hk e => (own4.ne_cells mq (by decide)) (by rw [hk, show k = q from e])
        · exact Chg.below hf4 (setCell_chg w4 ⟨q, 2, none⟩ _) hf4.size (fun i e => by have e : i = q := e; omega)
        · simp [World.setCell]; have : wr.drew.heap.size = wr.heap.size := rfl; omega)
  · obtain rfl : ats.length = i := by omega
    rw [HAll.out] at hown
    have hnl : ¬ ((ats.length : Int) < ats.length) := by omega
    have hinf : (Tryz.prog.info? 105).map (·.size) = some 3 := by kernel_rfl
    have hone : (#[N ats.length, N C, sv] : Array Value).all (·.oneCell') = true := by
     obtain ⟨va, vc, hv⟩ := hown.shape'
     subst hv
     rw [List.all_toArray]
     rfl
    have hneq : ∀ q, sv.ownBlock = some q → g + 2 ≤ q := fun q hq => (hown.lt q hq).1
    have hset : Ow (wr.setRow (g + 1) #[N ats.length, N C, sv]) (g + 2) eB sv (pickL M C ats) := hown.chg (setRow_chg wr (g + 1) _) fun q hq => by have := hneq q hq; show ¬ q = g + 1; omega
    have hfin : Fr w (wr.setRow (g + 1) #[N ats.length, N C, sv]) := Chg.below hf (setRow_chg wr (g + 1) _) hf.size (fun q hq => by rw [hq]; omega)
    have z0 := cell_setRow_same wr (g + 1) 0 _ #[N ats.length, N C, sv] _ _ hB1
    have z1 := cell_setRow_same wr (g + 1) 1 _ #[N ats.length, N C, sv] _ _ hB1
    have z2 := cell_setRow_same wr (g + 1) 2 _ #[N ats.length, N C, sv] _ _ hB1
    clear HStep HAll HZ Hat HRow HSee HPL hB0 hown
    go_wp2_with (first | (refine wpList_load_row rfl 105 (.tmp 6) rfl q rfl 105 #[N ats.length, N C, sv] (0, 0) _ hBq Tryz.underlying105 rfl hinf ?_) | (refine wpList_store_row rfl 105 (.tmp 4) (.tmp 46) rfl (g + 1) #[N ats.length, N C, sv] rfl rfl 105 _ hB1 hinf rfl hone ?_))
    exact bodyPost_ret (v := .tuple #[.agg #[N ats.length, N C, sv], .int .i64 0]) (by simp [results, Tryz.results138, go_sem, *]) rfl ⟨_, rfl, hset.rebase (by omega), hfin⟩
set_option maxRecDepth 512
def eO : Elt Tryz.prog Bool := ⟨4, 1, 1, false, .bool false, fun b => [.bool b], by kernel_rfl, by decide, by decide, by simp [Value.cells], fun _ => rfl, by intro x u hu; simp at hu; subst hu; rfl⟩
def goodsTo (good : List Bool) (K n : Nat) : List Nat := ((List.range n).filter fun i => good.getD i false).take K
theorem goodsTo_yes (good : List Bool) (K i : Nat) (hi : i < good.length) (hg : good[i] = true) (hl : (goodsTo good K i).length < K) : goodsTo good K (i + 1) = goodsTo good K i ++ [i] := by
 unfold goodsTo at *
 rw [List.range_succ, List.filter_append]
 generalize (List.range i).filter (fun i => good.getD i false) = F at *
 rw [List.length_take] at hl
 have e : [i].filter (fun i => good.getD i false) = [i] := by
  rw [List.filter_cons, getD_at good i false hi, hg]; rfl
 rw [e, List.take_append, List.take_of_length_le (by omega), List.take_of_length_le (by simp; omega)]
theorem goodsTo_no (good : List Bool) (K i : Nat) (hi : i < good.length) (hg : good[i] = false ∨ ¬ (goodsTo good K i).length < K) : goodsTo good K (i + 1) = goodsTo good K i := by
 unfold goodsTo at *
 rw [List.range_succ, List.filter_append]
 generalize (List.range i).filter (fun i => good.getD i false) = F at *
 rcases hg with hg | hg
 · have e : [i].filter (fun i => good.getD i false) = [] := by
     rw [List.filter_cons, getD_at good i false hi, hg]; rfl
   rw [e, List.append_nil]
 · rw [List.length_take] at hg
   rw [List.take_append, show K - F.length = 0 by omega, List.take_zero, List.append_nil]
def headsAt (ats : List Nat) (hs : List Hd) : List Hd := ats.map fun i => hs.getD i ⟨none, 0, 0⟩
theorem headsAt_snoc (ats : List Nat) (hs : List Hd) (i : Nat) (h : i < hs.length) : headsAt (ats ++ [i]) hs = headsAt ats hs ++ [hs[i]] := by
 unfold headsAt
 rw [List.map_append, List.map_cons, List.map_nil, getD_at hs i _ h]
theorem goodsTo_le (good : List Bool) (K n : Nat) : (goodsTo good K n).length ≤ n := by
 unfold goodsTo
 rw [List.length_take]
 have := List.length_filter_le (fun i => good.getD i false) (List.range n)
 rw [List.length_range] at this
 omega
set_option maxRecDepth 100000
theorem first_any (K : Nat) (pv gv : Value) (hs : List Hd) (good : List Bool) (w : World) (hp : See w eHB pv hs) (hg : See w eO gv good) (hlen : good.length = hs.length) (hn : hs.length ≤ 255) :
  Calls Tryz.prog 137 #[N K, pv, gv] w fun e w' => ∃ va vl, e = .returned (.tuple #[va, vl]) ∧ Ow w' w.heap.size eJ va ((goodsL good).take K) ∧ Ow w' w.heap.size eHB vl (headsAt ((goodsL good).take K) hs) ∧ Fr w w' := by
 obtain ⟨pa, pcap, hpv, _, _, _⟩ := hp.shape
 obtain ⟨ga, gcap, hgv, _, _, _⟩ := hg.shape
 subst hpv hgv
 have HLen := hid hlen
 clear hlen
 have HZ : Hid (goodsTo good K 0 = []) := by show _ = _; simp [goodsTo]
 have HZ2 : Hid (headsAt [] hs = []) := rfl
 have HY := hid (goodsTo_yes good K)
 have HNo := hid (goodsTo_no good K)
 have HS := hid (fun ats i h => headsAt_snoc ats hs i h)
 have HE : Hid (goodsTo good K hs.length = (goodsL good).take K) := by show _ = _; rw [← HLen.out]; rfl
 have HLe := hid (goodsTo_le good K)
 go_enter Tryz.func137, Tryz.ntmps137
 go_wp2_with fail
 go_loopw [6, 7, 12] (fun av lv iv wr => ∃ (i : Nat) (A : List Nat), i ≤ hs.length ∧ iv = N i ∧ Hid (A = goodsTo good K i) ∧ Ow wr w.heap.size eJ av A ∧ Ow wr w.heap.size eHB lv (headsAt A hs) ∧ Fr w wr) (fun _ _ iv _ => hs.length - (intOf iv).toNat)
 case atStart => exact ⟨0, [], Nat.zero_le _, rfl, HZ.out.symm, Ow.nil, by rw [HZ2.out]; exact Ow.nil, Fr.refl w⟩
 case round =>
  obtain ⟨i, A, hi, rfl, HA, hoa, hol, hf⟩ := hrel
  by_cases hlt : i < hs.length
  · have hltg : i < good.length := by have := HLen.out; omega
    obtain ⟨b1, off1, cp1, hv1, e1⟩ := (hp.fr hf).cell1 (fun (h : Hd) => h.v) rfl i hlt
    obtain ⟨b2, off2, cp2, hv2, e2⟩ := (hg.fr hf).cell1 (fun b => Value.bool b) rfl i hltg
    have HSi := hid (HS.out A i hlt)
    have HYi := hid (HY.out i hltg)
    have HNi := hid (HNo.out i hltg)
    have hAl : A.length ≤ 255 := by rw [HA.out]; have := HLe.out i; omega
    cases hv1
    cases hv2
    generalize hs[i] = h at *
    obtain ⟨gi, hgi⟩ : ∃ q, q = good[i] := ⟨_, rfl⟩
    rw [← hgi] at HYi HNi e2
    clear hgi
    obtain ⟨aa, ac, hav⟩ := hoa.shape'
    subst hav
    obtain ⟨la, lc, hlv⟩ := hol.shape'
    have hHl : (headsAt A hs).length = A.length := by simp [headsAt]
    rw [hHl] at hlv
    subst hlv
    have i1 : (0 : Int) ≤ i := by omega
    have i2 : (i : Int) < hs.length := by omega
    have i3 : (i : Int) < good.length := by omega
    by_cases hyes : gi = true ∧ A.length < K
    · obtain ⟨hg1, hg2⟩ := hyes
      subst hg1
      have hg3 : (A.length : Int) < K := by omega
      have hn9 := HYi.out rfl (by rw [← HA.out]; exact hg2)
      rw [← HA.out] at hn9
      obtain ⟨A2, hA2⟩ : ∃ q, q = A ++ [i] := ⟨_, rfl⟩
      rw [← hA2] at hn9 HSi
      have HN9 := hid hn9
      have HA2 := hid hA2
      clear hn9 HYi HNi hA2
      go_wp2_with (at_builtin; refine wpList_app1 eJ rfl (.tmp 27) (.tmp 29) 50 rfl Tryz.underlying50 w.heap.size rfl hoa [i] _ _ _ rfl rfl rfl ?c1 hf.size ?_)
      case c1 => simp; omega
      intro v' w4 hap
      have own4 := hap.own
      rw [← HA2.out] at own4
      have hol4 := own_app hol hoa hap (by decide)
      have hf4 : Fr w w4 := hap.below hoa hf (Nat.le_refl _) hf.size
      obtain ⟨va, vc, hv'⟩ := own4.shape'
      subst hv'
      clear hap hoa hol
      go_wp2_with (at_builtin; refine wpList_app1 eHB rfl (.tmp 31) (.tmp 33) 60 rfl Tryz.underlying60 w.heap.size rfl hol4 [h] _ _ _ rfl rfl rfl ?c1 hf4.size ?_)
      case c1 => rw [hHl]; simp; omega
      intro v5 w5 hap
      have own5 := hap.own
      have hoa5 := own_app own4 hol4 hap (by decide)
      have hf5 : Fr w w5 := hap.below hol4 hf4 (Nat.le_refl _) hf4.size
      rw [← HSi.out] at own5
      clear hap own4 hol4
      go_wp2_with fail
      go_roundw
      case rel => exact ⟨i + 1, _, by omega, by go_num, HN9.out.symm, hoa5, own5, hf5⟩
      case measure => simp [intOf]; omega
    · have hno : gi = false ∨ ¬ A.length < K := by
        cases gi
        · exact .inl rfl
        · exact .inr fun h => hyes ⟨rfl, h⟩
      have hn9 := HNi.out (by rw [← HA.out]; exact hno)
      rw [← HA.out] at hn9
      have HN9 := hid hn9
      clear hn9 HYi HNi hyes
      by_cases hgf : gi = false
      · subst hgf
        go_wp2_with fail
        go_roundw
        case rel => exact ⟨i + 1, _, by omega, by go_num, HN9.out.symm, hoa, hol, hf⟩
        case measure => simp [intOf]; omega
      · have hK : ¬ (A.length : Int) < K := by rcases hno with h | h; exact absurd h hgf; omega
        have hgt : gi = true := by cases gi; exact absurd rfl hgf; rfl
        subst hgt
        clear hno hgf
        go_wp2_with fail
        go_roundw
        case rel => exact ⟨i + 1, _, by omega, by go_num, HN9.out.symm, hoa, hol, hf⟩
        case measure => simp [intOf]; omega
  · obtain rfl : hs.length = i := by omega
    rw [HE.out] at HA
    have hnl : ¬ ((hs.length : Int) < hs.length) := by omega
    obtain ⟨aa, ac, hav⟩ := hoa.shape'
    obtain ⟨la, lc, hlv⟩ := hol.shape'
    subst hav hlv
    go_wp2_with fail
    go_ret2
    exact ⟨_, _, rfl, by rw [← HA.out]; exact hoa, by rw [← HA.out]; exact hol, hf⟩
set_option maxRecDepth 512
end Go.Proofs.YtfhdgenlpmlajaaGreatDoor
