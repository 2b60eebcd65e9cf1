/- Parts of the proof of ThreeMends: R2 R3. -/
import Derived.Test.YtfhdgenlpmlajaaGreatDoorM12
import Derived.Test.YtfhdgenlpmlajaaGreatDoorM10
import Derived.Test.YtfhdgenlpmlajaaGreatDoorM16
set_option linter.unusedVariables false
set_option linter.unusedSectionVars false
set_option linter.unusedSimpArgs false
set_option maxHeartbeats 8000000
namespace Go.Proofs.YtfhdgenlpmlajaaGreatDoor
open Go.RowKit Go.Fk
set_option maxRecDepth 100000
theorem times_any (M : List UInt8) (R : Nat) (mv dv : Value) (hs : List Hd) (ds : List (List UInt8)) (L : Nat) (w : World) (hM : See w eB mv M) (hd : Sees2 w eHB eB dv hs ds)
  (hC : 1 ≤ ds.length) (hC2 : ds.length ≤ 255) (hR : R ≤ 255) (hMl : M.length = R * ds.length) (hl : ∀ p ∈ ds, p.length = L) (hL : L ≤ 1000000) :
  Calls Tryz.prog 68 #[.agg #[N R, N ds.length, mv], dv] w fun e w' => ∃ v, e = .returned v ∧ ∃ ps, Ow w' w.heap.size eHB v ps ∧ Owns w' w.heap.size eB ps (timesL M ds.length R ds L) ∧ Fr w w' := by
 obtain ⟨da, dcap, hdv, hd1, hd2, hd3⟩ := hd.1.shape
 obtain ⟨ma, mcap, hmv, hm1, hm2, hm3⟩ := hM.shape
 subst hdv hmv
 unfold maxLen at hd2 hm2
 have hdl := hd.2.1
 have hmul : R * ds.length ≤ 255 * 255 := Nat.mul_le_mul hR hC2
 have hrow := fun i j (hj : j ≤ ds.length) => rowT_len M ds.length i ds L j hl hj
 have HRow := hid hrow
 clear hrow
 have HMl := hid hMl
 clear hMl
 have hB0 : (w.alloc (.cells #[N R, N ds.length, .slice ma M.length mcap] 105)).heap[w.heap.size]? = some (.cells #[N R, N ds.length, .slice ma M.length mcap] 105 (0, 0)) := heap_new _ _ _ rfl
 have hf0 : Fr w (w.alloc (.cells #[N R, N ds.length, .slice ma M.length mcap] 105)) := (Fr.refl w).alloc _
 have hr0 : ¬ (R : Int) < 0 := by omega
 have hmk := made_run eHB rfl rfl 60 Tryz.underlying60 .i64 .i64 R (by omega) (w.alloc (.cells #[N R, N ds.length, .slice ma M.length mcap] 105))
 have hmo := made_own (base := w.heap.size + 1) eHB rfl rfl R (by omega) (w.alloc (.cells #[N R, N ds.length, .slice ma M.length mcap] 105)) (by simp)
 have HMO := hid hmo
 clear hmo
 have hf1 := hf0.alloc (.cells (madeCells #[eHB.z] R) eHB.e)
 have hB1 := ((Fr.refl _).alloc (.cells (madeCells #[eHB.z] R) eHB.e)).heap hB0
 go_enter Tryz.func68, Tryz.ntmps68
 go_wp2_with fail
 go_loopw [16] (fun iv wr => ∃ (i : Nat) (ps : List Hd), i ≤ R ∧ iv = N i ∧ Ow wr (w.heap.size + 1) eHB (.slice (some ⟨w.heap.size + 1, 0, none⟩) R R) ps ∧ ps.length = R ∧ Hid (∀ t (h : t < ps.length), t < i → Ow wr (w.heap.size + 1) eB ps[t].v (rowT M ds.length t ds L ds.length)) ∧ wr.heap[w.heap.size]? = some (.cells #[N R, N ds.length, .slice ma M.length mcap] 105 (0, 0)) ∧ Fr w wr) (fun iv _ => R - (intOf iv).toNat)
 case atStart => exact ⟨0, _, Nat.zero_le _, rfl, by simpa [size_alloc] using HMO.out, by simp, fun t h ht => by omega, hB1, hf1⟩
 case round =>
  clear hB1 hf1 hmk hB0 hf0
  obtain ⟨i, ps, hi, rfl, hown, hpl, HP, hB, hf⟩ := hrel
  by_cases hlt : i < R
  · have hdw := hd.fr hf
    obtain ⟨b0, off0, cap0, hv0, e0⟩ := hdw.1.cell1 (fun (h : Hd) => h.v) rfl 0 (by omega)
    have hsee0 := hdw.2.2 0 (by omega) (by omega)
    have hl0 := hl _ (List.getElem_mem (l := ds) (n := 0) (by omega))
    obtain ⟨a0, c0, hh0, _⟩ := hsee0.shape
    generalize hs[0]'(by omega) = h0 at *
    rw [hl0] at hh0
    clear hl0 hsee0
    obtain ⟨h0a, h0n, h0c⟩ := h0
    simp only [Hd.v, Value.slice.injEq] at hh0
    obtain ⟨rfl, rfl, rfl⟩ := hh0
    simp only [Hd.v] at e0
    cases hv0
    rw [Nat.add_zero] at e0
    have hmk2 := made_run eB rfl rfl 22 Tryz.underlying22 .i64 .i64 h0n (by omega) wr
    have hmo2 := made_own (base := w.heap.size + 1) eB rfl rfl h0n (by omega) wr (by have h1 := hf.size; have h2 := (Array.getElem?_eq_some_iff.1 hB).1; have h3 := (hown.lt _ rfl).2; omega)
    have hfa := (Fr.refl wr).alloc (.cells (madeCells #[eB.z] h0n) eB.e)
    generalize hW : wr.alloc (.cells (madeCells #[eB.z] h0n) eB.e) = W at *
    have HW := hid hW
    clear hW
    have hi' : (i : Int) < R := by omega
    have hdp : (0 : Int) < hs.length := by omega
    have hmk3 : (Instr.makeSlice 22 (.int .i64 h0n) (.int .i64 h0n)).run Tryz.prog wr = .ok (.slice (some ⟨wr.heap.size, 0, none⟩) h0n h0n) W := hmk2
    clear hmk2
    go_wp2_with fail
    have hfW := hf.trans hfa
    have hBW := hfa.heap hB
    have hownW := hown.fr hfa
    have HPW : Hid (∀ t (h : t < ps.length), t < i → Ow W (w.heap.size + 1) eB ps[t].v (rowT M ds.length t ds h0n ds.length)) := fun t h ht => (HP.out t h ht).fr hfa
    clear hown hB hf hfa HP hdw e0 hmk3 HW
    go_loopw [7, 26] (fun sv jv wr => ∃ (j : Nat), j ≤ ds.length ∧ jv = N j ∧ Ow wr (w.heap.size + 1) eB sv (rowT M ds.length i ds h0n j) ∧ Fr W wr) (fun _ jv _ => ds.length - (intOf jv).toNat)
    case atStart => exact ⟨0, Nat.zero_le _, rfl, hmo2, Fr.refl W⟩
    case round =>
     obtain ⟨j, hj, rfl, hsum, hfq⟩ := hrel
     have HLen := hid (HRow.out i j hj)
     obtain ⟨sva, svc, hsv⟩ := hsum.shape'
     rw [HLen.out] at hsv
     subst hsv
     by_cases hjl : j < ds.length
     · have hdw := hd.fr (hfW.trans hfq)
       obtain ⟨b1, off1, cap1, hv1, e1⟩ := hdw.1.cell1 (fun (h : Hd) => h.v) rfl j (by omega)
       have hseej := hdw.2.2 j (by omega) hjl
       have hlj := hl _ (List.getElem_mem (l := ds) (n := j) hjl)
       have HN : Hid (rowT M ds.length i ds h0n (j + 1) = addP (rowT M ds.length i ds h0n j) (M[i * ds.length + j]'(by rw [HMl.out]; have := Nat.mul_le_mul_right ds.length (show i + 1 ≤ R by omega); rw [Nat.add_mul] at this; omega)).toNat ds[j]) := by
        show _ = _
        rw [rowT, getD_at M _ _ (by rw [HMl.out]; have := Nat.mul_le_mul_right ds.length (show i + 1 ≤ R by omega); rw [Nat.add_mul] at this; omega), getD_at ds j _ hjl]
       have hPl : i * ds.length + j < M.length := by rw [HMl.out]; have := Nat.mul_le_mul_right ds.length (show i + 1 ≤ R by omega); rw [Nat.add_mul] at this; omega
       have hMw := hM.fr (hfW.trans hfq)
       obtain ⟨b2, off2, cap2, hv2, e2⟩ := hMw.cell1 (fun c => Fk.u8 c) rfl (i * ds.length + j) hPl
       have hw1 : IntKind.i64.wrap ((i : Int) * (ds.length : Int)) = ((i * ds.length : Nat) : Int) := by
        rw [Int.natCast_mul]; exact IntWalk.i64_in _ (by rw [← Int.natCast_mul]; omega)
       obtain ⟨aj, cj, hhj, _⟩ := hseej.shape
       generalize hs[j]'(by omega) = hj1 at *
       generalize hdj : ds[j] = dj at *
       clear hdj
       generalize M[i * ds.length + j] = c at *
       generalize rowT M ds.length i ds h0n j = acc at *
       generalize i * ds.length = P at *
       rw [hlj] at hhj
       obtain ⟨hja, hjn, hjc⟩ := hj1
       simp only [Hd.v, Value.slice.injEq] at hhj
       obtain ⟨rfl, rfl, rfl⟩ := hhj
       simp only [Hd.v] at e1 hseej
       cases hv1
       cases hv2
       have hBq := hfq.heap hBW
       have k0 : wr.cell? ⟨w.heap.size, 1, none⟩ = some (N ds.length) := by rw [cell_of_heap hBq]; rfl
       have k1 : wr.cell? ⟨w.heap.size, 2, none⟩ = some (.slice (some ⟨b2, off2, none⟩) M.length mcap) := by rw [cell_of_heap hBq]; rfl
       have i1 : (0 : Int) ≤ j := by omega
       have i2 : (j : Int) < hs.length := by omega
       have hw2 : IntKind.i64.wrap ((P : Int) + j) = (P : Int) + j := IntWalk.i64_in _ (by omega)
       have i3 : (0 : Int) ≤ (P : Int) + j := by omega
       have i4 : (P : Int) + j < M.length := by omega
       have i5 : ((P : Int) + j).toNat = P + j := by omega
       have HLj := hid hlj
       clear hlj
       have HA := hid (fun W1 (h1 : See W1 eB (.slice sva hjn svc) acc) (h2 : See W1 eB (.slice hja hjn hjc) dj) => Add_any _ _ acc dj c.toNat (UInt8.toNat_lt c) W1 h1 h2 (by rw [HLen.out, HLj.out]) (by rw [HLen.out]; exact hL))
       by_cases hc0 : c.toNat = 0
       · have hc0' : (c.toNat : Int) = 0 := by omega
         go_wp2_with fail
         go_roundw
         case rel => exact ⟨j + 1, by omega, by go_num, by rw [HN.out, hc0, addP_zero _ _ (by rw [HLen.out, HLj.out])]; exact hsum, hfq⟩
         case measure => simp [intOf]; omega
       · have hc1 : ((c.toNat : Int) != 0) = true := by rw [bne_iff_ne]; omega
         have hc2 : ¬ (c.toNat : Int) = 0 := by omega
         go_wp2_with fail
         refine (HA.out _ hsum.see hseej).mono ?_
         rintro e w1 ⟨v1, rfl, hown1, hf1⟩
         go_wp2_with fail
         go_roundw
         case rel => exact ⟨j + 1, by omega, by go_num, by rw [HN.out]; exact hown1.rebase (by have := (hfW.trans hfq).size; have := (Array.getElem?_eq_some_iff.1 hBq).1; omega), hfq.trans hf1⟩
         case measure => simp [intOf]; omega
     · obtain rfl : j = ds.length := by omega
       have i1 : (0 : Int) ≤ i := by omega
       have hnl : ¬ ((ds.length : Int) < hs.length) := by omega
       have hwf := hfW.trans hfq
       have hpi : i < ps.length := by omega
       have hownq := hownW.fr hfq
       have hu := hownq.cellAt (fun (h : Hd) => h.v) rfl i hpi
       have hs1 := hownq.set (fun (h : Hd) => h.v) rfl i hpi ⟨sva, h0n, svc⟩ (.slice sva h0n svc) rfl
       obtain ⟨k0, k1⟩ := hu
       generalize hpi' : ps[i].v = pv at *
       have Hpi := hid hpi'
       clear hpi'
       obtain ⟨_, hgb, cur, hgc, _⟩ := hownq.parts
       have hBq := hfq.heap hBW
       have HPn : Hid (∀ t (h : t < (ps.set i ⟨sva, h0n, svc⟩).length), t < i + 1 → Ow (wr.setCell ⟨w.heap.size + 1, i, none⟩ (.slice sva h0n svc)) (w.heap.size + 1) eB (ps.set i ⟨sva, h0n, svc⟩)[t].v (rowT M ds.length t ds h0n ds.length)) := by
        intro t h ht
        have hT : eHB.e ≠ eB.e := by decide
        by_cases hti : t = i
        · subst hti
          rw [List.getElem_set_self]
          exact hsum.chg (setCell_chg wr _ _) (fun q hq e => hsum.ne_cells hgc hT (by rw [hq, e]))
        · rw [List.getElem_set_ne (Ne.symm hti)]
          rw [List.length_set] at h
          have ho := (HPW.out t h (by omega)).fr hfq
          exact ho.chg (setCell_chg wr _ _) (fun q hq e => ho.ne_cells hgc hT (by rw [hq, e]))
       have hfin : Fr w (wr.setCell ⟨w.heap.size + 1, i, none⟩ (.slice sva h0n svc)) := set_below hwf (by omega) hwf.size
       have hBn : (wr.setCell ⟨w.heap.size + 1, i, none⟩ (.slice sva h0n svc)).heap[w.heap.size]? = some (.cells #[N R, N ds.length, .slice ma M.length mcap] 105 (0, 0)) := by
        rw [Below.heap_setCell _ _ _ _ (by simp)]; exact hBq
       have HBn := hid hBn
       have HPl := hid hpl
       clear hBn hpl
       go_wp2_with fail
       go_roundw
       case rel => exact ⟨i + 1, _, by omega, by go_num, hs1, by rw [List.length_set]; exact HPl.out, HPn, HBn.out, hfin⟩
       case measure => simp [intOf]; omega
  · obtain rfl : i = R := by omega
    have hnl : ¬ ((i : Int) < i) := by omega
    have HPl := hid hpl
    clear hpl
    go_wp2_with fail
    go_ret
    have hpl := HPl.out
    refine ⟨.slice (some ⟨w.heap.size + 1, 0, none⟩) i i, rfl, ps, hown.rebase (by omega), ⟨by rw [timesL_len]; exact hpl, fun t h1 h2 => ?_⟩, hf⟩
    rw [timesL_at M ds.length i ds L t (by omega)]
    exact (HP.out t h1 (by omega)).rebase (by omega)
set_option maxRecDepth 512
theorem setRow_row (w : World) (g : Nat) (cs : Array Value) (old : Array Value) (t : TypeId) (h : w.heap[g]? = some (.cells old t (0, 0))) : (w.setRow g cs).heap[g]? = some (.cells cs t (0, 0)) := by
 simp [World.setRow, Array.getElem?_modify, h]
def parL (m : Nat) (ds : List (List UInt8)) (L : Nat) : List (List UInt8) := timesL (cauPre ds.length m 0) ds.length m ds L
set_option maxRecDepth 100000
theorem Parity_any (m : Nat) (dv : Value) (hs : List Hd) (ds : List (List UInt8)) (L : Nat) (w : World) (hd : Sees2 w eHB eB dv hs ds)
  (hC : 1 ≤ ds.length) (hm : ds.length + m ≤ 255) (hl : ∀ p ∈ ds, p.length = L) (hL : L ≤ 1000000) :
  Calls Tryz.prog 31 #[N m, dv] w fun e w' => ∃ v, e = .returned (.tuple #[v, .int .i64 0]) ∧ ∃ ps, Ow w' w.heap.size eHB v ps ∧ Owns w' w.heap.size eB ps (parL m ds L) ∧ Fr w w' := by
 obtain ⟨da, dcap, hdv, hd1, hd2, hd3⟩ := hd.1.shape
 have hA := alike_of hd hl
 have hdl := hd.2.1
 have HM := hid (rmay_any ds.length m hC hm)
 have HA := hid (fun W h => alike_any dv hs L W h hA)
 have HC := hid (Cauchy_any ds.length m hC hm)
 have HT := hid (fun W mv (h1 : See W eB mv (cauPre ds.length m 0)) (h2 : Sees2 W eHB eB dv hs ds) => times_any (cauPre ds.length m 0) m mv dv hs ds L W h1 h2 hC (by omega) (by omega) (by rw [cauPre_len]; omega) hl hL)
 rw [hdl] at hdv
 have hsee := hd.1
 clear hdl hl hA
 unfold parL
 generalize timesL (cauPre ds.length m 0) ds.length m ds L = out at *
 subst hdv
 go_enter Tryz.func31, Tryz.ntmps31
 go_wp2_with fail
 refine (HM.out _).mono ?_
 rintro e w1 ⟨rfl, rfl⟩
 go_wp2_with fail
 refine (HA.out _ hsee).mono ?_
 rintro e w2 ⟨rfl, rfl⟩
 go_wp2_with fail
 refine (HC.out _).mono ?_
 rintro e w3 ⟨mv, rfl, hown3, hf3⟩
 unfold cauV
 have hinf : (Tryz.prog.info? 105).map (·.size) = some 3 := by kernel_rfl
 obtain ⟨va, vc, hv⟩ := hown3.shape'
 subst hv
 have hone : (#[N m, N ds.length, .slice va (cauPre ds.length m 0).length vc] : Array Value).all (·.oneCell') = true := by
  rw [List.all_toArray]; rfl
 have h3 := heap_new w3 (.cells #[.int .i64 0, .int .i64 0, .slice none 0 0] 105) _ rfl
 have hset := setRow_row _ _ #[N m, N ds.length, .slice va (cauPre ds.length m 0).length vc] _ _ h3
 have hf4 : Fr w3 ((w3.alloc (.cells #[.int .i64 0, .int .i64 0, .slice none 0 0] 105)).setRow w3.heap.size #[N m, N ds.length, .slice va (cauPre ds.length m 0).length vc]) := Chg.below ((Fr.refl w3).alloc _) (setRow_chg _ _ _) (by simp) (fun q hq => by rw [hq]; exact Nat.le_refl _)
 have hM4 := hown3.see.fr hf4
 generalize (cauPre ds.length m 0).length = cl at *
 go_wp2_with (first | (refine wpList_store_row rfl 105 (.tmp 6) (.tmp 23) rfl w3.heap.size #[N m, N ds.length, .slice va cl vc] rfl rfl 105 _ h3 hinf rfl hone ?_) | (refine wpList_load_row rfl 105 (.tmp 6) rfl w3.heap.size rfl 105 #[N m, N ds.length, .slice va cl vc] (0, 0) _ hset Tryz.underlying105 rfl hinf ?_))
 refine (HT.out _ _ hM4 ((hd.fr hf3).fr hf4)).mono ?_
 rintro e w5 ⟨v5, rfl, ps, hown5, hsee5, hf5⟩
 go_wp2_with fail
 exact bodyPost_ret (v := .tuple #[v5, .int .i64 0]) (by simp [results, Tryz.results31, go_sem, *]) rfl ⟨_, rfl, ps, hown5.rebase (by have := (hf3.trans hf4).size; omega), hsee5.rebase (by have := (hf3.trans hf4).size; omega), (hf3.trans hf4).trans hf5⟩
set_option maxRecDepth 512
theorem row_bound (i R C j : Nat) (hi : i < R) (hj : j < C) : i * C + j < R * C := by
 have := Nat.mul_le_mul_right C (show i + 1 ≤ R by omega)
 rw [Nat.add_mul] at this; omega
set_option maxRecDepth 100000
theorem Rtimes_any (M : List UInt8) (R : Nat) (mv dv : Value) (hs : List Hd) (ds : List (List UInt8)) (L : Nat) (w : World) (hM : See w eB mv M) (hd : Sees2 w eHB eB dv hs ds)
    (hC : 1 ≤ ds.length) (hC2 : ds.length ≤ 255) (hR : R ≤ 255) (hMl : M.length = R * ds.length) (hl : ∀ p ∈ ds, p.length = L) (hL : L ≤ 1000000) :
    Calls Tryz.prog 113 #[.agg #[N R, N ds.length, mv], dv] w fun e w' => ∃ v, e = .returned v ∧ ∃ ps, Ow w' w.heap.size eHB v ps ∧ Owns w' w.heap.size eB ps (timesL M ds.length R ds L) ∧ Fr w w' := by
  obtain ⟨da, dcap, hdv, hd1, hd2, hd3⟩ := hd.1.shape
  obtain ⟨ma, mcap, hmv, hm1, hm2, hm3⟩ := hM.shape
  subst hdv hmv
  unfold maxLen at hd2 hm2
  have hdl1 : hs.length ≤ ds.length := Nat.le_of_eq hd.2.1
  have hdl2 : ds.length ≤ hs.length := Nat.le_of_eq hd.2.1.symm
  have hmul : R * ds.length ≤ 255 * 255 := Nat.mul_le_mul hR hC2
  have HRow : Hid (∀ i, (rowT M ds.length i ds L ds.length).length = L) := fun i => rowT_len M ds.length i ds L _ hl (Nat.le_refl _)
  have HAt : Hid (∀ i n (h : n < (rowT M ds.length i ds L ds.length).length), (rowT M ds.length i ds L ds.length)[n] = UInt8.ofNat (cellT M ds.length i ds n ds.length)) := fun i n h => rowT_at M ds.length i ds L n ds.length hl (Nat.le_refl _) (by rw [HRow.out] at h; exact h)
  have HMl := hid hMl
  clear hMl
  have hB0 : (w.alloc (.cells #[N R, N ds.length, .slice ma M.length mcap] 105)).heap[w.heap.size]? = some (.cells #[N R, N ds.length, .slice ma M.length mcap] 105 (0, 0)) := heap_new _ _ _ rfl
  have hf0 : Fr w (w.alloc (.cells #[N R, N ds.length, .slice ma M.length mcap] 105)) := (Fr.refl w).alloc _
  go_enter Tryz.func113, Tryz.ntmps113
  go_wp2_with fail
  go_loopw [5, 6] (fun ov iv wr => ∃ (i : Nat) (ps : List Hd), i ≤ R ∧ iv = N i ∧ Ow wr (w.heap.size + 1) eHB ov ps ∧ Hid (ps.length = i) ∧ Hid (∀ t (h : t < ps.length), Ow wr (w.heap.size + 1) eB ps[t].v (rowT M ds.length t ds L ds.length)) ∧ wr.heap[w.heap.size]? = some (.cells #[N R, N ds.length, .slice ma M.length mcap] 105 (0, 0)) ∧ Fr w wr) (fun _ iv _ => R - (intOf iv).toNat)
  case atStart => exact ⟨0, [], Nat.zero_le _, rfl, Ow.nil, rfl, fun t h => by simp at h, hB0, hf0⟩
  case round =>
    clear hB0 hf0
    obtain ⟨i, ps, hi, rfl, hown, HPl, HP, hB, hf⟩ := hrel
    have k0 : wr.cell? ⟨w.heap.size, 0, none⟩ = some (N R) := by rw [cell_of_heap hB]; rfl
    by_cases hlt : i < R
    · have hi' : (i : Int) < R := by omega
      have hlen := hid (HRow.out i)
      have hAt := hid (HAt.out i)
      generalize wr = W at *
      have hxs : w.heap.size + 1 ≤ W.heap.size := by have := (Array.getElem?_eq_some_iff.1 hB).1; omega
      go_wp2_with fail
      go_loopw [7, 8] (fun sv nv wr => ∃ (n : Nat), n ≤ L ∧ nv = N n ∧ Ow wr W.heap.size eB sv ((rowT M ds.length i ds L ds.length).take n) ∧ Fr W wr) (fun _ nv _ => L - (intOf nv).toNat)
      case atStart => exact ⟨0, Nat.zero_le _, rfl, by rw [List.take_zero]; exact Ow.nil, Fr.refl W⟩
      case round =>
        obtain ⟨n, hn, rfl, hsum, hfm⟩ := hrel
        generalize wr = W0 at *
        replace hB := hfm.heap hB
        clear k0
        have k0 : W0.cell? ⟨w.heap.size, 0, none⟩ = some (N R) := by rw [cell_of_heap hB]; rfl
        have hdw := hd.fr (hf.trans hfm)
        obtain ⟨b0, off0, cap0, hv0, e0⟩ := hdw.1.cell1 (fun (h : Hd) => h.v) rfl 0 (by omega)
        have hsee0 := hdw.2.2 0 (by omega) (by omega)
        have hl0 := hl _ (List.getElem_mem (l := ds) (n := 0) (by omega))
        obtain ⟨a0, c0, hh0, _⟩ := hsee0.shape
        generalize hs[0]'(by omega) = h0 at *
        rw [hl0] at hh0
        clear hl0 hsee0
        obtain ⟨h0a, h0n, h0c⟩ := h0
        simp only [Hd.v, Value.slice.injEq] at hh0
        obtain ⟨rfl, rfl, rfl⟩ := hh0
        simp only [Hd.v] at e0
        cases hv0
        rw [Nat.add_zero] at e0
        have hdp : (0 : Int) < hs.length := by omega
        by_cases hnl : n < h0n
        · have hn1 : (n : Int) < h0n := by omega
          have HN : Hid ((rowT M ds.length i ds h0n ds.length).take (n + 1) = (rowT M ds.length i ds h0n ds.length).take n ++ [UInt8.ofNat (cellT M ds.length i ds n ds.length)]) := by
            show _ = _
            rw [List.take_succ_eq_append_getElem (by rw [hlen.out]; exact hnl), hAt.out n (by rw [hlen.out]; exact hnl)]
          have HTl : Hid (((rowT M ds.length i ds h0n ds.length).take n).length = n) := by show _ = _; rw [List.length_take, hlen.out]; omega
          go_wp2_with fail
          go_loopw [9, 10] (fun cv jv wr => ∃ (j : Nat), j ≤ ds.length ∧ jv = N j ∧ cv = B8 (cellT M ds.length i ds n j) ∧ Fr W0 wr) (fun _ jv _ => ds.length - (intOf jv).toNat)
          case atStart => exact ⟨0, Nat.zero_le _, rfl, rfl, Fr.refl W0⟩
          case round =>
            obtain ⟨j, hj, rfl, rfl, hfq⟩ := hrel
            have hBq := hfq.heap hB
            have k1 : wr.cell? ⟨w.heap.size, 1, none⟩ = some (N ds.length) := by rw [cell_of_heap hBq]; rfl
            have hcl := cellT_lt M ds.length i ds n j
            by_cases hjl : j < ds.length
            · have hdq := hd.fr ((hf.trans hfm).trans hfq)
              obtain ⟨b1, off1, cap1, hv1, e1⟩ := hdq.1.cell1 (fun (h : Hd) => h.v) rfl j (by omega)
              have hseej := hdq.2.2 j (by omega) hjl
              have hlj := hl _ (List.getElem_mem (l := ds) (n := j) hjl)
              have hPl : i * ds.length + j < M.length := by rw [HMl.out]; exact row_bound i R ds.length j hlt hjl
              have HC2 : Hid (cellT M ds.length i ds n (j + 1) = cellT M ds.length i ds n j ^^^ mulN (M[i * ds.length + j]'hPl).toNat (ds[j][n]'(by omega)).toNat) := by
                show _ = _
                rw [cellT, getD_at M _ _ hPl, getD_at ds j _ hjl, getD_at _ n _ (by omega)]
              have hMq := hM.fr ((hf.trans hfm).trans hfq)
              obtain ⟨b2, off2, cap2, hv2, e2⟩ := hMq.cell1 (fun c => Fk.u8 c) rfl (i * ds.length + j) hPl
              have hw1 : IntKind.i64.wrap ((i : Int) * (ds.length : Int)) = ((i * ds.length : Nat) : Int) := by
                rw [Int.natCast_mul]; exact IntWalk.i64_in _ (by rw [← Int.natCast_mul]; omega)
              obtain ⟨b3, off3, cap3, hv3, e3⟩ := hseej.cell1 (fun c => Fk.u8 c) rfl n (by omega)
              generalize hs[j]'(by omega) = hj1 at *
              generalize ds[j][n]'(by omega) = y at *
              generalize M[i * ds.length + j] = c at *
              generalize cellT M ds.length i ds n j = acc at *
              generalize i * ds.length = P at *
              rw [hlj] at hv3
              clear hlj hseej
              obtain ⟨hja, hjn, hjc⟩ := hj1
              simp only [Hd.v, Value.slice.injEq] at hv3
              obtain ⟨rfl, rfl, rfl⟩ := hv3
              simp only [Hd.v] at e1
              cases hv1
              cases hv2
              have k2 : wr.cell? ⟨w.heap.size, 2, none⟩ = some (.slice (some ⟨b2, off2, none⟩) M.length mcap) := by rw [cell_of_heap hBq]; rfl
              have i1 : (0 : Int) ≤ j := by omega
              have i2 : (j : Int) < hs.length := by omega
              have i2' : (j : Int) < ds.length := by omega
              have hw2 : IntKind.i64.wrap ((P : Int) + j) = (P : Int) + j := IntWalk.i64_in _ (by omega)
              have i3 : (0 : Int) ≤ (P : Int) + j := by omega
              have i4 : (P : Int) + j < M.length := by omega
              have i5 : ((P : Int) + j).toNat = P + j := by omega
              have i6 : (0 : Int) ≤ n := by omega
              have hcb := UInt8.toNat_lt c
              have hyb := UInt8.toNat_lt y
              have hx := xor_u8 acc (mulN c.toNat y.toNat) hcl (mul_lt _ _ hcb)
              have HML : Hid (∀ W, Calls Tryz.prog 146 #[B8 c.toNat, B8 y.toNat] W fun e w' => e = .returned (B8 (mulN c.toNat y.toNat)) ∧ w' = W) := fun W => (RMul_any c.toNat y.toNat hcb hyb W).mono fun e w' ⟨h1, h2⟩ => ⟨h1, h2.symm⟩
              generalize mulN c.toNat y.toNat = z at *
              go_wp2_with fail
              go_quiet ((go_at_call 146; exact Calls.quiet_of_same (HML.out _)))
              go_wp2_with fail
              go_roundw
              case rel => exact ⟨j + 1, by omega, by go_num, by rw [HC2.out], hfq.drewN _⟩
              case measure => simp [intOf]; omega
            · obtain rfl : j = ds.length := by omega
              have hnj : ¬ ((ds.length : Int) < ds.length) := by omega
              have hsum2 := hsum.fr hfq
              have hf2 := hfm.trans hfq
              have HBc : Hid ((#[B8 (cellT M ds.length i ds n ds.length)] : Array Value).toList = eB.cells [UInt8.ofNat (cellT M ds.length i ds n ds.length)]) := byte_cell _ hcl
              have hc1 : ((rowT M ds.length i ds h0n ds.length).take n).length + 1 ≤ 2147483648 := by rw [HTl.out]; omega
              go_wp2_with (at_builtin; refine wpList_app1 eB rfl (.tmp 51) (.tmp 53) 22 rfl Tryz.underlying22 W.heap.size rfl hsum2 [UInt8.ofNat (cellT M ds.length i ds n ds.length)] _ _ _ HBc.out rfl rfl hc1 hf2.size ?_)
              intro v' w4 hap
              go_wp2_with fail
              go_roundw
              case rel => exact ⟨n + 1, by omega, by go_num, by rw [HN.out]; exact hap.own, hap.below hsum2 hf2 (Nat.le_refl _) hf2.size⟩
              case measure => simp [intOf]; omega
        · obtain rfl : n = h0n := by omega
          have hnn : ¬ ((n : Int) < n) := by omega
          rw [List.take_of_length_le (by rw [hlen.out]; omega)] at hsum
          obtain ⟨sva, svc, hsv⟩ := hsum.shape'
          rw [hlen.out] at hsv
          subst hsv
          have hown2 := hown.fr hfm
          have hPl2 := hid HPl.out
          go_wp2_with (at_builtin; refine wpList_app1 eHB rfl (.tmp 55) (.tmp 57) 60 rfl Tryz.underlying60 (w.heap.size + 1) rfl hown2 [⟨sva, n, svc⟩] _ _ _ rfl rfl rfl (by have := hPl2.out; simp; omega) (by have := hfm.size; omega) ?_)
          intro v' w4 hap
          have hT : eHB.e ≠ eB.e := by decide
          have hsum4 := own_app hsum hown2 hap hT
          have HP4 : Hid (∀ t (h : t < (ps ++ [⟨sva, n, svc⟩] : List Hd).length), Ow w4 (w.heap.size + 1) eB (ps ++ [⟨sva, n, svc⟩] : List Hd)[t].v (rowT M ds.length t ds n ds.length)) := by
            intro t h
            by_cases ht : t < ps.length
            · rw [List.getElem_append_left ht]
              exact own_app ((HP.out t ht).fr hfm) hown2 hap hT
            · obtain rfl : t = i := by have := hPl2.out; simp at h; omega
              rw [List.getElem_append_right (by omega)]
              simp only [hPl2.out, Nat.sub_self, List.getElem_cons_zero]
              exact hsum4.rebase hxs
          have hf4 : Fr w w4 := hap.below hown2 (hf.trans hfm) (by omega) (hf.trans hfm).size
          have hB4 := hap.chg'.heap hB (fun e => by have := (hown2.lt _ e).1; omega)
          go_wp2_with fail
          go_roundw
          case rel => exact ⟨i + 1, _, by omega, by go_num, hap.own, by show _ = _; rw [List.length_append, hPl2.out]; rfl, HP4, hB4, hf4⟩
          case measure => simp [intOf]; omega
    · obtain rfl : i = R := by omega
      have hnn : ¬ ((i : Int) < i) := by omega
      obtain ⟨ova, ovc, hov⟩ := hown.shape'
      rw [HPl.out] at hov
      subst hov
      go_wp2_with fail
      go_ret
      refine ⟨_, rfl, ps, hown.rebase (by omega), ⟨by rw [timesL_len]; exact HPl.out, fun t h1 h2 => ?_⟩, hf⟩
      rw [timesL_at M ds.length i ds L t (by have := HPl.out; omega)]
      exact (HP.out t h1).rebase (by omega)
theorem RParity_any (m : Nat) (dv : Value) (hs : List Hd) (ds : List (List UInt8)) (L : Nat) (w : World) (hd : Sees2 w eHB eB dv hs ds)
    (hC : 1 ≤ ds.length) (hm : ds.length + m ≤ 255) (hl : ∀ p ∈ ds, p.length = L) (hL : L ≤ 1000000) :
    Calls Tryz.prog 76 #[N m, dv] w fun e w' => ∃ v, e = .returned (.tuple #[v, .int .i64 0]) ∧ ∃ ps, Ow w' w.heap.size eHB v ps ∧ Owns w' w.heap.size eB ps (parL m ds L) ∧ Fr w w' := by
  obtain ⟨da, dcap, hdv, hd1, hd2, hd3⟩ := hd.1.shape
  have hA := alike_of hd hl
  have hdl := hd.2.1
  have HM := hid (RMay_any ds.length m hC hm)
  have HA := hid (fun W h => RAlike_any dv hs L W (by rw [hd.2.1]; exact hC) h hA)
  have HC := hid (RCauchy_any ds.length m hC hm)
  have HT := hid (fun W mv (h1 : See W eB mv (cauPre ds.length m 0)) (h2 : Sees2 W eHB eB dv hs ds) => Rtimes_any (cauPre ds.length m 0) m mv dv hs ds L W h1 h2 hC (by omega) (by omega) (by rw [cauPre_len]; omega) hl hL)
  rw [hdl] at hdv
  have hsee := hd.1
  clear hdl hl hA
  unfold parL
  generalize timesL (cauPre ds.length m 0) ds.length m ds L = out at *
  subst hdv
  go_enter Tryz.func76, Tryz.ntmps76
  go_wp2_with fail
  refine (HM.out _).mono ?_
  rintro e w1 ⟨rfl, rfl⟩
  go_wp2_with fail
  refine (HA.out _ hsee).mono ?_
  rintro e w2 ⟨rfl, hf2⟩
  go_wp2_with fail
  refine (HC.out _).mono ?_
  rintro e w3 ⟨mv, rfl, hown3, hf3⟩
  unfold cauV
  have hinf : (Tryz.prog.info? 105).map (·.size) = some 3 := by kernel_rfl
  obtain ⟨va, vc, hv⟩ := hown3.shape'
  subst hv
  have hone : (#[N m, N ds.length, .slice va (cauPre ds.length m 0).length vc] : Array Value).all (·.oneCell') = true := by
    rw [List.all_toArray]; rfl
  have h3 := heap_new w3 (.cells #[.int .i64 0, .int .i64 0, .slice none 0 0] 105) _ rfl
  have hset := setRow_row _ _ #[N m, N ds.length, .slice va (cauPre ds.length m 0).length vc] _ _ h3
  have hf4 : Fr w3 ((w3.alloc (.cells #[.int .i64 0, .int .i64 0, .slice none 0 0] 105)).setRow w3.heap.size #[N m, N ds.length, .slice va (cauPre ds.length m 0).length vc]) := Chg.below ((Fr.refl w3).alloc _) (setRow_chg _ _ _) (by simp) (fun q hq => by rw [hq]; exact Nat.le_refl _)
  have hM4 := hown3.see.fr hf4
  generalize (cauPre ds.length m 0).length = cl at *
  go_wp2_with (first | (refine wpList_store_row rfl 105 (.tmp 6) (.tmp 23) rfl w3.heap.size #[N m, N ds.length, .slice va cl vc] rfl rfl 105 _ h3 hinf rfl hone ?_) | (refine wpList_load_row rfl 105 (.tmp 6) rfl w3.heap.size rfl 105 #[N m, N ds.length, .slice va cl vc] (0, 0) _ hset Tryz.underlying105 rfl hinf ?_))
  refine (HT.out _ _ hM4 (((hd.fr hf2).fr hf3).fr hf4)).mono ?_
  rintro e w5 ⟨v5, rfl, ps, hown5, hsee5, hf5⟩
  go_wp2_with fail
  exact bodyPost_ret (v := .tuple #[v5, .int .i64 0]) (by simp [results, Tryz.results76, go_sem, *]) rfl ⟨_, rfl, ps, hown5.rebase (by have := ((hf2.trans hf3).trans hf4).size; omega), hsee5.rebase (by have := ((hf2.trans hf3).trans hf4).size; omega), ((hf2.trans hf3).trans hf4).trans hf5⟩
set_option maxRecDepth 512
end Go.Proofs.YtfhdgenlpmlajaaGreatDoor
