/- Parts of the proof of ThreeMends: Mr3. -/
import Derived.Test.YtfhdgenlpmlajaaGreatDoorM38
import Derived.Test.YtfhdgenlpmlajaaGreatDoorM36
import Derived.Deep.RegionHeldLaw
set_option linter.unusedVariables false
set_option linter.unusedSectionVars false
set_option linter.unusedSimpArgs false
set_option maxHeartbeats 8000000
namespace Go.Proofs.YtfhdgenlpmlajaaGreatDoor
open Go.RowKit Go.Fk
def ldPick : Op := .load 22 (.tmp 50)
attribute [local go_sem] ldPick
def rowL (M : List UInt8) (C a : Nat) : List UInt8 := (M.take ((a + 1) * C)).drop (a * C)
theorem rowL_len (M : List UInt8) (R C a : Nat) (hM : M.length = R * C) (ha : a < R) : (rowL M C a).length = C := by
 have h2 : (a + 1) * C ≤ R * C := Nat.mul_le_mul_right C ha
 unfold rowL
 rw [List.length_drop, List.length_take]
 rw [Nat.add_mul] at h2 ⊢
 omega
theorem rowL_at (M : List UInt8) (C a j : Nat) (h : j < (rowL M C a).length) (h2 : a * C + j < M.length) : (rowL M C a)[j] = M[a * C + j] := by
 simp only [rowL, List.getElem_drop, List.getElem_take]
set_option maxRecDepth 100000
theorem RPick_any (R C : Nat) (M : List UInt8) (ats : List Nat) (mv rv : Value) (w : World) (ho : See w eB mv M) (hM : M.length = R * C) (hr : See w eJ rv ats) (hat : ∀ r ∈ ats, r < R) (hC : 1 ≤ C) (hC2 : C ≤ 255) (hR1 : 1 ≤ R) (hR : R ≤ 255) (hal : ats.length ≤ 255) :
    Calls Tryz.prog 111 #[.agg #[N R, N C, mv], rv] w fun e w' => ∃ u, e = .returned (.tuple #[.agg #[N ats.length, N C, u], .int .i64 0]) ∧ Ow w' w.heap.size eB u (pickL M C ats) ∧ Fr w w' := by
  obtain ⟨ma, mcap, hmv, hm1, hm2, _⟩ := ho.shape
  rw [hM] at hmv
  subst hmv
  unfold maxLen at hm2
  obtain ⟨ra, rcap, hrv, _, _, _⟩ := hr.shape
  subst hrv
  have HM := hid (RMMay_any R C ma mcap hR hC2)
  have HPL := hid (fun i => pickL_len M R C hM (ats.take i) (fun r hr => hat r (List.mem_of_mem_take hr)))
  have HRl := hid (fun a ha => rowL_len M R C a hM ha)
  have HRa : Hid (∀ a j (h : j < (rowL M C a).length) (h2 : a * C + j < M.length), (rowL M C a)[j] = M[a * C + j]) := fun a j h h2 => rowL_at M C a j h h2
  have HStep : Hid (∀ i (h : i < ats.length), pickL M C (ats.take (i + 1)) = pickL M C (ats.take i) ++ rowL M C ats[i]) := pickL_step M C ats
  have HAll : Hid (pickL M C (ats.take ats.length) = pickL M C ats) := by show _ = _; rw [List.take_of_length_le (Nat.le_refl _)]
  have HZ : Hid (pickL M C (ats.take 0) = []) := rfl
  have Hat : Hid (∀ i (h : i < ats.length), ats[i] < R) := fun i h => hat _ (List.getElem_mem h)
  have HMul : Hid (∀ a j, a < R → j < C → a * C + j < R * C) := fun a j ha hj => by have := Nat.mul_le_mul_right C (show a + 1 ≤ R by omega); rw [Nat.add_mul] at this; omega
  have HML := hid hM
  have hmn2 : R * C ≤ 255 * 255 := Nat.mul_le_mul hR hC2
  clear hM hat
  generalize hmn : R * C = mn at *
  have hb0 : ((w.alloc (.cells #[N R, N C, .slice ma mn mcap] 105)).alloc (.cells #[.int .i64 0, .int .i64 0, .slice none 0 0] 105)).heap[w.heap.size]? = some (.cells #[N R, N C, .slice ma mn mcap] 105 (0, 0)) := by
    rw [heap_old _ _ _ (by simp), heap_new _ _ _ rfl]
  have hb1 : ((w.alloc (.cells #[N R, N C, .slice ma mn mcap] 105)).alloc (.cells #[.int .i64 0, .int .i64 0, .slice none 0 0] 105)).heap[w.heap.size + 1]? = some (.cells #[.int .i64 0, .int .i64 0, .slice none 0 0] 105 (0, 0)) := heap_new _ _ _ (by simp)
  have hf0 : Fr w ((w.alloc (.cells #[N R, N C, .slice ma mn mcap] 105)).alloc (.cells #[.int .i64 0, .int .i64 0, .slice none 0 0] 105)) := ((Fr.refl w).alloc _).alloc _
  have hs0 : ((w.alloc (.cells #[N R, N C, .slice ma mn mcap] 105)).alloc (.cells #[.int .i64 0, .int .i64 0, .slice none 0 0] 105)).heap.size = w.heap.size + 2 := by simp
  have hal' : ¬ (255 : Int) < ats.length := by omega
  go_enter Tryz.func111, Tryz.ntmps111
  go_upto_region 1 with fail
  generalize (w.alloc (.cells #[N R, N C, .slice ma mn mcap] 105)).alloc (.cells #[.int .i64 0, .int .i64 0, .slice none 0 0] 105) = w0 at *
  generalize hg : w.heap.size = g at *
  have k0 : w0.cell? ⟨g, 0, none⟩ = some (N R) := by rw [cell_of_heap hb0]; rfl
  have k1 : w0.cell? ⟨g, 1, none⟩ = some (N C) := by rw [cell_of_heap hb0]; rfl
  have k2 : w0.cell? ⟨g, 2, none⟩ = some (.slice ma mn mcap) := by rw [cell_of_heap hb0]; rfl
  go_wp2_with fail
  refine (HM.out _).mono ?_
  rintro e w1 ⟨rfl, hf1⟩
  have k1' := hf1.cell k1
  have hb0 := hf1.heap hb0
  have hb1 := hf1.heap hb1
  have hf01 := hf0.trans hf1
  have hs1 : g + 2 ≤ w1.heap.size := by have := hf1.size; omega
  clear k0 k1 k2 hf0 hf1 HM hs0
  have hA : (w1.alloc (.cells #[N ats.length, N C, .slice none 0 0] 105)).heap[w1.heap.size]? = some (.cells #[N ats.length, N C, .slice none 0 0] 105 (0, 0)) := heap_new _ _ _ rfl
  have hfA : Fr w1 (w1.alloc (.cells #[N ats.length, N C, .slice none 0 0] 105)) := (Fr.refl w1).alloc _
  have hb0A := hfA.heap hb0
  have hb1A := hfA.heap hb1
  have hfwA := hf01.trans hfA
  have hsA : g + 2 ≤ (w1.alloc (.cells #[N ats.length, N C, .slice none 0 0] 105)).heap.size := by simp; omega
  go_upto_region 5 with fail
  clear hb0 hb1 k1' hf01 hfA
  generalize w1.alloc (.cells #[N ats.length, N C, .slice none 0 0] 105) = w2 at *
  generalize w1.heap.size = q at *
  go_loopw [7] (fun iv wr => ∃ (i : Nat) (sv : Value), i ≤ ats.length ∧ iv = N i ∧ wr.heap[g]? = some (.cells #[N R, N C, .slice ma mn mcap] 105 (0, 0)) ∧ wr.heap[g + 1]? = some (.cells #[.int .i64 0, .int .i64 0, .slice none 0 0] 105 (0, 0)) ∧ wr.heap[q]? = some (.cells #[N ats.length, N C, sv] 105 (0, 0)) ∧ Ow wr (g + 2) eB sv (pickL M C (ats.take i)) ∧ Fr w wr ∧ g + 2 ≤ wr.heap.size) (fun iv _ => ats.length - (intOf iv).toNat)
  case atStart => exact ⟨0, _, Nat.zero_le _, rfl, hb0A, hb1A, hA, by rw [HZ.out]; exact Ow.nil, hfwA, hsA⟩
  case round =>
    clear hb0A hb1A hA hfwA hsA
    obtain ⟨i, sv, hi, rfl, hB0, hB1, hBq, hown, hf, hs⟩ := hrel
    by_cases hlt : i < ats.length
    · obtain ⟨rb, roff, rc, hv1, e1⟩ := (hr.fr hf).cell1 (fun n => N n) rfl i hlt
      simp only [Value.slice.injEq] at hv1
      obtain ⟨rfl, hk9, rfl⟩ := hv1
      clear hk9
      have HStep2 := hid (HStep.out i hlt)
      have haR := Hat.out i hlt
      have hPn := HPL.out i
      have hE1 : Hid (∀ W, Fr w W → W.cell? ⟨rb, roff + i, none⟩ = some (N ats[i])) := fun W h => by
        obtain ⟨b', o', c', hv', e'⟩ := (hr.fr h).cell1 (fun n => N n) rfl i hlt
        simp only [Value.slice.injEq, Option.some.injEq, Addr.mk.injEq, and_true] at hv'
        obtain ⟨⟨rfl, rfl⟩, _, _⟩ := hv'
        exact e'
      have hPl : (pickL M C (ats.take i)).length + C ≤ 255 * 255 + 255 := by
        rw [hPn, List.length_take]
        have : min i ats.length * C ≤ 255 * 255 := Nat.mul_le_mul (by omega) hC2
        omega
      have HRl2 := hid (HRl.out ats[i] haR)
      have HRa2 := hid (HRa.out ats[i])
      have HMul2 := hid (fun j hj => HMul.out ats[i] j haR hj)
      have haC : ats[i] * C ≤ 255 * 255 := Nat.mul_le_mul (by omega) hC2
      generalize ats[i] = a at *
      have ha1 : decide ((a : Int) < 0) = false := decide_eq_false (by omega)
      have ha2 : decide ((R : Int) ≤ a) = false := decide_eq_false (by omega)
      have c0 : wr.cell? ⟨g, 0, none⟩ = some (N R) := by rw [cell_of_heap hB0]; rfl
      have i1 : (0 : Int) ≤ i := by omega
      have i2 : (i : Int) < ats.length := by omega
      have hw1 := wrap_nmul a C 255 255 (by omega) hC2 (by omega)
      generalize rowL M C a = row at *
      generalize a * C = aC at *
      obtain ⟨P2, hP2⟩ : ∃ q, q = pickL M C (ats.take (i + 1)) := ⟨_, rfl⟩
      rw [← hP2] at HStep2
      have HP2 := hid hP2
      clear hP2 hPn HPL HStep Hat HMul HRa HRl
      generalize pickL M C (ats.take i) = P1 at *
      go_wp2_with fail
      go_quiet (fail)
      go_wp2_with fail
      have hB0D := ((Fr.refl wr).drewN nq).heap hB0
      have hB1D := ((Fr.refl wr).drewN nq).heap hB1
      have hBqD := ((Fr.refl wr).drewN nq).heap hBq
      have hownD := hown.fr ((Fr.refl wr).drewN nq)
      have hfD := hf.drewN nq
      have hsD : g + 2 ≤ (wr.drewN nq).heap.size := Nat.le_trans hs ((Fr.refl wr).drewN nq).size
      clear hB0 hB1 hBq hown hf hs e1 c0
      generalize wr.drewN nq = wz at *
      have ha3 : decide (R ≤ a) = false := decide_eq_false (by omega)
      rw [ha3]
      go_loopw [8] (fun jv wr => ∃ (j : Nat) (sv : Value), j ≤ C ∧ jv = N j ∧ wr.heap[g]? = some (.cells #[N R, N C, .slice ma mn mcap] 105 (0, 0)) ∧ wr.heap[g + 1]? = some (.cells #[.int .i64 0, .int .i64 0, .slice none 0 0] 105 (0, 0)) ∧ wr.heap[q]? = some (.cells #[N ats.length, N C, sv] 105 (0, 0)) ∧ Ow wr (g + 2) eB sv (P1 ++ row.take j) ∧ Fr w wr ∧ g + 2 ≤ wr.heap.size) (fun jv _ => C - (intOf jv).toNat)
      case atStart => exact ⟨0, sv, Nat.zero_le _, rfl, hB0D, hB1D, hBqD, by simpa using hownD, hfD, hsD⟩
      case round =>
        clear hB0D hB1D hBqD hownD hfD hsD
        obtain ⟨j, sv, hj, rfl, hB0, hB1, hBq, hown, hf, hs⟩ := hrel
        have c1 : wr.cell? ⟨g, 1, none⟩ = some (N C) := by rw [cell_of_heap hB0]; rfl
        by_cases hjl : j < C
        · have hj' : (j : Int) < C := by omega
          have hml := HMul2.out j hjl
          have hjr : j < row.length := by rw [HRl2.out]; exact hjl
          have hmM : aC + j < M.length := by rw [HML.out]; exact hml
          have HRj := hid (HRa2.out j hjr hmM)
          have hE := hE1.out wr hf
          obtain ⟨mb, moff, mc, hmv, em⟩ := (ho.fr hf).cell1 (fun c => Fk.u8 c) rfl (aC + j) hmM
          simp only [Value.slice.injEq] at hmv
          obtain ⟨rfl, hk9, rfl⟩ := hmv
          clear hk9
          have HTk : Hid (P1 ++ row.take (j + 1) = (P1 ++ row.take j) ++ [M[aC + j]]) := by
            show _ = _
            rw [List.take_add_one, List.getElem?_eq_getElem hjr, ← List.append_assoc, HRj.out]; rfl
          have HLn : Hid ((P1 ++ row.take j).length + 1 ≤ 2147483648) := by show _ ≤ _; rw [List.length_append, List.length_take]; omega
          have hw2 : IntKind.i64.wrap ((aC : Int) + j) = ((aC + j : Nat) : Int) := by rw [show (aC : Int) + j = ((aC + j : Nat) : Int) by omega]; exact wrap_i64 _ (by omega)
          have i3 : (0 : Int) ≤ ((aC + j : Nat) : Int) := by omega
          have i4 : ((aC + j : Nat) : Int) < mn := by omega
          have i5 : (((aC + j : Nat) : Int)).toNat = aC + j := by omega
          have c2 : wr.cell? ⟨g, 2, none⟩ = some (.slice (some ⟨mb, moff, none⟩) mn mcap) := by rw [cell_of_heap hB0]; rfl
          have d2 : wr.cell? ⟨q, 2, none⟩ = some sv := by rw [cell_of_heap hBq]; rfl
          have hneq : ∀ q, sv.ownBlock = some q → g + 2 ≤ q := fun q hq => (hown.lt q hq).1
          have hne := hown.ne_cells hBq (by decide)
          have HEM0 : Hid (∀ W, Fr w W → W.cell? ⟨mb, moff + (aC + j), none⟩ = some (Fk.u8 M[aC + j])) := fun W h => by
            obtain ⟨b', o', c', hv', e'⟩ := (ho.fr h).cell1 (fun c => Fk.u8 c) rfl (aC + j) hmM
            simp only [Value.slice.injEq, Option.some.injEq, Addr.mk.injEq, and_true] at hv'
            obtain ⟨⟨rfl, rfl⟩, _, _⟩ := hv'
            exact e'
          generalize M[aC + j] = x at *
          generalize hacj : aC + j = acj at *
          obtain ⟨P3, hP3⟩ : ∃ q, q = P1 ++ row.take (j + 1) := ⟨_, rfl⟩
          rw [← hP3] at HTk
          have HP3 := hid hP3
          clear hP3 hacj hml hjr hmM HRj
          generalize P1 ++ row.take j = P0 at *
          have hownD := hown.drew
          have HEM : Hid (∀ W, Fr w W → W.cell? ⟨mb, moff + acj, none⟩ = some (.int .u8 (x.toNat : Int))) := HEM0.out
          have em2 : wr.cell? ⟨mb, moff + acj, none⟩ = some (.int .u8 (x.toNat : Int)) := em
          have d2a : (wr.alloc (.cells #[.int .u8 (x.toNat : Int)] 5)).cell? ⟨q, 2, none⟩ = some sv := ((Fr.refl wr).alloc _).cell d2
          clear em
          go_upto_region 12 with fail
          have hqlt : w.heap.size ≤ q := by rw [hg]; omega
          have keepF : ∀ W, Fr w W → W.heap[g]? = some (.cells #[N R, N C, .slice (some ⟨mb, moff, none⟩) mn mcap] 105 (0, 0)) → W.cell? ⟨g, 1, none⟩ = some (N C) ∧ W.cell? ⟨g, 2, none⟩ = some (.slice (some ⟨mb, moff, none⟩) mn mcap) ∧ W.cell? ⟨rb, roff + i, none⟩ = some (N a) ∧ W.cell? ⟨mb, moff + acj, none⟩ = some (.int .u8 (x.toNat : Int)) := fun W hW hB => ⟨by rw [cell_of_heap hB]; rfl, by rw [cell_of_heap hB]; rfl, hE1.out W hW, HEM.out W hW⟩
          have hk0 := keepF wr.drew (Fr.drew hf) hB0
          have hfal : Fr wr (wr.alloc (.cells #[.int .u8 (x.toNat : Int)] 5)) := (Fr.refl wr).alloc _
          have hk1 := keepF _ (hf.trans hfal) (hfal.heap hB0)
          rw [show Op.load 22 (.tmp 50) = ldPick from rfl]
          go_region_held_law (fun W => W.cell? ⟨g, 1, none⟩ = some (N C) ∧ W.cell? ⟨g, 2, none⟩ = some (.slice (some ⟨mb, moff, none⟩) mn mcap) ∧ W.cell? ⟨rb, roff + i, none⟩ = some (N a) ∧ W.cell? ⟨mb, moff + acj, none⟩ = some (.int .u8 (x.toNat : Int)))
            (first | exact hk0 | exact hk1 | exact hk4 | exact hk5 _ | go_keep)
            (((first | refine step_app1 eB rfl (.tmp 51) (.tmp 65) 22 rfl Tryz.underlying22 (g + 2) rfl hownD [x] _ _ _ rfl rfl rfl HLn.out hs ?_ | refine step_app1d eB rfl (.tmp 51) (.tmp 65) 22 rfl Tryz.underlying22 (g + 2) rfl hown [x] _ _ _ rfl rfl rfl HLn.out hs ?_)
              intro v' w4 hap
              have own4 := hap.own
              rw [← HTk.out] at own4
              obtain ⟨va, vc, hv'⟩ := own4.shape'
              subst hv'
              have m0 := hap.chg'.heap (show wr.drew.heap[g]? = _ from hB0) (fun e => by have := hneq g e; omega)
              have m1 := hap.chg'.heap (show wr.drew.heap[g + 1]? = _ from hB1) (fun e => by have := hneq (g + 1) e; omega)
              have mq := hap.chg'.heap (show wr.drew.heap[q]? = _ from hBq) hne
              have hf4 : Fr w w4 := by first | exact hap.below hownD (Fr.drew hf) (by rw [hg]; omega) (Fr.drew hf).size | exact hap.below hown hf (by rw [hg]; omega) hf.size
              have hs4 : g + 2 ≤ w4.heap.size := Nat.le_trans hs hap.size
              have e3 : w4.cell? ⟨q, 2, none⟩ = some sv := by rw [cell_of_heap mq]; rfl
              have e4 : w4.frozen? ⟨q, 2, none⟩ = false := frozen_of_heap mq 2
              have hk4 := keepF w4 hf4 m0
              have hk5 := fun (u : Value) => keepF (w4.setCell ⟨q, 2, none⟩ u) (Chg.below hf4 (setCell_chg w4 ⟨q, 2, none⟩ u) hf4.size (fun k e => by have e : k = q := e; omega)) ((setCell_chg w4 ⟨q, 2, none⟩ u).heap m0 (fun e => by have e : g = q := e; omega))))
          all_goals go_wp2_with fail
          all_goals go_roundw
          all_goals first
            | (simp [intOf]; omega)
            | (exact ⟨j + 1, _, by omega, by go_num, (setCell_chg w4 ⟨q, 2, none⟩ _).heap m0 (fun e => by have e : g = q := e; omega), (setCell_chg w4 ⟨q, 2, none⟩ _).heap m1 (fun e => by have e : g + 1 = q := e; omega), heap_setCell_own mq 2 _, by
                 rw [← HP3.out]
                 exact own4.chg (setCell_chg w4 ⟨q, 2, none⟩ _) fun k hk e => (own4.ne_cells mq (by decide)) (by rw [hk, show k = q from e]), Chg.below hf4 (setCell_chg w4 ⟨q, 2, none⟩ _) hf4.size (fun i e => by have e : i = q := e; omega), by simp [World.setCell]; omega⟩)
        · have hjc : j = C := by omega
          rw [hjc] at hown ⊢
          rw [List.take_of_length_le (by rw [HRl2.out]; exact Nat.le_refl _), ← HStep2.out] at hown
          have hnl : ¬ ((C : Int) < C) := by omega
          clear hjc
          go_wp2_with fail
          go_roundw
          case rel => exact ⟨i + 1, sv, by omega, by go_num, hB0, hB1, hBq, by rw [← HP2.out]; exact hown, hf, hs⟩
          case measure => simp [intOf]; omega
    · obtain rfl : ats.length = i := by omega
      rw [HAll.out] at hown
      have hnl : ¬ ((ats.length : Int) < ats.length) := by omega
      have hinf : (Tryz.prog.info? 105).map (·.size) = some 3 := by kernel_rfl
      have hone : (#[N ats.length, N C, sv] : Array Value).all (·.oneCell') = true := by
        obtain ⟨va, vc, hv⟩ := hown.shape'
        subst hv
        rw [List.all_toArray]
        rfl
      have hneq : ∀ q, sv.ownBlock = some q → g + 2 ≤ q := fun q hq => (hown.lt q hq).1
      have hset : Ow (wr.setRow (g + 1) #[N ats.length, N C, sv]) (g + 2) eB sv (pickL M C ats) := hown.chg (setRow_chg wr (g + 1) _) fun q hq => by have := hneq q hq; show ¬ q = g + 1; omega
      have hfin : Fr w (wr.setRow (g + 1) #[N ats.length, N C, sv]) := Chg.below hf (setRow_chg wr (g + 1) _) hf.size (fun q hq => by rw [hq]; omega)
      have z0 := cell_setRow_same wr (g + 1) 0 _ #[N ats.length, N C, sv] _ _ hB1
      have z1 := cell_setRow_same wr (g + 1) 1 _ #[N ats.length, N C, sv] _ _ hB1
      have z2 := cell_setRow_same wr (g + 1) 2 _ #[N ats.length, N C, sv] _ _ hB1
      clear HStep HAll HZ Hat HPL hB0 hown HRl HRa HMul
      go_wp2_with (first | (refine wpList_load_row rfl 105 (.tmp 6) rfl q rfl 105 #[N ats.length, N C, sv] (0, 0) _ hBq Tryz.underlying105 rfl hinf ?_) | (refine wpList_store_row rfl 105 (.tmp 4) (.tmp 68) rfl (g + 1) #[N ats.length, N C, sv] rfl rfl 105 _ hB1 hinf rfl hone ?_))
      exact bodyPost_ret (v := .tuple #[.agg #[N ats.length, N C, sv], .int .i64 0]) (by simp [results, Tryz.results111, go_sem, *]) rfl ⟨_, rfl, hset.rebase (by omega), hfin⟩
set_option maxRecDepth 512
end Go.Proofs.YtfhdgenlpmlajaaGreatDoor
