/- Parts of the proof of ThreeMends: Nh. -/
import Derived.Test.YtfhdgenlpmlajaaGreatDoorM12
import Derived.Test.YtfhdgenlpmlajaaGreatDoorM06
import Derived.Test.YtfhdgenlpmlajaaGreatDoorM26
import Derived.Deep.RegionHeldLaw
set_option linter.unusedVariables false
set_option linter.unusedSectionVars false
set_option linter.unusedSimpArgs false
set_option maxHeartbeats 8000000
namespace Go.Proofs.YtfhdgenlpmlajaaGreatDoor
open Go.RowKit Go.Fk
set_option maxRecDepth 100000
theorem RLeft_any (B base n er : Nat) (l : List UInt8) (w : World) (hc : CurF w 114 B base l n er) (hl : l.length ≤ 1000000) :
  Calls Tryz.prog 105 #[.pointer (some ⟨B, 0, none⟩)] w fun e w' => e = .returned (.int .i64 ((l.length : Int) - n)) ∧ Qt w w' := by
 obtain ⟨⟨v, h1, ho⟩, hle⟩ := hc
 obtain ⟨a0, cap, hv⟩ := ho.shape'
 subst hv
 have c0 : w.cell? ⟨B, 0, none⟩ = some (.slice a0 l.length cap) := by rw [cell_of_heap h1]; rfl
 have c1 : w.cell? ⟨B, 1, none⟩ = some (N n) := by rw [cell_of_heap h1]; rfl
 have hw : IntKind.i64.wrap ((l.length : Int) - n) = (l.length : Int) - n := IntWalk.i64_in _ (by omega)
 clear h1 ho
 go_enter Tryz.func105, Tryz.ntmps105
 go_wp2_with fail
 go_quiet (fail)
 go_wp2_with fail
 go_ret
 exact ⟨rfl, Qt.drewN _ _⟩
theorem RTake_yes (B base n k : Nat) (l : List UInt8) (w : World) (hc : CurF w 114 B base l n 0) (hk : n + k ≤ l.length) (hl : l.length ≤ 1000000) (hb : base ≤ w.heap.size) :
    Calls Tryz.prog 73 #[.pointer (some ⟨B, 0, none⟩), N k] w fun e w' => ∃ u, e = .returned u ∧ Ow w' w.heap.size eB u ((l.drop n).take k) ∧ CurF w' 114 B base l (n + k) 0 ∧ Chg (fun b => b = B) w w' := by
  have HL := hid (RLeft_any B base n 0 l w hc hl)
  have hBw : B < w.heap.size := by obtain ⟨⟨v, h1, _⟩, _⟩ := hc; exact (Array.getElem?_eq_some_iff.1 h1).1
  obtain ⟨⟨v, h1, ho⟩, hle⟩ := hc
  obtain ⟨a0, cap, hv⟩ := ho.shape'
  subst hv
  have c2 : w.cell? ⟨B, 2, none⟩ = some (.int .i64 0) := by rw [cell_of_heap h1]; rfl
  have j1 : ¬ (k : Int) < 0 := by omega
  have j2 : ¬ (l.length : Int) - n < k := by omega
  have hqe : (l.take (n + k)).drop n = (l.drop n).take k := by rw [List.drop_take, Nat.add_sub_cancel_left]
  obtain ⟨f1, f2, hmid, hms⟩ := run_mid eB 22 Tryz.underlying22 ho.see n (n + k) (by omega) hk
  rw [hqe, Nat.add_sub_cancel_left] at *
  have hmid2 : ∀ W, (Instr.slice 22 (.slice a0 l.length cap) (some (.int .i64 (n : Int))) (some (.int .i64 ((n : Int) + k))) none).run Tryz.prog W = .ok (.slice f1 k f2) W := hmid
  have hw : IntKind.i64.wrap ((n : Int) + k) = (n : Int) + k := IntWalk.i64_in _ (by omega)
  have hQ : Hid (((l.drop n).take k).length = k) := by show _ = _; rw [List.length_take, List.length_drop]; omega
  have h6 : Hid (n + k ≤ l.length ∧ l.length ≤ 1000000) := ⟨hk, hl⟩
  have HO := hid ho
  clear hqe ho hmid hk hl hle
  generalize (l.drop n).take k = q at *
  go_enter Tryz.func73, Tryz.ntmps73
  go_wp2_with fail
  refine (HL.out).mono ?_
  rintro e w1 ⟨rfl, hq1⟩
  have hf1 := hq1.fr
  have k1 := hf1.heap h1
  have d0 : w1.cell? ⟨B, 0, none⟩ = some (.slice a0 l.length cap) := by rw [cell_of_heap k1]; rfl
  have d1 : w1.cell? ⟨B, 1, none⟩ = some (N n) := by rw [cell_of_heap k1]; rfl
  have o1 := HO.out.fr hf1
  have s1 := hms.fr hf1
  have hsz := hf1.size
  clear HL hq1 c2 hms
  have own0 : ∀ W : World, w1.heap.size ≤ W.heap.size → Ow (W.alloc (.cells #[] 5)) w1.heap.size eB (.slice (some ⟨W.heap.size, 0, none⟩) 0 0) [] := fun W h => own_lit eB W #[] [] 0 rfl (Nat.zero_le _) h
  have keepF : ∀ W, Fr w1 W → W.cell? ⟨B, 0, none⟩ = some (.slice a0 l.length cap) ∧ W.cell? ⟨B, 1, none⟩ = some (N n) := fun W h => ⟨h.cell d0, h.cell d1⟩
  have hk0 := keepF _ (Fr.refl w1).drew
  have hk1 := keepF _ ((Fr.refl w1).alloc (.cells #[] 5))
  have hk2 := keepF _ (((Fr.refl w1).alloc (.cells #[] 5)).drew)
  have hk3 := keepF _ (((Fr.refl w1).drew).alloc (.cells #[] 5))
  have HS1 := hid s1
  have HD0 := hid d0
  have HD1 := hid d1
  clear s1 o1
  go_upto_region 2 with fail
  go_region_held_law (fun W => W.cell? ⟨B, 0, none⟩ = some (.slice a0 l.length cap) ∧ W.cell? ⟨B, 1, none⟩ = some (N n))
    (first | exact hk0 | exact hk1 | exact hk2 | exact hk3 | exact hk4 | go_keep)
    (((first
        | refine step_app eB rfl (.tmp 23) (.tmp 38) 22 rfl Tryz.underlying22 w1.heap.size rfl ((own0 w1 (Nat.le_refl _)).drew) _ q rfl (HS1.out.fr ((Fr.refl w1).alloc _).drew) (by have := hQ.out; have := h6.out; simp; omega) (by simp) ?_
        | refine step_app eB rfl (.tmp 23) (.tmp 38) 22 rfl Tryz.underlying22 w1.heap.size rfl (own0 w1.drew (Nat.le_refl _)) _ q rfl (HS1.out.fr ((Fr.refl w1).drew.alloc _)) (by have := hQ.out; have := h6.out; simp; omega) (by simp) ?_)
      intro v' w4 hap
      have own4 := hap.own
      have hf4 : Fr w1 w4 := by first | exact hap.below ((own0 w1 (Nat.le_refl _)).drew) (((Fr.refl w1).alloc _).drew) (Nat.le_refl _) (by simp) | exact hap.below (own0 w1.drew (Nat.le_refl _)) ((Fr.refl w1).drew.alloc _) (Nat.le_refl _) (by simp)
      have hk4 := keepF w4 hf4
      clear hap))
  obtain ⟨x0, x1⟩ := hk4
  have m4 := hf4.heap k1
  have x2 := frozen_of_heap m4 1
  have hown : Ow w4 w1.heap.size eB v' q := by simpa using own4
  obtain ⟨p, z, hq⟩ := hown.shape'
  subst hq
  have hst := setCell_chg w4 ⟨B, 1, none⟩ (.int .i64 ((n : Int) + k))
  have hg := heap_setCell_own m4 1 (.int .i64 ((n : Int) + k))
  have hB1 : ∀ i, (Value.slice p q.length z).ownBlock = some i → ¬ i = B := fun i hi e => by have := (hown.lt i hi).1; omega
  have hB2 : ∀ i, (Value.slice a0 l.length cap).ownBlock = some i → ¬ i = B := fun i hi e => HO.out.ne_cells h1 (by decide) (by rw [hi, e])
  clear hk0 hk1 hk2 hk3 keepF own0 own4 d0 d1
  go_wp2_with fail
  go_ret
  refine ⟨_, rfl, (hown.chg hst hB1).rebase hsz, ⟨⟨_, ?_, ((HO.out.fr hf1).fr hf4).chg hst hB2⟩, h6.out.1⟩, ?_⟩
  · exact hg
  · exact ((hf1.trans hf4).chg _).trans hst (fun i _ e => e)
theorem RFixed_yes (B base n k : Nat) (l : List UInt8) (w : World) (hc : CurF w 114 B base l n 0) (hk1 : 1 ≤ k) (hk8 : k ≤ 8) (hk : n + k ≤ l.length) (hl : l.length ≤ 1000000) (hb : base ≤ w.heap.size) :
    Calls Tryz.prog 36 #[.pointer (some ⟨B, 0, none⟩), N k] w fun e w' => e = .returned (.int .u64 (leN ((l.drop n).take k) : Int)) ∧ CurF w' 114 B base l (n + k) 0 ∧ Chg (fun b => b = B) w w' := by
  have HT := hid (RTake_yes B base n k l w hc hk hl hb)
  have c2 : w.cell? ⟨B, 2, none⟩ = some (.int .i64 0) := by
    obtain ⟨⟨v, h1, _⟩, _⟩ := hc
    rw [cell_of_heap h1]; rfl
  have hql : ((l.drop n).take k).length = k := by rw [List.length_take, List.length_drop]; omega
  have HQl := hid hql
  have h1 : ¬ (k : Int) < 1 := by omega
  have h8 : ¬ (8 : Int) < k := by omega
  have HStep := hid (fun i (h : i < ((l.drop n).take k).length) => show leN (((l.drop n).take k).drop i) = (((l.drop n).take k)[i]).toNat + 256 * leN (((l.drop n).take k).drop (i + 1)) from by rw [List.drop_eq_getElem_cons h]; rfl)
  have HAll : Hid (leN (((l.drop n).take k).drop 0) = leN ((l.drop n).take k)) := rfl
  have HZ : Hid (leN (((l.drop n).take k).drop k) = 0) := by show _ = _; rw [List.drop_of_length_le (by omega)]; rfl
  have HLt : Hid (∀ i, leN (((l.drop n).take k).drop i) < 256 ^ 8) := fun i => by
    refine Nat.lt_of_lt_of_le (leN_lt _) (Nat.pow_le_pow_right (by omega) ?_)
    rw [List.length_drop, hql]; omega
  clear hc hql
  generalize (l.drop n).take k = q at *
  go_enter Tryz.func36, Tryz.ntmps36
  go_wp2_with fail
  refine (HT.out).mono ?_
  rintro e w1 ⟨u, rfl, hO, hC, hch⟩
  obtain ⟨p, z, hq⟩ := hO.shape'
  rw [HQl.out] at hq
  subst hq
  have HO := hid hO.see
  have hw : IntKind.i64.wrap ((k : Int) - 1) = (k : Int) - 1 := IntWalk.i64_in _ (by omega)
  clear hO HT
  go_wp2_with fail
  go_loop [6, 7] (fun xv iv => ∃ i : Nat, i ≤ k ∧ iv = .int .i64 ((i : Int) - 1) ∧ xv = .int .u64 (leN (q.drop i) : Int)) (fun _ iv => (intOf iv + 1).toNat)
  case atStart => exact ⟨k, Nat.le_refl _, rfl, by rw [HZ.out]; rfl⟩
  case round =>
    obtain ⟨i, hi, rfl, rfl⟩ := hrel
    cases i with
    | succ i =>
      have hiq : i < q.length := by rw [HQl.out]; omega
      obtain ⟨b, off, cp, hv, c0⟩ := HO.out.cell1 Fk.u8 rfl i hiq
      simp only [Value.slice.injEq] at hv
      obtain ⟨rfl, _, rfl⟩ := hv
      have d0 : w1.cell? ⟨b, off + i, none⟩ = some (.int .u8 (q[i].toNat : Int)) := c0
      clear c0
      have i0 : (((i + 1 : Nat) : Int) - 1) = (i : Int) := by omega
      have i1 : (i : Int) < k := by omega
      have i2 : (0 : Int) ≤ i := by omega
      have HSt := hid (HStep.out i hiq)
      have hlti := HLt.out i
      have hbl := q[i].toNat_lt
      generalize q[i].toNat = bb at *
      have hp9 : (256 : Nat) ^ 8 = 18446744073709551616 := by decide
      have HB : Hid (IntKind.u64.wrap (IntKind.u64.wrap ((leN (q.drop (i + 1)) : Int) * 256) + (bb : Int)) = ((leN (q.drop i) : Nat) : Int)) := by
        show _ = _
        have := HSt.out
        rw [IntWalk.u64_in ((leN (q.drop (i + 1)) : Int) * 256) (by omega), IntWalk.u64_in _ (by omega)]
        omega
      have hw2 : IntKind.i64.wrap ((i : Int) - 1) = (i : Int) - 1 := IntWalk.i64_in _ (by omega)
      clear hp9 hlti HSt
      rw [i0]
      go_wp2_with fail
      go_round
      case rel => exact ⟨i, by omega, rfl, by rw [HB.out]⟩
      case measure => first | (simp [intOf]; done) | (simp [intOf]; omega)
    | zero =>
      have hnl : ¬ ((0 : Int) ≤ ((0 : Nat) : Int) - 1) := by omega
      have HA := hid HAll.out
      rw [HAll.out]
      go_wp2_with fail
      go_ret
      exact ⟨rfl, hC, hch⟩
set_option maxRecDepth 512
end Go.Proofs.YtfhdgenlpmlajaaGreatDoor
