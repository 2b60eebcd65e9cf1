/- Parts of the proof of ThreePacks: L2. -/
import Derived.Test.YtmfbmjplmaimbaaGreatDoorM31
set_option linter.unusedVariables false
set_option linter.unusedSectionVars false
set_option linter.unusedSimpArgs false
set_option maxHeartbeats 8000000
namespace Go.Proofs.YtmfbmjplmaimbaaGreatDoor
open Go.RowKit Go.Fk
theorem getD_range (l : List Nat) : (List.range l.length).map (fun p => l.getD p 0) = l := by
 apply List.ext_getElem?
 intro i
 by_cases h : i < l.length
 · simp [h]
 · rw [List.getElem?_eq_none (by simp; omega), List.getElem?_eq_none (by omega)]
theorem segF_zero (f : Nat → Nat) (n : Nat) : segF f 0 n = (List.range n).map f := by
 unfold segF
 exact List.map_congr_left fun i _ => by rw [Nat.zero_add]
set_option maxRecDepth 100000
theorem used_any (v : Value) (often : List Nat) (w : World) (hs : See w eV v often) (hn : often.length ≤ 1000000) :
  Calls Tryz.prog 192 #[v] w fun e w' => ∃ v', e = .returned v' ∧ Ow w' w.heap.size eJ v' (usedL often) ∧ Fr w w' := by
 obtain ⟨a, cap, hv, hcap1, hcap2, hnone⟩ := hs.shape
 subst hv
 unfold maxLen at hcap2
 have hA : Fr w (w.alloc (.cells #[Value.slice a often.length cap] 172)) := (Fr.refl w).alloc _
 have hB : (w.alloc (.cells #[Value.slice a often.length cap] 172)).heap[w.heap.size]? = some (.cells #[Value.slice a often.length cap] 172 (0, 0)) := heap_new _ _ _ rfl
 have hsz : (w.alloc (.cells #[Value.slice a often.length cap] 172)).heap.size = w.heap.size + 1 := by simp
 have c0 : (w.alloc (.cells #[Value.slice a often.length cap] 172)).cell? ⟨w.heap.size, 0, none⟩ = some (Value.slice a often.length cap) := by rw [cell_of_heap hB]; rfl
 have hs0 := hs.fr hA
 have HSZ := hid hsz
 clear hsz
 go_enter Tryz.func192, Tryz.ntmps192
 go_wp2_with fail
 generalize w.alloc (.cells #[Value.slice a often.length cap] 172) = w0 at *
 go_loopw [3, 8] (fun ov iv wr => ∃ k : Nat, k ≤ often.length ∧ iv = N k ∧ Ow wr w0.heap.size eJ ov (symsTo often k) ∧ Hid (symsTo often k = [] → ov = .slice none 0 0) ∧ Fr w0 wr) (fun _ iv _ => often.length - (intOf iv).toNat)
 case atStart => exact ⟨0, Nat.zero_le _, rfl, Ow.nil, fun _ => rfl, Fr.refl _⟩
 case round =>
  obtain ⟨k, hk, rfl, hout, HNil, hf⟩ := hrel
  by_cases hlt : k < often.length
  · obtain ⟨b, off, cap', hv, c1⟩ := vAt (hs0.fr hf) k hlt
    have HS := hid (symsTo_succ often k hlt)
    have hlen := symsTo_len often k
    generalize often[k] = x at *
    generalize symsTo often k = m at *
    cases hv
    have i1 : (0 : Int) ≤ k := by omega
    have i2 : (k : Int) < often.length := by omega
    by_cases hx : 0 < x
    · have hx' : (0 : Int) < x := by omega
      have HS2 : Hid (symsTo often (k + 1) = m ++ [k]) := by show _ = _; rw [HS.out, if_pos hx]
      clear HS
      go_wp2_with (at_builtin; refine wpList_app1 eJ rfl (.tmp 15) (.tmp 17) 54 rfl Tryz.underlying54 w0.heap.size rfl hout [k] _ _ _ rfl rfl rfl (by simp; omega) hf.size ?_)
      intro v' w4 hap
      go_wp2_with fail
      go_roundw
      case rel => exact ⟨k + 1, by omega, by go_num, by rw [HS2.out]; exact hap.own, fun e => by rw [HS2.out] at e; simp at e, hap.below hout hf (Nat.le_refl _) hf.size⟩
      case measure => simp [intOf]; omega
    · have hx' : ¬ (0 : Int) < x := by omega
      have HS2 : Hid (symsTo often (k + 1) = m) := by show _ = _; rw [HS.out, if_neg hx]
      clear HS
      go_wp2_with fail
      go_roundw
      case rel => exact ⟨k + 1, by omega, by go_num, by rw [HS2.out]; exact hout, fun e => HNil.out (by rw [HS2.out] at e; exact e), hf⟩
      case measure => simp [intOf]; omega
  · obtain rfl : k = often.length := by omega
    have hnl : ¬ ((often.length : Int) < often.length) := by omega
    have hse : symsTo often often.length = symsU often := rfl
    rw [hse] at hout HNil
    have hlen := symsU_len often
    have hFw : Fr w wr := hA.trans hf
    by_cases h0 : symsU often = []
    · have hu : Hid (usedL often = []) := by show _ = _; unfold usedL; rw [h0]; rfl
      have hov := HNil.out h0
      subst hov
      have hmf : ∀ (fn : Fn) (first cap : Array Value) (w : World), (Instr.makeFunc fn first cap).run Tryz.prog w = .ok (.func fn first cap) w := fun _ _ _ _ => rfl
      have HSo := hid (fun cv W => sortStable_any (.slice none 0 0) cv 0 none 0 rfl W (fun _ w' => W = w') (stable_none cv W))
      clear HNil
      go_wp2_with fail
      refine (HSo.out _ _).mono ?_
      rintro e w1 ⟨rfl, rfl⟩
      go_wp2_with fail
      go_ret
      exact ⟨_, rfl, by rw [hu.out]; exact Ow.nil, hFw⟩
    · obtain ⟨g, oc, hov, hg1, hg2, ho1, ho2⟩ := hout.atHead h0
      have HU := hid (symsU_up often)
      have HLt := hid (symsU_lt often)
      have hmf : ∀ (fn : Fn) (first cap : Array Value) (w : World), (Instr.makeFunc fn first cap).run Tryz.prog w = .ok (.func fn first cap) w := fun _ _ _ _ => rfl
      have HUs : Hid (usedL often = usedK (fun s => often.getD s 0) (symsU often)) := rfl
      generalize symsU often = sy at *
      subst hov
      have hD : DJ wr g sy.length oc (fun p => sy.getD p 0) := by
       unfold DJ; rw [getD_range]; exact hout.rebase (Nat.zero_le _)
      have hCm := used1_cmp w.heap.size g (.slice a often.length cap) often w0 (by first | exact hB | assumption) hs0 hg1
      have HSt := hid (stable_any hCm sy.length oc (fun p => sy.getD p 0) wr hD hf (by omega) (fun p h => by
       rw [List.getD_eq_getElem?_getD, List.getElem?_eq_getElem h]; exact HLt.out _ (List.getElem_mem h)) (fun p q h1 h2 => by
       rw [List.getD_eq_getElem?_getD, List.getElem?_eq_getElem (by omega), List.getD_eq_getElem?_getD, List.getElem?_eq_getElem h2]
       exact List.pairwise_iff_getElem.1 HU.out p q (by omega) h2 h1))
      have HSo := hid (fun cv Q h => sortStable_any (.slice (some ⟨g, 0, none⟩) sy.length oc) cv sy.length _ oc rfl wr Q h)
      have HSC := hid (HSo.out _ _ HSt.out)
      clear HNil HSo HSt hCm
      go_wp2_with fail
      refine HSC.out.mono ?_
      rintro e w1 ⟨rfl, f', hd1, hr1, hs1, hc1⟩
      go_wp2_with fail
      go_ret
      have hE : (List.range sy.length).map f' = usedL often := by
       rw [HUs.out]
       refine usedK_eq _ sy _ HU.out ?_ ?_
       · have := hr1.2
         rw [segF_zero, segF_zero, getD_range] at this
         exact this
       · have := hs1.list
         rw [segF_zero] at this
         exact this
      refine ⟨_, rfl, ?_, Chg.below hFw hc1 hFw.size (fun i hi => by have := hA.size; omega)⟩
      rw [← hE]
      exact (Ow.up hd1 hg1).rebase hA.size
set_option maxRecDepth 512
end Go.Proofs.YtmfbmjplmaimbaaGreatDoor
