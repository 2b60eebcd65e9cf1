/- Walks of the reference of words: two lists of texts are held against each other. -/
import Derived.Test.YtgckkemmabaffaaW15
set_option linter.unusedVariables false
namespace Go.Proofs.Ytgckkemmabaffaa
open Go.RowKit Go.Fk

theorem take_eq_snoc {α : Type} {a b : List α} {k : Nat} (ha : k < a.length) (hb : k < b.length) (h : a.take k = b.take k) (he : a[k] = b[k]) : a.take (k + 1) = b.take (k + 1) := by
  rw [List.take_succ_eq_append_getElem ha, List.take_succ_eq_append_getElem hb, h, he]
set_option maxHeartbeats 1000000 in
theorem rSame15_any (va vb : Value) (a b : List (List UInt8)) (w : World) (ha : See w eS va a) (hb : See w eS vb b) :
    Calls Try.prog 14 #[va, vb] w fun e w' => e = .returned (.bool (decide (a = b))) ∧ Qt w w' := by
  obtain ⟨ao, acap, rfl, hacap, ham, hanil⟩ := ha.shape
  obtain ⟨bo, bcap, rfl, hbcap, hbm, hbnil⟩ := hb.shape
  unfold maxLen at ham hbm
  by_cases hl : a.length = b.length
  · have hn : ((a.length : Int) != b.length) = false := by rw [hl]; simp
    go_enter Try.func14, Try.ntmps14
    go_wp2_with fail
    go_loopw [5] (fun i wr => ∃ k : Nat, k ≤ a.length ∧ i = N k ∧ Hid (a.take k = b.take k) ∧ Qt w wr) (fun i _ => a.length - (intOf i).toNat)
    case atStart => exact ⟨0, Nat.zero_le _, rfl, hid rfl, Qt.refl _⟩
    case round =>
      obtain ⟨k, hk, rfl, hst, hq⟩ := hrel
      have HL := hid hl
      clear hl
      by_cases hlt : k < a.length
      · have hltb : k < b.length := by have := HL.out; omega
        obtain ⟨ba, offa, acap', hva, _, _, hca⟩ := (ha.fr hq.fr).at1 S rfl (by intro e; simp [e] at hlt)
        obtain ⟨bb, offb, bcap', hvb, _, _, hcb⟩ := (hb.fr hq.fr).at1 S rfl (by intro e; simp [e] at hltb)
        simp only [Value.slice.injEq] at hva hvb
        obtain ⟨rfl, _, rfl⟩ := hva
        obtain ⟨rfl, _, rfl⟩ := hvb
        have ca := hca k hlt
        have cb := hcb k hltb
        clear hca hcb
        have h1 : (k : Int) < a.length := by omega
        have h2 : (k : Int) < b.length := by omega
        obtain ⟨x, hx⟩ : ∃ x, a[k] = x := ⟨_, rfl⟩
        obtain ⟨y, hy⟩ : ∃ y, b[k] = y := ⟨_, rfl⟩
        have HX := hid hx
        have HY := hid hy
        rw [hx] at ca
        rw [hy] at cb
        clear hx hy
        by_cases he : x = y
        · have he2 : (x == y) = true := by simp [he]
          have HE := hid he
          clear he
          go_upto_region 6 with fail
          go_quiet (fail)
          go_wp2_with fail
          exact ⟨⟨k + 1, by omega, by go_num, hid (take_eq_snoc hlt hltb hst.out (by rw [HX.out, HY.out, HE.out])), hq.trans (Qt.drewN _ _)⟩, by simp [intOf]; omega⟩
        · have he2 : (x == y) = false := by simp [he]
          have HD : Hid (decide (a = b) = false) := by
            show _ = _; rw [decide_eq_false_iff_not]; rintro rfl; exact he (by rw [← HX.out, ← HY.out])
          clear he
          go_upto_region 6 with fail
          go_quiet (fail)
          go_wp2_with fail
          go_ret
          exact ⟨by rw [HD.out]; rfl, hq.trans (Qt.drewN _ _)⟩
      · have HD : Hid (decide (a = b) = true) := by
          have h1 := hst.out
          rw [List.take_of_length_le (by omega), List.take_of_length_le (by have := HL.out; omega)] at h1
          show _ = _; rw [decide_eq_true_iff]; exact h1
        go_wp2_with fail
        go_ret
        exact ⟨by rw [HD.out]; rfl, hq⟩
  · have hn : ((a.length : Int) != b.length) = true := by rw [bne_iff_ne]; omega
    have HN : Hid (decide (a = b) = false) := by show _ = _; rw [decide_eq_false_iff_not]; intro e; exact hl (by rw [e])
    clear hl
    go_enter Try.func14, Try.ntmps14
    go_wp2_with fail
    go_ret
    exact ⟨by rw [HN.out]; rfl, Qt.refl _⟩
end Go.Proofs.Ytgckkemmabaffaa
