/- Walks of the text laws: quotes. -/
import Derived.Test.YtgckkemmabaffaaDoorW33i
import Derived.Test.YtgckkemmabaffaaDoorLaw33
set_option linter.unusedVariables false
namespace Go.Proofs.YtgckkemmabaffaaDoor
open Go.RowKit Go.Fk
set_option maxRecDepth 100000 in
theorem TextQuotes_any (s : List UInt8) (w : World) (ht : Tabs w) :
    Calls Tryd.prog 4 #[S s] w fun e w' => e = .returned (.bool true) ∧ Fr w w' := by
  go_enter Tryd.func4, Tryd.ntmps4
  go_wp2_with fail
  refine (alive_any _ ht).mono ?_
  rintro e w1 ⟨rfl, hf1⟩
  by_cases h0 : 2000 < s.length
  · have h0' : (2000 : Int) < s.length := by omega
    go_wp2_with fail
    go_ret
    exact ⟨rfl, hf1⟩
  · have h0' : ¬ (2000 : Int) < s.length := by omega
    have hq := quote_le s
    have hqp := quote_plain s
    have hqu : Hid (unq (quote s) = some s) := unq_quote s
    have hqt : Hid (unqT (quote s) = s) := by show _ = _; unfold unqT; rw [unq_quote]; rfl
    go_wp2_with fail
    refine (Quote_any s _ (ht.fr hf1).1 (by omega)).mono ?_
    rintro e w2 ⟨rfl, hf2⟩
    have hf02 := hf1.trans hf2
    generalize hQ : quote s = q at *
    clear hQ
    go_wp2_with fail
    refine (Unquote_any q _ (ht.fr hf02).1 (by omega)).mono ?_
    rintro e w3 ⟨he, hf3⟩
    rw [hqt.out, hqu.out] at he
    subst he
    have hf03 := hf02.trans hf3
    have hqp2 := hid hqp
    clear hqp
    go_wp2_with fail
    go_loopw [6] (fun iv wr => ∃ k : Nat, k ≤ q.length ∧ iv = N k ∧ Fr w wr) (fun iv _ => q.length - (intOf iv).toNat)
    case atStart => exact ⟨0, Nat.zero_le _, rfl, hf03⟩
    case round =>
      obtain ⟨k, hk, rfl, hf⟩ := hrel
      by_cases hlt : k < q.length
      · obtain ⟨c, hc⟩ : ∃ c, q[k] = c := ⟨_, rfl⟩
        have hcb : (⟨q.toArray⟩ : ByteArray)[k]'(by simpa [ByteArray.size] using hlt) = c := hc
        have hcp := hqp2.out c (hc ▸ List.getElem_mem hlt)
        clear hc
        have g1 : ¬ (c.toNat : Int) < 32 := by omega
        have g2 : ¬ 126 < (c.toNat : Int) := by omega
        go_wp2_with fail
        go_roundw
        case rel => exact ⟨k + 1, by omega, by go_num, hf⟩
        case measure => simp [intOf]; omega
      · clear hqp2
        cases hu : unq s with
        | none =>
          have hr : Hid (unq s = none) := hu
          have hr2 : Hid (unqT s = []) := by show _ = _; unfold unqT; rw [hu]; rfl
          clear hu
          go_wp2_with fail
          refine (Unquote_any s _ (ht.fr hf).1 (by omega)).mono ?_
          rintro e w4 ⟨he, hf4⟩
          rw [hr.out, hr2.out] at he
          subst he
          go_wp2_with fail
          go_ret
          exact ⟨rfl, hf.trans hf4⟩
        | some t =>
          have hr : Hid (unq s = some t) := hu
          have hr2 : Hid (unqT s = t) := by show _ = _; unfold unqT; rw [hu]; rfl
          have hr3 : Hid (quote t = s) := unq_some s t hu
          have hr4 : t.length ≤ s.length := by
            have : ∀ l : List UInt8, l.length ≤ (quoteL l).length := by
              intro l; induction l with
              | nil => simp
              | cons x l ih => rw [quoteL_cons]; have : 1 ≤ (quoteC x).length := by unfold quoteC; split <;> simp
                               simp; omega
            have h1 := this t
            rw [← unq_some s t hu]; simp [quote]; omega
          clear hu
          go_wp2_with fail
          refine (Unquote_any s _ (ht.fr hf).1 (by omega)).mono ?_
          rintro e w4 ⟨he, hf4⟩
          rw [hr.out, hr2.out] at he
          subst he
          have hf14 := hf.trans hf4
          go_wp2_with fail
          refine (Quote_any t _ (ht.fr hf14).1 (by omega)).mono ?_
          rintro e w5 ⟨he, hf5⟩
          rw [hr3.out] at he
          subst he
          go_wp2_with fail
          go_ret
          exact ⟨by simp, hf14.trans hf5⟩
end Go.Proofs.YtgckkemmabaffaaDoor
