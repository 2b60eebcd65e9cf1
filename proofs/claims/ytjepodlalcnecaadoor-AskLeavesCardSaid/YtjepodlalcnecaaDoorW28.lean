/- Walks of ask: steps. -/
import Derived.Test.YtjepodlalcnecaaDoorEltQ
import Derived.Test.YtjepodlalcnecaaDoorW15
import Derived.Test.YtjepodlalcnecaaDoorSpec28
set_option linter.unusedVariables false
namespace Go.Proofs.YtjepodlalcnecaaDoor
open Go.RowKit Go.Fk
theorem head_eq (c : UInt8) (r : List UInt8) : (⟨(c :: r).toArray⟩ : ByteArray).extract 0 1 = ⟨[c].toArray⟩ := by
  rw [extract_head]; rfl
theorem tail_eq (c : UInt8) (r : List UInt8) : (⟨(c :: r).toArray⟩ : ByteArray).extract 1 (c :: r).length = ⟨r.toArray⟩ := by
  rw [extract_from _ _ _ (Nat.le_refl _)]; rfl
set_option maxRecDepth 100000 in
theorem Term_any (s : List UInt8) (w : World) :
    Calls Tryd.prog 38 #[S s] w fun e w' => e = .returned (.bool (termB s)) ∧ Fr w w' := by
  go_enter Tryd.func38, Tryd.ntmps38
  match s with
  | [] =>
    go_wp2_with fail
    refine (wOne_any [] _).mono ?_
    rintro e w' ⟨he, hf⟩
    have : OneV (oneOf []) = .tuple #[S [], .bool false] := rfl
    rw [this] at he
    subst he
    go_wp2_with fail
    go_ret
    exact ⟨rfl, hf⟩
  | c :: r =>
    have x0 := head_eq c r
    have x1 := tail_eq c r
    have hne : (c :: r).isEmpty = false := rfl
    have hl : (1 : Int) ≤ (c :: r).length := by simp; omega
    have hT1 : c = 64 → termB (c :: r) = (oneOf r == some r) := fun h => by rw [termB, if_pos h]
    have hT2 : c ≠ 64 → termB (c :: r) = (oneOf (c :: r) == some (c :: r)) := fun h => by rw [termB, if_neg h]
    generalize c :: r = s at *
    have H1 := hid hT1
    have H2 := hid hT2
    clear hT1 hT2
    by_cases h : c = 64
    · have hb : (c == 64) = true := by rw [h]; rfl
      have hT : Hid (termB s = (oneOf r == some r)) := H1.out h
      clear h
      go_wp2_with fail
      refine (wOne_any r _).mono ?_
      rintro e w' ⟨he, hf⟩
      cases ho : oneOf r with
      | none =>
        rw [ho] at he
        have HT : Hid (termB s = false) := by show _ = _; rw [hT.out, ho]; rfl
        subst he
        unfold OneV
        clear ho
        go_wp2_with fail
        go_ret
        exact ⟨by rw [HT.out]; rfl, hf⟩
      | some q =>
        rw [ho] at he
        by_cases hq : q = r
        · have HT : Hid (termB s = true) := by show _ = _; rw [hT.out, ho, hq]; simp
          subst hq
          subst he
          unfold OneV
          clear ho
          go_wp2_with fail
          go_ret
          exact ⟨by rw [HT.out]; simp, hf⟩
        · have HT : Hid (termB s = false) := by show _ = _; rw [hT.out, ho]; simp [hq]
          subst he
          unfold OneV
          have hq' : (q == r) = false := by simp [hq]
          clear ho
          go_wp2_with fail
          go_ret
          exact ⟨by rw [HT.out]; rfl, hf⟩
    · have hb : (c == 64) = false := by simp [h]
      have hT : Hid (termB s = (oneOf s == some s)) := H2.out h
      clear h
      go_wp2_with fail
      refine (wOne_any s _).mono ?_
      rintro e w' ⟨he, hf⟩
      cases ho : oneOf s with
      | none =>
        rw [ho] at he
        have HT : Hid (termB s = false) := by show _ = _; rw [hT.out, ho]; rfl
        subst he
        unfold OneV
        clear ho
        go_wp2_with fail
        go_ret
        exact ⟨by rw [HT.out]; rfl, hf⟩
      | some q =>
        rw [ho] at he
        by_cases hq : q = s
        · have HT : Hid (termB s = true) := by show _ = _; rw [hT.out, ho, hq]; simp
          subst hq
          subst he
          unfold OneV
          clear ho
          go_wp2_with fail
          go_ret
          exact ⟨by rw [HT.out]; simp, hf⟩
        · have HT : Hid (termB s = false) := by show _ = _; rw [hT.out, ho]; simp [hq]
          subst he
          unfold OneV
          have hq' : (q == s) = false := by simp [hq]
          clear ho
          go_wp2_with fail
          go_ret
          exact ⟨by rw [HT.out]; rfl, hf⟩
end Go.Proofs.YtjepodlalcnecaaDoor
