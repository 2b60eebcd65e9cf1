/- Walks of ask: steps, more. -/
import Derived.Test.YtjepodlalcnecaaDoorW28
set_option linter.unusedVariables false
namespace Go.Proofs.YtjepodlalcnecaaDoor
open Go.RowKit Go.Fk
set_option maxRecDepth 100000 in
theorem RTerm_any (s : List UInt8) (w : World) :
    Calls Tryd.prog 39 #[S s] w fun e w' => e = .returned (.bool (termB s)) ∧ Fr w w' := by
  go_enter Tryd.func39, Tryd.ntmps39
  have fin : ∀ (t : List UInt8) (hT : Hid (termB s = (oneOf t == some t))), ∀ o, oneOf t = o → Hid (termB s = match o with | some r => (r == t) | none => false) := by
    intro t hT o ho; show _ = _; rw [hT.out, ho]; cases o <;> rfl
  by_cases hs : s = []
  · subst hs
    go_wp2_with fail
    refine (rOne_any [] _).mono ?_
    rintro e w' ⟨he, hf⟩
    have : OneV (oneOf []) = .tuple #[S [], .bool false] := rfl
    rw [this] at he
    subst he
    go_wp2_with fail
    go_ret
    exact ⟨rfl, hf⟩
  · obtain ⟨c, r, hcr⟩ : ∃ c r, s = c :: r := by cases s with | nil => exact absurd rfl hs | cons c r => exact ⟨c, r, rfl⟩
    have hlp : 0 < s.length := by rw [hcr]; simp
    have x1 : (⟨s.toArray⟩ : ByteArray).extract 1 s.length = ⟨r.toArray⟩ := by subst hcr; exact tail_eq c r
    have x0 : (⟨s.toArray⟩ : ByteArray)[0]'(by simp [ByteArray.size]; omega) = c := by subst hcr; rfl
    have hne : s.isEmpty = false := by subst hcr; rfl
    have hT1 : c = 64 → termB s = (oneOf r == some r) := fun h => by rw [hcr, termB, if_pos h]
    have hT2 : c ≠ 64 → termB s = (oneOf s == some s) := fun h => by rw [hcr, termB, if_neg h]
    have hl0 : (0 : Int) < s.length := by omega
    have hl1 : (1 : Int) ≤ s.length := by omega
    have H1 := hid hT1
    have H2 := hid hT2
    have HF := hid fin
    clear hT1 hT2 fin hs hcr
    by_cases h : c = 64
    · have hb : ((c.toNat : Int) == 64) = true := by rw [h]; rfl
      have hT : Hid (termB s = (oneOf r == some r)) := H1.out h
      clear h
      go_wp2_with fail
      refine (rOne_any r _).mono ?_
      rintro e w' ⟨he, hf⟩
      generalize ho : oneOf r = o at *
      have HT := HF.out r (ho ▸ hT) o ho
      subst he
      clear ho
      cases o with
      | none =>
        unfold OneV
        go_wp2_with fail
        go_ret
        exact ⟨by rw [HT.out]; rfl, hf⟩
      | some q =>
        unfold OneV
        go_wp2_with fail
        go_ret
        exact ⟨by rw [HT.out]; rfl, hf⟩
    · have hb : ((c.toNat : Int) == 64) = false := by simp; exact fun e => h (UInt8.toNat_inj.1 (by show c.toNat = 64; omega))
      have hT : Hid (termB s = (oneOf s == some s)) := H2.out h
      clear h
      go_wp2_with fail
      refine (rOne_any s _).mono ?_
      rintro e w' ⟨he, hf⟩
      generalize ho : oneOf s = o at *
      have HT := HF.out s (ho ▸ hT) o ho
      subst he
      clear ho
      cases o with
      | none =>
        unfold OneV
        go_wp2_with fail
        go_ret
        exact ⟨by rw [HT.out]; rfl, hf⟩
      | some q =>
        unfold OneV
        go_wp2_with fail
        go_ret
        exact ⟨by rw [HT.out]; rfl, hf⟩
set_option maxRecDepth 100000 in
theorem takes_any (s : Stp) (w : World) :
    Calls Tryd.prog 26 #[stpV s] w fun e w' => e = .returned (.int .i64 (takesZ s)) ∧ Fr w w' := by
  obtain ⟨op, n, word, fa, fb⟩ := s
  have key : ∀ z, takesZ ⟨op, n, word, fa, fb⟩ = z → Hid (takesZ ⟨op, n, word, fa, fb⟩ = z) := fun _ h => h
  by_cases h5 : op = 5
  · have HT := key 1 (by unfold takesZ; rw [if_pos h5])
    subst h5
    go_enter Tryd.func26, Tryd.ntmps26
    go_wp2_with fail
    go_ret
    exact ⟨by rw [HT.out]; rfl, (Fr.refl w).alloc _⟩
  by_cases h6 : op = 6
  · have HT := key n (by unfold takesZ; rw [if_neg h5, if_pos (.inl h6)])
    subst h6
    go_enter Tryd.func26, Tryd.ntmps26
    go_wp2_with fail
    go_ret
    exact ⟨by rw [HT.out]; rfl, (Fr.refl w).alloc _⟩
  by_cases h7 : op = 7
  · have HT := key n (by unfold takesZ; rw [if_neg h5, if_pos (.inr h7)])
    subst h7
    go_enter Tryd.func26, Tryd.ntmps26
    go_wp2_with fail
    go_ret
    exact ⟨by rw [HT.out]; rfl, (Fr.refl w).alloc _⟩
  have HT := key 0 (by unfold takesZ; rw [if_neg h5, if_neg (by rintro (h | h); exact h6 h; exact h7 h)])
  have b5 : (op == 5) = false := by simp [h5]
  have b6 : (op == 6) = false := by simp [h6]
  have b7 : (op == 7) = false := by simp [h7]
  clear h5 h6 h7
  go_enter Tryd.func26, Tryd.ntmps26
  go_wp2_with fail
  go_ret
  exact ⟨by rw [HT.out]; rfl, (Fr.refl w).alloc _⟩
set_option maxRecDepth 100000 in
set_option maxHeartbeats 2000000 in
theorem right_any (s : Stp) (w : World) :
    Calls Tryd.prog 27 #[stpV s] w fun e w' => e = .returned (.bool (rightB s)) ∧ Fr w w' := by
  obtain ⟨op, n, word, fa, fb⟩ := s
  by_cases h1 : op = 1
  · subst h1
    go_enter Tryd.func27, Tryd.ntmps27
    go_wp2_with (go_at_call 38; refine (Term_any _ _).mono ?_; rintro e w' ⟨rfl, hf⟩)
    all_goals go_ret
    all_goals first
      | exact ⟨by simp [rightB, *], ((Fr.refl w).alloc _).alloc _⟩
      | exact ⟨by simp [rightB, *], (((Fr.refl w).alloc _).alloc _).trans hf⟩
      | trace_state
  by_cases h2 : op = 2
  · subst h2
    go_enter Tryd.func27, Tryd.ntmps27
    go_wp2_with (go_at_call 38; refine (Term_any _ _).mono ?_; rintro e w' ⟨rfl, hf⟩)
    all_goals go_ret
    all_goals first
      | exact ⟨by simp [rightB, *], ((Fr.refl w).alloc _).alloc _⟩
      | exact ⟨by simp [rightB, *], (((Fr.refl w).alloc _).alloc _).trans hf⟩
      | trace_state
  by_cases h3 : op = 3
  · subst h3
    clear h1 h2
    go_enter Tryd.func27, Tryd.ntmps27
    go_wp2_with fail
    go_region
    all_goals go_wp2_with fail
    all_goals go_ret
    all_goals first
      | exact ⟨by simp [rightB, *], ((Fr.refl w).alloc _).alloc _⟩
      | exact ⟨by simp [rightB, *], (((Fr.refl w).alloc _).alloc _).drew⟩
      | exact ⟨by simp [rightB, *], (((Fr.refl w).drew).alloc _).alloc _⟩
      | trace_state
  by_cases h4 : op = 4
  · subst h4
    clear h1 h2
    go_enter Tryd.func27, Tryd.ntmps27
    go_wp2_with fail
    go_region
    all_goals go_wp2_with fail
    all_goals go_ret
    all_goals first
      | exact ⟨by simp [rightB, *], ((Fr.refl w).alloc _).alloc _⟩
      | exact ⟨by simp [rightB, *], (((Fr.refl w).alloc _).alloc _).drew⟩
      | exact ⟨by simp [rightB, *], (((Fr.refl w).drew).alloc _).alloc _⟩
  by_cases h5 : op = 5
  · subst h5
    clear h1 h2 h3 h4
    go_enter Tryd.func27, Tryd.ntmps27
    go_wp2_with fail
    all_goals go_ret
    all_goals first
      | exact ⟨by simp [rightB, *], ((Fr.refl w).alloc _).alloc _⟩
      | exact ⟨by simp [rightB, *], (((Fr.refl w).alloc _).alloc _).trans hf⟩
      | trace_state
  by_cases h6 : op = 6
  · subst h6
    clear h1 h2 h3 h4
    go_enter Tryd.func27, Tryd.ntmps27
    go_wp2_with fail
    all_goals go_ret
    all_goals first
      | exact ⟨by simp [rightB, *], ((Fr.refl w).alloc _).alloc _⟩
      | exact ⟨by simp [rightB, *], (((Fr.refl w).alloc _).alloc _).trans hf⟩
      | trace_state
  by_cases h7 : op = 7
  · subst h7
    clear h1 h2 h3 h4
    go_enter Tryd.func27, Tryd.ntmps27
    go_wp2_with fail
    all_goals go_ret
    all_goals first
      | exact ⟨by simp [rightB, *], ((Fr.refl w).alloc _).alloc _⟩
      | exact ⟨by simp [rightB, *], (((Fr.refl w).alloc _).alloc _).trans hf⟩
      | trace_state
  have b1 : (op == 1) = false := by simp [h1]
  have b2 : (op == 2) = false := by simp [h2]
  have b3 : (op == 3) = false := by simp [h3]
  have b4 : (op == 4) = false := by simp [h4]
  have b5 : (op == 5) = false := by simp [h5]
  have b6 : (op == 6) = false := by simp [h6]
  have b7 : (op == 7) = false := by simp [h7]
  have HR : Hid (rightB ⟨op, n, word, fa, fb⟩ = false) := by show _ = _; simp [rightB, *]
  clear h1 h2 h3 h4 h5 h6 h7
  go_enter Tryd.func27, Tryd.ntmps27
  go_wp2_with fail
  go_ret
  exact ⟨by rw [HR.out]; rfl, by first | exact ((Fr.refl w).alloc _).alloc _ | exact (Fr.refl w).alloc _⟩
end Go.Proofs.YtjepodlalcnecaaDoor
