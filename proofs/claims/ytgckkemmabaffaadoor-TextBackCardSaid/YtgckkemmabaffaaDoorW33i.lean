/- Walks of text: Unquote. -/
import Derived.Test.YtgckkemmabaffaaDoorW33h
set_option linter.unusedVariables false
namespace Go.Proofs.YtgckkemmabaffaaDoor
open Go.RowKit Go.Fk
/-- what Unquote answers -/
def unqT (s : List UInt8) : List UInt8 := (unq s).getD []
theorem quotedOf_le (s : List UInt8) : (quotedOf s).2 ≤ s.length := by
  match s with
  | [] => simp [quotedOf]
  | c :: rest =>
    by_cases hc : c = 34
    · subst hc
      rw [quotedOf_cons]
      cases hs : scan rest with
      | none => simp
      | some x =>
        obtain ⟨t, n⟩ := x
        have := (scan_le _ rest (Nat.le_refl _) t n hs).1
        simpa using this
    · rw [quotedOf, if_neg hc]; simp
set_option maxRecDepth 100000 in
theorem Unquote_any (s : List UInt8) (w : World) (hd : Dig w) (hlen : s.length ≤ 1000000000) :
    Calls Tryd.prog 16 #[S s] w fun e w' => e = .returned (.tuple #[S (unqT s), .bool (unq s).isSome]) ∧ Fr w w' := by
  obtain ⟨t, ht⟩ : ∃ t, (quotedOf s).1 = t := ⟨_, rfl⟩
  obtain ⟨n, hn⟩ : ∃ n, (quotedOf s).2 = n := ⟨_, rfl⟩
  have hu : unq s = if n = 0 ∨ n < s.length then none else some t := by unfold unq; rw [ht, hn]
  have hnl := quotedOf_le s
  rw [hn] at hnl
  have HT := hid ht
  have HN := hid hn
  have HU := hid hu
  clear ht hn hu
  go_enter Tryd.func16, Tryd.ntmps16
  go_wp2_with fail
  refine (quoted_any s _ hd hlen).mono ?_
  rintro e w' ⟨he, hf⟩
  rw [HT.out, HN.out] at he
  subst he
  by_cases h0 : n = 0
  · subst h0
    have hr : Hid (unq s = none) := by show _ = _; rw [HU.out, if_pos (.inl rfl)]
    go_wp2_with fail
    go_ret2
    refine ⟨?_, hf⟩
    unfold unqT; rw [hr.out]; rfl
  · have h1 : ((n : Int) == 0) = false := by simp; exact h0
    have h2 : ¬ (n : Int) = 0 := by omega
    by_cases h3 : n < s.length
    · have h3' : (n : Int) < s.length := by omega
      have hr : Hid (unq s = none) := by show _ = _; rw [HU.out, if_pos (.inr h3)]
      go_wp2_with fail
      go_ret2
      refine ⟨?_, hf⟩
      unfold unqT; rw [hr.out]; rfl
    · have h3' : ¬ (n : Int) < s.length := by omega
      have hr : Hid (unq s = some t) := by show _ = _; rw [HU.out, if_neg (by omega)]
      go_wp2_with fail
      go_ret2
      refine ⟨?_, hf⟩
      unfold unqT; rw [hr.out]; rfl
end Go.Proofs.YtgckkemmabaffaaDoor
