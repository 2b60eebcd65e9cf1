/- Plain words of layer 33: numbers in digits. No program. -/
import Derived.Lib.AtoiAll
import Derived.Lib.ParseIntBCases
import Derived.Lib.ItoaNum
set_option linter.unusedVariables false
namespace Go.Fk
/-- is a byte a digit? -/
def isDg (c : UInt8) : Prop := 48 ≤ c.toNat ∧ c.toNat ≤ 57
instance (c : UInt8) : Decidable (isDg c) := inferInstanceAs (Decidable (_ ∧ _))
/-- the number that digits spell behind others, if it is below 2^64 -/
def okV : Nat → List UInt8 → Option Nat
  | acc, [] => some acc
  | acc, c :: r => if isDg c ∧ acc * 10 + (c.toNat - 48) < 18446744073709551616 then okV (acc * 10 + (c.toNat - 48)) r else none
theorem okV_parse : ∀ (l : List UInt8) (acc u : Nat), acc < 18446744073709551616 → (Lib.parseUint10 acc l = .ok u ↔ okV acc l = some u) := by
  intro l
  induction l with
  | nil => intro acc u _; simp [Lib.parseUint10, okV]
  | cons c r ih =>
    intro acc u ha
    rw [Lib.parseUint10, okV]
    by_cases hd : 48 ≤ c.toNat ∧ c.toNat ≤ 57
    · by_cases h1 : acc * 10 + (c.toNat - 48) < 18446744073709551616
      · rw [if_pos hd, if_neg (by omega), if_neg (by omega), if_pos ⟨hd, h1⟩]; exact ih _ _ h1
      · rw [if_pos hd, if_neg (show ¬ (isDg c ∧ _) from fun h => h1 h.2)]
        by_cases h2 : 1844674407370955162 ≤ acc
        · rw [if_pos h2]; simp
        · rw [if_neg h2, if_pos (by omega)]; simp
    · rw [if_neg hd, if_neg (show ¬ (isDg c ∧ _) from fun h => hd h.1)]; simp
theorem okV_append : ∀ (l m : List UInt8) (acc : Nat), okV acc (l ++ m) = (okV acc l).bind fun a => okV a m := by
  intro l
  induction l with
  | nil => intro m acc; simp [okV]
  | cons c r ih =>
    intro m acc
    rw [List.cons_append, okV, okV]
    split
    · exact ih _ _
    · rfl
theorem okV_one (acc : Nat) (c : UInt8) : okV acc [c] = if isDg c ∧ acc * 10 + (c.toNat - 48) < 18446744073709551616 then some (acc * 10 + (c.toNat - 48)) else none := by
  rw [okV]; split <;> rfl
theorem okV_lt : ∀ (l : List UInt8) (acc u : Nat), acc < 18446744073709551616 → okV acc l = some u → u < 18446744073709551616 := by
  intro l
  induction l with
  | nil => intro acc u ha h; simp only [okV, Option.some.injEq] at h; omega
  | cons c r ih =>
    intro acc u ha h
    rw [okV] at h
    split at h
    · rename_i hh; exact ih _ _ hh.2 h
    · cases h
theorem okV_ge : ∀ (l : List UInt8) (acc u : Nat), okV acc l = some u → acc ≤ u := by
  intro l
  induction l with
  | nil => intro acc u h; simp only [okV, Option.some.injEq] at h; omega
  | cons c r ih =>
    intro acc u h
    rw [okV] at h
    split at h
    · have := ih _ _ h; omega
    · cases h
theorem dec_step (v d : Nat) (hv : 1 ≤ v) (hd : d < 10) : Lib.decDigits (v * 10 + d) = Lib.decDigits v ++ [UInt8.ofNat (48 + d)] := by
  rw [Lib.decDigits, dif_neg (by omega), show (v * 10 + d) / 10 = v by omega, show (v * 10 + d) % 10 = d by omega]
/-- digits without 0 ahead are those of their number -/
theorem dec_okV (m : Nat) : ∀ (l : List UInt8), l.length = m → l ≠ [] → (1 < l.length → l.head? ≠ some 48) → ∀ u, okV 0 l = some u → Lib.decDigits u = l ∧ (l ≠ [48] → 1 ≤ u) := by
  induction m with
  | zero => intro l hl hne; exact absurd (List.eq_nil_of_length_eq_zero hl) hne
  | succ m ih =>
    intro l hl hne h0 u hu
    obtain ⟨l', c, rfl⟩ : ∃ l' c, l = l' ++ [c] := ⟨l.dropLast, l.getLast hne, (List.dropLast_concat_getLast hne).symm⟩
    rw [okV_append] at hu
    cases hv : okV 0 l' with
    | none => rw [hv] at hu; cases hu
    | some v =>
      rw [hv] at hu
      change okV v [c] = some u at hu
      rw [okV_one] at hu
      split at hu
      · rename_i hc
        obtain ⟨⟨hc1, hc2⟩, hc3⟩ := hc
        simp only [Option.some.injEq] at hu
        have ec : UInt8.ofNat (48 + (c.toNat - 48)) = c := by
          apply UInt8.toNat_inj.1; rw [UInt8.toNat_ofNat']; have := c.toNat_lt; omega
        by_cases hl' : l' = []
        · subst hl'
          simp only [okV, Option.some.injEq] at hv
          subst hv
          have e : u = c.toNat - 48 := by omega
          subst e
          refine ⟨by rw [Lib.decDigits_one (by omega), ec]; rfl, fun hne => ?_⟩
          have : c ≠ 48 := fun e => hne (by rw [e]; rfl)
          have : c.toNat ≠ 48 := fun e => this (UInt8.toNat_inj.1 e)
          omega
        · obtain ⟨x, r, rfl⟩ : ∃ x r, l' = x :: r := by cases l' with | nil => exact absurd rfl hl' | cons x r => exact ⟨x, r, rfl⟩
          have hx : x ≠ 48 := by
            intro e; exact h0 (by simp) (by rw [e]; rfl)
          obtain ⟨i1, i2⟩ := ih (x :: r) (by simp at hl ⊢; omega) (by simp) (fun _ h => hx (by simpa using h)) v hv
          have hv1 := i2 (fun e => hx (by simp at e; exact e.1))
          subst hu
          rw [dec_step v _ hv1 (by omega), i1, ec]
          exact ⟨rfl, fun _ => by omega⟩
      · cases hu
theorem okV_dec : ∀ (u : Nat), u < 18446744073709551616 → okV 0 (Lib.decDigits u) = some u := by
  intro u
  induction u using Nat.strongRecOn with
  | ind u ih =>
    intro hu
    by_cases h : u < 10
    · rw [Lib.decDigits_one h, okV_one]
      have e : (UInt8.ofNat (48 + u)).toNat = 48 + u := by rw [UInt8.toNat_ofNat']; omega
      rw [if_pos ⟨⟨by omega, by omega⟩, by omega⟩, e]; congr 1; omega
    · have e := dec_step (u / 10) (u % 10) (by omega) (by omega)
      rw [show u / 10 * 10 + u % 10 = u by omega] at e
      rw [e, okV_append, ih (u / 10) (by omega) (by omega)]
      show okV (u / 10) _ = _
      have e : (UInt8.ofNat (48 + u % 10)).toNat = 48 + u % 10 := by rw [UInt8.toNat_ofNat']; omega
      rw [okV_one, if_pos ⟨⟨by omega, by omega⟩, by omega⟩, e]; congr 1; omega
theorem dec_ne (u : Nat) : Lib.decDigits u ≠ [] := by
  have h1 := Lib.decDigits_length u; have h2 := Lib.nDigits_pos u
  intro h; rw [h] at h1; simp at h1; omega
theorem dec_head : ∀ (u : Nat), 1 < (Lib.decDigits u).length → (Lib.decDigits u).head? ≠ some 48 := by
  have key : ∀ u, 1 ≤ u → (Lib.decDigits u).head? ≠ some 48 := by
    intro u
    induction u using Nat.strongRecOn with
    | ind u ih =>
      intro h1
      by_cases h : u < 10
      · rw [Lib.decDigits_one h]
        intro e
        simp only [List.head?_cons, Option.some.injEq] at e
        have := congrArg UInt8.toNat e
        rw [UInt8.toNat_ofNat'] at this
        have h48 : (48 : UInt8).toNat = 48 := rfl
        omega
      · have e := dec_step (u / 10) (u % 10) (by omega) (by omega)
        rw [show u / 10 * 10 + u % 10 = u by omega] at e
        rw [e]
        have e2 : ∀ (a b : List UInt8), a ≠ [] → (a ++ b).head? = a.head? := by intro a b h; cases a with | nil => exact absurd rfl h | cons x y => rfl
        rw [e2 _ _ (dec_ne _)]
        exact ih (u / 10) (by omega) (by omega)
  intro u h
  refine key u ?_
  rcases Nat.eq_zero_or_pos u with rfl | h0
  · rw [Lib.decDigits_one (by omega)] at h; simp at h
  · exact h0
/-- the number of digits -/
def numL (l : List UInt8) : Option Nat := if l = [] then none else (okV 0 l).bind fun u => if Lib.decDigits u = l then some u else none
theorem numL_iff (l : List UInt8) (u : Nat) : numL l = some u ↔ u < 18446744073709551616 ∧ Lib.decDigits u = l := by
  unfold numL
  constructor
  · intro h
    split at h
    · cases h
    · cases hv : okV 0 l with
      | none => rw [hv] at h; cases h
      | some v =>
        rw [hv] at h
        simp only [Option.bind_some] at h
        split at h
        · rename_i hd; obtain rfl := Option.some.inj h; exact ⟨okV_lt l 0 _ (by omega) hv, hd⟩
        · cases h
  · rintro ⟨h1, rfl⟩
    rw [if_neg (dec_ne u), okV_dec u h1]; simp
theorem numL_ref (l : List UInt8) : numL l = if l.length < 1 ∨ 20 < l.length ∨ (1 < l.length ∧ l.head? = some 48) then none else okV 0 l := by
  split
  · rename_i h
    cases hn : numL l with
    | none => rfl
    | some u =>
      obtain ⟨h1, h2⟩ := (numL_iff l u).1 hn
      exfalso
      subst h2
      rcases h with h | h | ⟨h, h'⟩
      · exact dec_ne u (List.eq_nil_of_length_eq_zero (by omega))
      · rw [Lib.decDigits_length] at h
        have hp := Lib.nDigits_pos u
        have : Lib.nDigits u ≤ 20 := by
          by_cases h0 : u = 0
          · subst h0; rw [Lib.nDigits_small (by omega)]; omega
          · have := Lib.numDigits_eq u (by omega) h1; split at this <;> omega
        omega
      · exact dec_head u h h'
  · rename_i h
    have hne : l ≠ [] := fun e => h (.inl (by rw [e]; simp))
    unfold numL
    rw [if_neg hne]
    cases hv : okV 0 l with
    | none => rfl
    | some v =>
      simp only [Option.bind_some]
      rw [if_pos (dec_okV _ l rfl hne (fun h1 h2 => h (.inr (.inr ⟨h1, h2⟩))) v hv).1]
end Go.Fk
