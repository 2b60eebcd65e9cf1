/- Plain words of layer 33: a quoted text read. No program. -/
import Derived.Test.YtjepodlalcnecaaDoorSpec33
set_option linter.unusedVariables false
namespace Go.Fk
/-- the value of a hex digit, 16 of none -/
def hexV (c : UInt8) : Nat := if 48 ≤ c.toNat ∧ c.toNat ≤ 57 then c.toNat - 48 else if 97 ≤ c.toNat ∧ c.toNat ≤ 102 then c.toNat - 87 else 16
theorem hexV_iff (c : UInt8) (k : Nat) (h : k < 16) : hexd k = c ↔ hexV c = k := by
  have h1 : ∀ (k : Fin 16) (c : Fin 256), hexd k = UInt8.ofNat c ↔ hexV (UInt8.ofNat c) = (k : Nat) := by decide +kernel
  have := h1 ⟨k, h⟩ ⟨c.toNat, c.toNat_lt⟩
  simpa using this
theorem hexV_le (c : UInt8) : hexV c ≤ 16 := by unfold hexV; split <;> (try split) <;> omega
theorem hexV_hexd (k : Nat) (h : k < 16) : hexV (hexd k) = k := (hexV_iff _ k h).1 rfl
theorem hexd_hexV (c : UInt8) (h : hexV c < 16) : hexd (hexV c) = c := (hexV_iff c _ h).2 rfl
/-- the byte of two digits -/
def byte2 (a b : UInt8) : UInt8 := UInt8.ofNat (16 * hexV a + hexV b)
/-- what stands ahead of the closing quote, and how many bytes that takes with it -/
def scan : List UInt8 → Option (List UInt8 × Nat)
  | [] => none
  | c :: rest =>
    if c = 34 then some ([], 1)
    else if c = 92 then
      match rest with
      | a :: b :: rest' => if hexV a < 16 ∧ hexV b < 16 ∧ plainB (byte2 a b) = false then (scan rest').map fun x => (byte2 a b :: x.1, x.2 + 3) else none
      | _ => none
    else if plainB c then (scan rest).map fun x => (c :: x.1, x.2 + 1) else none
theorem scan_end (rest : List UInt8) : scan (34 :: rest) = some ([], 1) := by unfold scan; simp
theorem scan_esc (a b : UInt8) (rest : List UInt8) : scan (92 :: a :: b :: rest) = if hexV a < 16 ∧ hexV b < 16 ∧ plainB (byte2 a b) = false then (scan rest).map fun x => (byte2 a b :: x.1, x.2 + 3) else none := by rw [scan.eq_def]; simp
theorem scan_esc0 : scan [92] = none := by unfold scan; simp
theorem scan_esc1 (a : UInt8) : scan [92, a] = none := by unfold scan; simp
theorem scan_plain (c : UInt8) (rest : List UInt8) (h1 : c ≠ 34) (h2 : c ≠ 92) : scan (c :: rest) = if plainB c then (scan rest).map fun x => (c :: x.1, x.2 + 1) else none := by
  rw [scan.eq_def]; simp only; rw [if_neg h1, if_neg h2]
theorem plain_34 : plainB 34 = false := by decide
theorem plain_92 : plainB 92 = false := by decide
theorem byte2_toNat (a b : UInt8) (ha : hexV a < 16) (hb : hexV b < 16) : (byte2 a b).toNat = 16 * hexV a + hexV b := by unfold byte2; rw [UInt8.toNat_ofNat']; omega
theorem quoteC_byte2 (a b : UInt8) (ha : hexV a < 16) (hb : hexV b < 16) (h : plainB (byte2 a b) = false) : quoteC (byte2 a b) = [92, a, b] := by
  unfold quoteC
  rw [if_neg (by rw [h]; simp), byte2_toNat a b ha hb, show (16 * hexV a + hexV b) / 16 = hexV a by omega, show (16 * hexV a + hexV b) % 16 = hexV b by omega, hexd_hexV a ha, hexd_hexV b hb]
theorem quoteL_cons (c : UInt8) (l : List UInt8) : quoteL (c :: l) = quoteC c ++ quoteL l := rfl
/-- what was scanned is what is quoted -/
theorem scan_le (m : Nat) : ∀ (l : List UInt8), l.length ≤ m → ∀ t n, scan l = some (t, n) → n ≤ l.length ∧ 1 ≤ n ∧ l.take n = quoteL t ++ [34] := by
  induction m with
  | zero => intro l hl t n h; obtain rfl := List.eq_nil_of_length_eq_zero (by omega : l.length = 0); simp [scan] at h
  | succ m ih =>
    intro l hl t n h
    match l with
    | [] => simp [scan] at h
    | c :: rest =>
      by_cases h1 : c = 34
      · subst h1
        rw [scan_end] at h
        simp only [Option.some.injEq, Prod.mk.injEq] at h
        obtain ⟨rfl, rfl⟩ := h
        simp [quoteL]
      · by_cases h2 : c = 92
        · subst h2
          match rest with
          | [] => rw [scan_esc0] at h; cases h
          | [a] => rw [scan_esc1] at h; cases h
          | a :: b :: rest =>
            rw [scan_esc] at h
            split at h
            · rename_i hab
              obtain ⟨ha, hb, hp⟩ := hab
              cases hs : scan rest with
              | none => rw [hs] at h; cases h
              | some x =>
                obtain ⟨t', n'⟩ := x
                rw [hs] at h
                simp only [Option.map_some, Option.some.injEq, Prod.mk.injEq] at h
                obtain ⟨rfl, rfl⟩ := h
                obtain ⟨i1, i2, i3⟩ := ih rest (by simp at hl; omega) t' n' hs
                refine ⟨by simp; omega, by omega, ?_⟩
                rw [quoteL_cons, quoteC_byte2 a b ha hb hp]
                simp [i3]
            · cases h
        · rw [scan_plain c rest h1 h2] at h
          split at h
          · rename_i hp
            cases hs : scan rest with
            | none => rw [hs] at h; cases h
            | some x =>
              obtain ⟨t', n'⟩ := x
              rw [hs] at h
              simp only [Option.map_some, Option.some.injEq, Prod.mk.injEq] at h
              obtain ⟨rfl, rfl⟩ := h
              obtain ⟨i1, i2, i3⟩ := ih rest (by simp at hl; omega) t' n' hs
              refine ⟨by simp; omega, by omega, ?_⟩
              rw [quoteL_cons]
              unfold quoteC
              rw [if_pos hp]
              simp [i3]
          · cases h
theorem plain_ne (c : UInt8) (h : plainB c = true) : c ≠ 34 ∧ c ≠ 92 := by
  constructor
  · rintro rfl; rw [plain_34] at h; cases h
  · rintro rfl; rw [plain_92] at h; cases h
/-- what is quoted is scanned -/
theorem scan_quote (s rest : List UInt8) : scan (quoteL s ++ 34 :: rest) = some (s, (quoteL s).length + 1) := by
  induction s with
  | nil => exact scan_end rest
  | cons c s ih =>
    rw [quoteL_cons]
    have hc := c.toNat_lt
    cases hp : plainB c with
    | true =>
      have e : quoteC c = [c] := by unfold quoteC; rw [if_pos hp]
      rw [e]
      show scan (c :: (quoteL s ++ 34 :: rest)) = _
      rw [scan_plain c _ (plain_ne c hp).1 (plain_ne c hp).2, if_pos hp, ih]
      simp
    | false =>
      have e : quoteC c = [92, hexd (c.toNat / 16), hexd (c.toNat % 16)] := by unfold quoteC; rw [if_neg (by rw [hp]; simp)]
      have e2 : byte2 (hexd (c.toNat / 16)) (hexd (c.toNat % 16)) = c := by
        apply UInt8.toNat_inj.1
        rw [byte2_toNat _ _ (by rw [hexV_hexd _ (by omega)]; omega) (by rw [hexV_hexd _ (by omega)]; omega), hexV_hexd _ (by omega), hexV_hexd _ (by omega)]
        omega
      rw [e]
      show scan (92 :: hexd (c.toNat / 16) :: hexd (c.toNat % 16) :: (quoteL s ++ 34 :: rest)) = _
      rw [scan_esc, if_pos ⟨by rw [hexV_hexd _ (by omega)]; omega, by rw [hexV_hexd _ (by omega)]; omega, by rw [e2]; exact hp⟩, ih, e2]
      simp
/-- the text that a line begins with in quotes, and how many bytes that takes; 0 of none -/
def quotedOf : List UInt8 → List UInt8 × Nat
  | [] => ([], 0)
  | c :: rest => if c = 34 then match scan rest with
    | some (t, n) => (t, n + 1)
    | none => ([], 0) else ([], 0)
/-- the text that is quoted so -/
def unq (l : List UInt8) : Option (List UInt8) := if (quotedOf l).2 = 0 ∨ (quotedOf l).2 < l.length then none else some (quotedOf l).1
theorem unq_quote (s : List UInt8) : unq (quote s) = some s := by
  have h : quotedOf (quote s) = (s, (quoteL s).length + 2) := by
    have e : quote s = 34 :: (quoteL s ++ [34]) := rfl
    rw [e, quotedOf, if_pos rfl, scan_quote s []]
  unfold unq
  rw [h]
  simp [quote]
theorem quotedOf_cons (rest : List UInt8) : quotedOf (34 :: rest) = match scan rest with
    | some (t, n) => (t, n + 1)
    | none => ([], 0) := by rw [quotedOf, if_pos rfl]
theorem unq_some (l t : List UInt8) (h : unq l = some t) : quote t = l := by
  unfold unq at h
  match l with
  | [] => simp [quotedOf] at h
  | c :: rest =>
    by_cases hc : c = 34
    · subst hc
      rw [quotedOf_cons] at h
      cases hs : scan rest with
      | none => simp [hs] at h
      | some x =>
        obtain ⟨t', n⟩ := x
        obtain ⟨i1, i2, i3⟩ := scan_le _ rest (Nat.le_refl _) t' n hs
        simp only [hs] at h
        split at h
        · cases h
        · rename_i hn
          simp only [Option.some.injEq] at h
          subst h
          simp only [List.length_cons] at hn
          rw [List.take_of_length_le (by omega)] at i3
          rw [i3]; rfl
    · have : quotedOf (c :: rest) = ([], 0) := by rw [quotedOf, if_neg hc]
      simp [this] at h
theorem quote_plain (s : List UInt8) : ∀ x ∈ quote s, 32 ≤ x.toNat ∧ x.toNat ≤ 126 := by
  have hh : ∀ k : Fin 16, 32 ≤ (hexd k).toNat ∧ (hexd k).toNat ≤ 126 := by decide +kernel
  have h1 : ∀ x ∈ quoteL s, 32 ≤ x.toNat ∧ x.toNat ≤ 126 := by
    intro x hx
    unfold quoteL at hx
    obtain ⟨l, hl, hx⟩ := List.mem_flatten.1 hx
    obtain ⟨c, _, rfl⟩ := List.mem_map.1 hl
    have hc := c.toNat_lt
    unfold quoteC at hx
    split at hx
    · rename_i hp
      obtain rfl : x = c := by simpa using hx
      have := (plainB_iff x).1 hp; omega
    · simp only [List.mem_cons, List.not_mem_nil, or_false] at hx
      rcases hx with rfl | rfl | rfl
      · decide
      · exact hh ⟨c.toNat / 16, by omega⟩
      · exact hh ⟨c.toNat % 16, by omega⟩
  intro x hx
  simp only [quote, List.cons_append, List.mem_cons, List.mem_append, List.not_mem_nil, or_false] at hx
  rcases hx with rfl | hx | rfl
  · decide
  · exact h1 x hx
  · decide
end Go.Fk
