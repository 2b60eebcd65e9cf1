/- Plain words of layer 33: lines read. No program. -/
import Derived.Test.YtgckkemmabaffaaDoorSpec33e
set_option linter.unusedVariables false
namespace Go.Fk
/-- the records of lines, or which line is wrong (from 1), and whether it ends too soon (true) or is of no form (false) -/
def parseL : Nat → List UInt8 → Nat → Except (Nat × Bool) (List Parts)
  | 0, _, _ => .ok []
  | fuel + 1, s, n =>
    if s = [] then .ok [] else
    if 10 ∈ s then
      match readL (bef 10 s) with
      | none => .error (n + 1, false)
      | some r => (parseL fuel (aft 10 s) (n + 1)).map fun l => r :: l
    else .error (n + 1, true)
theorem aft_lt (s : List UInt8) (h : s ≠ []) : (aft 10 s).length < s.length := by
  by_cases hc : (10 : UInt8) ∈ s
  · have := congrArg List.length ((bef_aft 10 s).1 hc); simp at this; omega
  · rw [(bef_none 10 s hc).2]; cases s with | nil => exact absurd rfl h | cons a l => simp
theorem parseL_fuel : ∀ (m : Nat) (s : List UInt8) (n f g : Nat), s.length ≤ m → s.length ≤ f → s.length ≤ g → parseL f s n = parseL g s n := by
  intro m
  induction m with
  | zero =>
    intro s n f g h _ _
    obtain rfl := List.eq_nil_of_length_eq_zero (by omega : s.length = 0)
    cases f <;> cases g <;> simp [parseL]
  | succ m ih =>
    intro s n f g h hf hg
    by_cases hs : s = []
    · subst hs; cases f <;> cases g <;> simp [parseL]
    · have hp : 0 < s.length := by cases s with | nil => exact absurd rfl hs | cons a l => simp
      obtain ⟨f, rfl⟩ : ∃ k, f = k + 1 := ⟨f - 1, by omega⟩
      obtain ⟨g, rfl⟩ : ∃ k, g = k + 1 := ⟨g - 1, by omega⟩
      have := aft_lt s hs
      rw [parseL, parseL, ih (aft 10 s) (n + 1) f g (by omega) (by omega) (by omega)]
/-- the records of lines -/
def parses (s : List UInt8) (n : Nat) : Except (Nat × Bool) (List Parts) := parseL s.length s n
theorem parses_nil (n : Nat) : parses [] n = .ok [] := by unfold parses; rw [List.length_nil, parseL]
theorem parses_step (s : List UInt8) (n : Nat) (hs : s ≠ []) : parses s n = if 10 ∈ s then
      match readL (bef 10 s) with
      | none => .error (n + 1, false)
      | some r => (parses (aft 10 s) (n + 1)).map fun l => r :: l
    else .error (n + 1, true) := by
  have hp : 0 < s.length := by cases s with | nil => exact absurd rfl hs | cons a l => simp
  have ha := aft_lt s hs
  unfold parses
  obtain ⟨f, hf⟩ : ∃ k, s.length = k + 1 := ⟨s.length - 1, by omega⟩
  rw [hf, parseL, if_neg hs, parseL_fuel f (aft 10 s) (n + 1) f (aft 10 s).length (by omega) (by omega) (by omega)]
/-- the lines of records' parts -/
def linesP (l : List Parts) : List UInt8 := (l.map fun q => lineP q.1 q.2.1 q.2.2.1 q.2.2.2 ++ [10]).flatten
theorem linesP_cons (q : Parts) (l : List Parts) : linesP (q :: l) = lineP q.1 q.2.1 q.2.2.1 q.2.2.2 ++ 10 :: linesP l := by simp [linesP]
theorem parses_lines : ∀ (m : Nat) (s : List UInt8) (n : Nat) (l : List Parts), s.length ≤ m → parses s n = .ok l → linesP l = s := by
  intro m
  induction m with
  | zero =>
    intro s n l h hp
    obtain rfl := List.eq_nil_of_length_eq_zero (by omega : s.length = 0)
    rw [parses_nil] at hp
    cases hp; rfl
  | succ m ih =>
    intro s n l h hp
    by_cases hs : s = []
    · subst hs; rw [parses_nil] at hp; cases hp; rfl
    · rw [parses_step s n hs] at hp
      split at hp
      · rename_i h10
        cases hr : readL (bef 10 s) with
        | none => rw [hr] at hp; cases hp
        | some q =>
          rw [hr] at hp
          simp only at hp
          cases hq : parses (aft 10 s) (n + 1) with
          | error e => rw [hq] at hp; cases hp
          | ok l' =>
            rw [hq] at hp
            cases hp
            have ha := aft_lt s hs
            have h1 := ih (aft 10 s) (n + 1) l' (by omega) hq
            obtain ⟨t, lv, u, v⟩ := q
            have h2 := ((readL_iff _ t lv u v).1 hr).2.2
            rw [linesP_cons, h1]
            show lineP t lv u v ++ 10 :: aft 10 s = s
            rw [h2]
            exact ((bef_aft 10 s).1 h10).symm
      · cases hp
theorem quote_no10 (u : List UInt8) : (10 : UInt8) ∉ quote u := by
  intro h; have := quote_plain u 10 h; have e : (10 : UInt8).toNat = 10 := rfl; omega
theorem line_no10 (t l : Nat) (u v : List UInt8) : (10 : UInt8) ∉ lineP t l u v := by
  unfold lineP
  simp only [List.mem_append, List.mem_cons, not_or]
  exact ⟨dec_no t 10 (by decide), by decide, dec_no l 10 (by decide), by decide, quote_no10 u, by decide, quote_no10 v⟩
/-- may a record's parts be? -/
def okParts (q : Parts) : Prop := q.1 < 18446744073709551616 ∧ q.2.1 ≤ 255
theorem lines_parses : ∀ (l : List Parts) (n : Nat), (∀ q ∈ l, okParts q) → parses (linesP l) n = .ok l := by
  intro l
  induction l with
  | nil => intro n _; exact parses_nil n
  | cons q l ih =>
    intro n h
    obtain ⟨t, lv, u, v⟩ := q
    rw [linesP_cons]
    simp only
    have h10 := line_no10 t lv u v
    rw [parses_step _ _ (by simp), if_pos (by simp)]
    obtain ⟨e1, e2⟩ := bef_of 10 (lineP t lv u v) (linesP l) h10
    rw [e1, e2, (readL_iff _ t lv u v).2 ⟨(h (t, lv, u, v) (by simp)).1, (h (t, lv, u, v) (by simp)).2, rfl⟩]
    simp only
    rw [ih (n + 1) (fun q hq => h q (by simp [hq]))]
    rfl
theorem parses_ok : ∀ (m : Nat) (s : List UInt8) (n : Nat) (l : List Parts), s.length ≤ m → parses s n = .ok l → ∀ q ∈ l, okParts q := by
  intro m
  induction m with
  | zero =>
    intro s n l h hp
    obtain rfl := List.eq_nil_of_length_eq_zero (by omega : s.length = 0)
    rw [parses_nil] at hp
    cases hp; simp
  | succ m ih =>
    intro s n l h hp
    by_cases hs : s = []
    · subst hs; rw [parses_nil] at hp; cases hp; simp
    · rw [parses_step s n hs] at hp
      split at hp
      · cases hr : readL (bef 10 s) with
        | none => rw [hr] at hp; cases hp
        | some q =>
          rw [hr] at hp
          simp only at hp
          cases hq : parses (aft 10 s) (n + 1) with
          | error e => rw [hq] at hp; cases hp
          | ok l' =>
            rw [hq] at hp
            cases hp
            have ha := aft_lt s hs
            have h1 := ih (aft 10 s) (n + 1) l' (by omega) hq
            obtain ⟨t, lv, u, v⟩ := q
            have h2 := (readL_iff _ t lv u v).1 hr
            intro x hx
            rcases List.mem_cons.1 hx with rfl | hx
            · exact ⟨h2.1, h2.2.1⟩
            · exact h1 x hx
      · cases hp
theorem readL_len (s : List UInt8) (t l : Nat) (u v : List UInt8) (h : readL s = some (t, l, u, v)) : u.length + v.length ≤ s.length := by
  obtain ⟨_, _, rfl⟩ := (readL_iff s t l u v).1 h
  have h1 := quoteL_ge u
  have h2 := quoteL_ge v
  simp [lineP, quote]; omega
/-- what stands from one place to another -/
def seg (s : List UInt8) (i k : Nat) : List UInt8 := (s.take k).drop i
theorem seg_self (s : List UInt8) (i : Nat) : seg s i i = [] := by
  unfold seg; exact List.drop_eq_nil_of_le (by simp; omega)
theorem seg_snoc (s : List UInt8) (i k : Nat) (hi : i ≤ k) (hk : k < s.length) : seg s i (k + 1) = seg s i k ++ [s[k]] := by
  unfold seg
  rw [List.take_succ_eq_append_getElem hk, List.drop_append_of_le_length (by simp; omega)]
theorem seg_end (s : List UInt8) (i : Nat) : seg s i s.length = s.drop i := by unfold seg; rw [List.take_length]
theorem seg_drop (s : List UInt8) (i k : Nat) (hi : i ≤ k) (hk : k < s.length) : s.drop i = seg s i k ++ s[k] :: s.drop (k + 1) := by
  unfold seg
  rw [← List.drop_eq_getElem_cons hk]
  conv => lhs; rw [← List.take_append_drop k s]
  rw [List.drop_append_of_le_length (by simp; omega)]
theorem seg_len (s : List UInt8) (i k : Nat) (hi : i ≤ k) (hk : k ≤ s.length) : (seg s i k).length = k - i := by
  unfold seg; simp; omega
theorem lineP_ge (t l : Nat) (u v : List UInt8) : 3 + u.length + v.length ≤ (lineP t l u v).length := by
  have h1 := quoteL_ge u
  have h2 := quoteL_ge v
  simp [lineP, quote]; omega
theorem linesP_ge (l : List Parts) : 4 * l.length ≤ (linesP l).length ∧ ∀ q ∈ l, q.2.2.1.length + q.2.2.2.length ≤ (linesP l).length := by
  induction l with
  | nil => simp [linesP]
  | cons q l ih =>
    have h := lineP_ge q.1 q.2.1 q.2.2.1 q.2.2.2
    rw [linesP_cons, List.length_append, List.length_cons, List.length_cons]
    refine ⟨by omega, fun x hx => ?_⟩
    rcases List.mem_cons.1 hx with rfl | hx
    · omega
    · have := ih.2 x hx; omega
end Go.Fk
