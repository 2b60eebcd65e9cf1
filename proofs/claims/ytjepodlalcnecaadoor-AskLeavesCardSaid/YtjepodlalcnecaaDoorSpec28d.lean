/- Plain words of layer 28: what is read takes bytes. No program. -/
import Derived.Test.YtjepodlalcnecaaDoorSpec28c
set_option linter.unusedVariables false
namespace Go.Fk
theorem skip_nil : skipB [] = [] := rfl
theorem skip_blank (l : List UInt8) : skipB (32 :: l) = skipB l := rfl
theorem skip_other (c : UInt8) (l : List UInt8) (h : ¬ c = 32) : skipB (c :: l) = c :: l := by unfold skipB; rw [List.dropWhile_cons, if_neg (by simp [h])]
theorem skip_skip (l : List UInt8) : skipB (skipB l) = skipB l := by
  induction l with
  | nil => rfl
  | cons c l ih =>
    by_cases h : c = 32
    · subst h; exact ih
    · rw [skip_other c l h, skip_other c l h]
theorem skip_le (l : List UInt8) : (skipB l).length ≤ l.length := by
  induction l with
  | nil => simp [skipB]
  | cons c l ih =>
    by_cases h : c = 32
    · subst h; rw [skip_blank]; simp; omega
    · rw [skip_other c l h]; simp
theorem take_yes (c : UInt8) (l r : List UInt8) (h : skipB l = c :: r) : takeB c l = (true, r) := by unfold takeB; rw [h]; simp
theorem take_no (c : UInt8) (l : List UInt8) (h : (skipB l).head? ≠ some c) : takeB c l = (false, skipB l) := by
  unfold takeB
  cases hs : skipB l with
  | nil => rfl
  | cons x r =>
    have : ¬ x = c := by intro e; rw [hs] at h; exact h (by rw [e]; rfl)
    simp [this]
theorem take_le (c : UInt8) (l : List UInt8) : (takeB c l).2.length ≤ l.length ∧ ((takeB c l).1 = true → (takeB c l).2.length < l.length) := by
  have h := skip_le l
  unfold takeB
  cases hs : skipB l with
  | nil => simp
  | cons x r =>
    rw [hs] at h
    simp only [List.length_cons] at h
    by_cases hx : x = c
    · simp only [hx, if_true]; exact ⟨by omega, fun _ => by omega⟩
    · simp only [if_neg hx]; exact ⟨by simp; omega, fun hh => by cases hh⟩
/-- steps take bytes -/
def PLen (part : List UInt8 → Rd) : Prop := ∀ l q l1, part l = .ok (q, l1) → q.length + l1.length ≤ l.length
theorem row_len (part : List UInt8 → Rd) (hp : PLen part) (c : UInt8) : ∀ (f : Nat) (l : List UInt8) (xs : List (List Stp)) (l1 : List UInt8), rowP part c f l = .ok (xs, l1) → xs.flatten.length + (xs.length - 1) + l1.length ≤ l.length ∧ 1 ≤ xs.length := by
  intro f
  induction f with
  | zero => intro l xs l1 h; cases h
  | succ f ih =>
    intro l xs l1 h
    rw [rowP] at h
    cases hq : part l with
    | error e => rw [hq] at h; cases h
    | ok y =>
      obtain ⟨x, l2⟩ := y
      rw [hq] at h
      have h1 := hp l x l2 hq
      have ht := take_le c l2
      simp only at h
      split at h
      · rename_i htk
        cases hr : rowP part c f (takeB c l2).2 with
        | error e => rw [hr] at h; cases h
        | ok z =>
          obtain ⟨ys, l3⟩ := z
          rw [hr] at h
          cases h
          have h2 := ih _ ys _ hr
          have h3 := ht.2 htk
          simp only [List.flatten_cons, List.length_append, List.length_cons]
          omega
      · cases h
        simp
        omega
theorem joinL_len (op : Int) (xs : List (List Stp)) (h : 1 ≤ xs.length) : (joinL op xs).length ≤ xs.flatten.length + (xs.length - 1) := by
  unfold joinL
  rw [List.length_append]
  split
  · simp; omega
  · simp
theorem join_len (part : List UInt8 → Rd) (hp : PLen part) (c : UInt8) (op : Int) : PLen (joinP part c op) := by
  intro l q l1 h
  unfold joinP at h
  cases hr : rowP part c (l.length + 1) l with
  | error e => rw [hr] at h; cases h
  | ok z =>
    obtain ⟨xs, l2⟩ := z
    rw [hr] at h
    cases h
    obtain ⟨h1, h2⟩ := row_len part hp c _ l xs l1 hr
    have := joinL_len op xs h2
    omega
theorem both_len (part : List UInt8 → Rd) (hp : PLen part) : PLen (bothW part) := join_len part hp 38 6
theorem any_len (part : List UInt8 → Rd) (hp : PLen part) : PLen (anyW part) := join_len _ (both_len part hp) 124 7
theorem leafL_len (op : Int) (s : List UInt8) : (leafL op s).length ≤ 1 ∧ (leafL op s ≠ [] → 1 ≤ s.length) := by
  unfold leafL
  cases h : smallO s with
  | none => simp
  | some w =>
    refine ⟨by simp, fun _ => ?_⟩
    cases s with
    | nil => cases h
    | cons c r => simp
theorem dropWhile_take {α : Type} (p : α → Bool) (l : List α) : (l.takeWhile p).length + (l.dropWhile p).length = l.length := by
  have := congrArg List.length (List.takeWhile_append_dropWhile (p := p) (l := l))
  rw [List.length_append] at this; exact this
theorem bef_len2 (e : UInt8) (l : List UInt8) (h : e ∈ l) : (bef e l).length + 1 + (aft e l).length = l.length := by
  have := congrArg List.length ((bef_aft e l).1 h); simp at this; omega
theorem leafQ_len (l : List UInt8) : (leafQ l).1 ≠ [] → (leafQ l).1.length + (leafQ l).2.length ≤ l.length := by
  have span : ∀ op e, (spanP op e l).1 ≠ [] → (spanP op e l).1.length + (spanP op e l).2.length ≤ l.length := by
    intro op e h
    unfold spanP at h ⊢
    split at h
    · rename_i he
      rw [if_pos he]
      have := bef_len2 e l he
      simp only at h ⊢
      split at h
      · simp; omega
      · exact absurd rfl h
    · exact absurd rfl h
  have word : (wordP l).1 ≠ [] → (wordP l).1.length + (wordP l).2.length ≤ l.length := by
    intro h
    unfold wordP at h ⊢
    simp only at h ⊢
    have key : ∀ (hd l1 : List UInt8), hd.length + l1.length = l.length → (if (l1.dropWhile isL).head? = some 42 then (leafL 2 (hd ++ l1.takeWhile isL), (l1.dropWhile isL).drop 1) else (leafL 1 (hd ++ l1.takeWhile isL), l1.dropWhile isL)).1 ≠ [] → (if (l1.dropWhile isL).head? = some 42 then (leafL 2 (hd ++ l1.takeWhile isL), (l1.dropWhile isL).drop 1) else (leafL 1 (hd ++ l1.takeWhile isL), l1.dropWhile isL)).1.length + (if (l1.dropWhile isL).head? = some 42 then (leafL 2 (hd ++ l1.takeWhile isL), (l1.dropWhile isL).drop 1) else (leafL 1 (hd ++ l1.takeWhile isL), l1.dropWhile isL)).2.length ≤ l.length := by
      intro hd l1 hl hne
      have hdt := dropWhile_take isL l1
      split at hne
      · rename_i h42
        rw [if_pos h42]
        have h1 := (leafL_len 2 (hd ++ l1.takeWhile isL)).1
        have h2 := (leafL_len 2 (hd ++ l1.takeWhile isL)).2 hne
        simp only [List.length_append, List.length_drop] at h2 ⊢
        omega
      · rename_i h42
        rw [if_neg h42]
        have h1 := (leafL_len 1 (hd ++ l1.takeWhile isL)).1
        have h2 := (leafL_len 1 (hd ++ l1.takeWhile isL)).2 hne
        simp only [List.length_append] at h2 ⊢
        omega
    refine key _ _ ?_ h
    split
    · rename_i h64
      cases l with
      | nil => cases h64
      | cons c r => simp; omega
    · simp
  intro h
  unfold leafQ at h ⊢
  split at h
  · rename_i h1; rw [if_pos h1]; exact span 3 93 h
  · rename_i h1
    rw [if_neg h1]
    split at h
    · rename_i h2; rw [if_pos h2]; exact span 4 62 h
    · rename_i h2; rw [if_neg h2]; exact word h
theorem leaf_len : PLen leafP := by
  intro l q l1 h
  unfold leafP at h
  split at h
  · cases h
  · rename_i hne
    simp only [Except.ok.injEq] at h
    have h1 := leafQ_len (skipB l) hne
    rw [h] at h1
    have := skip_le l
    simp only at h1
    omega
theorem not_len : ∀ n, PLen (notP n) := by
  intro n
  induction n with
  | zero => intro l q l1 h; cases h
  | succ n ih =>
    intro l q l1 h
    rw [notP] at h
    have t1 := take_le 33 l
    split at h
    · rename_i h33
      have t2 := t1.2 h33
      cases hn : notP n (takeB 33 l).2 with
      | error e => rw [hn] at h; cases h
      | ok y =>
        obtain ⟨x, l2⟩ := y
        rw [hn] at h
        cases h
        have := ih _ x l1 hn
        simp; omega
    · have t3 := take_le 40 (takeB 33 l).2
      split at h
      · rename_i h40
        have t4 := t3.2 h40
        unfold closeP at h
        cases hn : anyW (notP n) (takeB 40 (takeB 33 l).2).2 with
        | error e => rw [hn] at h; cases h
        | ok y =>
          obtain ⟨x, l2⟩ := y
          rw [hn] at h
          simp only at h
          have h1 := any_len (notP n) ih _ x l2 hn
          have t5 := take_le 41 l2
          split at h
          · cases h; omega
          · cases h
      · have := leaf_len _ q l1 h
        omega
end Go.Fk
