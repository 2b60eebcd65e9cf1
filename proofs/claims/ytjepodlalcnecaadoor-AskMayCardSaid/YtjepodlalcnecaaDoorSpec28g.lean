/- Plain words of layer 28: a query's text is read as the query. No program. -/
import Derived.Test.YtjepodlalcnecaaDoorSpec28f
import Derived.Test.YtjepodlalcnecaaDoorSpec28d
set_option linter.unusedVariables false
namespace Go.Fk
/-- what may stand behind a part -/
def okR (r : List UInt8) : Prop := ∀ c, r.head? = some c → c = 32 ∨ c = 41
/-- a text that begins with no blank -/
def Hdt (t : List UInt8) : Prop := ∃ c r, t = c :: r ∧ c ≠ 32
theorem Hdt.skip {t : List UInt8} (h : Hdt t) (r : List UInt8) : skipB (t ++ r) = t ++ r := by
  obtain ⟨c, u, rfl, hc⟩ := h
  exact skip_other c (u ++ r) hc
theorem takeWhile_app (p r : List UInt8) (hp : p.all isL = true) (hr : ∀ c, r.head? = some c → isL c = false) : (p ++ r).takeWhile isL = p ∧ (p ++ r).dropWhile isL = r := by
  induction p with
  | nil =>
    cases r with
    | nil => exact ⟨rfl, rfl⟩
    | cons c r => have := hr c rfl; simp [this]
  | cons c p ih =>
    rw [List.all_cons, Bool.and_eq_true] at hp
    simp [hp.1, ih hp.2]
theorem cut_dots (a b : List UInt8) (h : (46 : UInt8) ∉ a) : Lib.cut (a ++ 46 :: 46 :: b) [46, 46] = (a, b, true) := by
  have hi : Lib.index (a ++ 46 :: 46 :: b) [46, 46] = a.length := by
    induction a with
    | nil => simp [Lib.index, List.isPrefixOf]
    | cons x a ih =>
      have hx : ¬ (46 : UInt8) = x := by rintro rfl; exact h (by simp)
      have := ih (fun hm => h (by simp [hm]))
      rw [List.cons_append, Lib.index, this]
      have e : [46, 46].isPrefixOf (x :: (a ++ 46 :: 46 :: b)) = false := by simp [List.isPrefixOf, hx]
      rw [e]
      have e2 : ((a.length : Int) == -1) = false := by simp
      simp [e2]
  unfold Lib.cut
  rw [hi, if_pos (by omega)]
  simp [List.drop_append]
theorem one_self (r : List UInt8) (h : (oneOf r == some r) = true) : r ≠ [] ∧ r.all isL = true := by
  have h : oneOf r = some r := by simpa using h
  unfold oneOf at h
  split at h
  · rename_i hh; exact ⟨hh.1, hh.2.2⟩
  · cases h
theorem okR_letter {rest : List UInt8} (h : okR rest) : ∀ c, rest.head? = some c → isL c = false := by
  intro c hc
  rcases h c hc with rfl | rfl <;> decide
theorem word_text (w rest : List UInt8) (h : termB w = true) (hr : ∀ c, rest.head? = some c → isL c = false) :
    wordP (w ++ rest) = (if rest.head? = some 42 then (leafL 2 w, rest.drop 1) else (leafL 1 w, rest)) ∧ smallO w = some w ∧ ∃ c r, w = c :: r ∧ (c = 64 ∨ isL c = true) := by
  unfold termB at h
  cases w with
  | nil => cases h
  | cons c r =>
    simp only at h
    by_cases hc : c = 64
    · subst hc
      rw [if_pos rfl] at h
      obtain ⟨h1, h2⟩ := one_self r h
      obtain ⟨e1, e2⟩ := takeWhile_app r rest h2 hr
      refine ⟨?_, ?_, 64, r, rfl, .inl rfl⟩
      · unfold wordP
        simp [e1, e2]
      · unfold smallO
        have : oneOf r = some r := by simpa using h
        simp [this]
    · rw [if_neg hc] at h
      obtain ⟨h1, h2⟩ := one_self (c :: r) h
      obtain ⟨e1, e2⟩ := takeWhile_app (c :: r) rest h2 hr
      refine ⟨?_, ?_, c, r, rfl, .inr ?_⟩
      · unfold wordP
        rw [List.cons_append] at e1 e2 ⊢
        simp [hc, e1, e2]
      · unfold smallO
        have : oneOf (c :: r) = some (c :: r) := by simpa using h
        simp [hc, this]
      · rw [List.all_cons, Bool.and_eq_true] at h2; exact h2.1
theorem span_text (op : Int) (o e : UInt8) (a b : UInt64) (rest : List UInt8) (ho : o ≠ e) (he : (e : UInt8) ≠ 46) (hd : ∀ u, e ∉ Lib.decDigits u) (hp : ∀ u, (46 : UInt8) ∉ Lib.decDigits u) :
    spanP op e (o :: (Lib.decDigits a.toNat ++ 46 :: 46 :: (Lib.decDigits b.toNat ++ [e])) ++ rest) = ([spanS op a b], rest) := by
  have e1 : o :: (Lib.decDigits a.toNat ++ 46 :: 46 :: (Lib.decDigits b.toNat ++ [e])) ++ rest = (o :: (Lib.decDigits a.toNat ++ 46 :: 46 :: Lib.decDigits b.toNat)) ++ e :: rest := by simp
  rw [e1]
  obtain ⟨h1, h2⟩ := bef_of e (o :: (Lib.decDigits a.toNat ++ 46 :: 46 :: Lib.decDigits b.toNat)) rest (by
    intro h
    rcases List.mem_cons.1 h with h | h
    · exact ho h.symm
    · rcases List.mem_append.1 h with h | h
      · exact hd _ h
      · rcases List.mem_cons.1 h with h | h
        · exact he h
        · rcases List.mem_cons.1 h with h | h
          · exact he h
          · exact hd _ h)
  unfold spanP
  rw [if_pos (by simp), h1, h2]
  have e2 : (o :: (Lib.decDigits a.toNat ++ 46 :: 46 :: Lib.decDigits b.toNat)).drop 1 = Lib.decDigits a.toNat ++ 46 :: 46 :: Lib.decDigits b.toNat := rfl
  have n1 := (numL_iff (Lib.decDigits a.toNat) a.toNat).2 ⟨a.toNat_lt, rfl⟩
  have n2 := (numL_iff (Lib.decDigits b.toNat) b.toNat).2 ⟨b.toNat_lt, rfl⟩
  rw [e2, cut_dots _ _ (hp _)]
  simp [n1, n2]
theorem leaf_text (s : Stp) (rest : List UInt8) (hr : rightB s = true) (h : s.op = 1 ∨ s.op = 2 ∨ s.op = 3 ∨ s.op = 4) (hk : okR rest) :
    leafQ (showT s [] ++ rest) = ([s], rest) ∧ ∃ c r, showT s [] = c :: r ∧ c ≠ 32 ∧ c ≠ 33 ∧ c ≠ 40 := by
  obtain ⟨op, n, w, fa, fb⟩ := s
  have hz : ∀ u : UInt64, (u.toNat : Int) = 0 → u = 0 := fun u h => UInt64.toNat_inj.1 (Int.ofNat.inj h)
  have hw : ∀ (w : List UInt8) (c : UInt8) (r : List UInt8), w = c :: r → (c = 64 ∨ isL c = true) → c ≠ 32 ∧ c ≠ 33 ∧ c ≠ 40 ∧ c ≠ 91 ∧ c ≠ 60 := by
    intro w c r _ hc
    refine ⟨?_, ?_, ?_, ?_, ?_⟩ <;> (rintro rfl; revert hc; decide)
  simp only at h
  rcases h with rfl | rfl | rfl | rfl
  · unfold rightB at hr
    simp at hr
    obtain ⟨⟨rfl, h1, h2⟩, ht⟩ := hr
    have e1 := hz fa (by omega)
    have e2 := hz fb (by omega)
    subst e1 e2
    obtain ⟨q1, q2, c, r, q3, q4⟩ := word_text w rest ht (okR_letter hk)
    obtain ⟨c1, c2, c3, c4, c5⟩ := hw w c r q3 q4
    have hne : rest.head? ≠ some 42 := by intro h; rcases hk 42 h with h | h <;> cases h
    rw [if_neg hne] at q1
    refine ⟨?_, c, r, ?_, c1, c2, c3⟩
    · show leafQ (w ++ rest) = _
      unfold leafQ
      rw [q3, List.cons_append, List.head?_cons, if_neg (by simpa using c4), if_neg (by simpa using c5), ← List.cons_append, ← q3, q1]
      unfold leafL; rw [q2]
    · show w = _; exact q3
  · unfold rightB at hr
    simp at hr
    obtain ⟨⟨rfl, h1, h2⟩, ht⟩ := hr
    have e1 := hz fa (by omega)
    have e2 := hz fb (by omega)
    subst e1 e2
    obtain ⟨q1, q2, c, r, q3, q4⟩ := word_text w (42 :: rest) ht (by intro c hc; cases hc; decide)
    obtain ⟨c1, c2, c3, c4, c5⟩ := hw w c r q3 q4
    rw [if_pos (show ((42 : UInt8) :: rest).head? = some 42 from rfl)] at q1
    refine ⟨?_, c, r ++ [42], ?_, c1, c2, c3⟩
    · show leafQ (w ++ [42] ++ rest) = _
      rw [List.append_assoc]
      show leafQ (w ++ 42 :: rest) = _
      unfold leafQ
      rw [q3, List.cons_append, List.head?_cons, if_neg (by simpa using c4), if_neg (by simpa using c5), ← List.cons_append, ← q3, q1]
      unfold leafL; rw [q2]; rfl
    · show w ++ [42] = _; rw [q3]; rfl
  · unfold rightB at hr
    simp at hr
    obtain ⟨rfl, rfl⟩ := hr
    refine ⟨?_, _, _, rfl, by decide, by decide, by decide⟩
    exact span_text 3 91 93 fa fb rest (by decide) (by decide) (fun u => dec_no u 93 (by decide)) (fun u => dec_no u 46 (by decide))
  · unfold rightB at hr
    simp at hr
    obtain ⟨rfl, rfl⟩ := hr
    refine ⟨?_, _, _, rfl, by decide, by decide, by decide⟩
    exact span_text 4 60 62 fa fb rest (by decide) (by decide) (fun u => dec_no u 62 (by decide)) (fun u => dec_no u 46 (by decide))
end Go.Fk
