/- Plain words of layer 28: where the parts of a query begin. No program. -/
import Derived.Test.YtjepodlalcnecaaDoorSpec28f
import Derived.Test.YtjepodlalcnecaaDoorSpec28e
set_option linter.unusedVariables false
namespace Go.Fk
/-- what steps take off, less what they put there -/
def bal (l : List Stp) : Int := (l.map fun s => takesZ s - 1).sum
theorem bal_nil : bal [] = 0 := rfl
theorem bal_cons (s : Stp) (l : List Stp) : bal (s :: l) = takesZ s - 1 + bal l := by simp [bal]
theorem bal_app (a b : List Stp) : bal (a ++ b) = bal a + bal b := by simp [bal]
/-- a query takes one less than it has; its proper ends don't -/
def Bal (q : List Stp) : Prop := bal q = -1 ∧ ∀ a b, q = a ++ b → a ≠ [] → 0 ≤ bal b
theorem bal_flat (ps : List (List Stp)) (h : ∀ p ∈ ps, Bal p) : bal ps.flatten = -ps.length ∧ ∀ a b, ps.flatten = a ++ b → a ≠ [] → 1 - (ps.length : Int) ≤ bal b := by
  induction ps with
  | nil =>
    refine ⟨rfl, fun a b e ha => ?_⟩
    have : a = [] ∧ b = [] := by simpa using e.symm
    exact absurd this.1 ha
  | cons p r ih =>
    obtain ⟨h1, h2⟩ := h p (by simp)
    obtain ⟨i1, i2⟩ := ih fun x hx => h x (by simp [hx])
    refine ⟨by rw [List.flatten_cons, bal_app, h1, i1]; simp; omega, ?_⟩
    intro a b e ha
    rw [List.flatten_cons] at e
    rcases List.append_eq_append_iff.1 e with ⟨c, e1, e2⟩ | ⟨c, e1, e2⟩
    · by_cases hc : c = []
      · subst hc
        have : b = r.flatten := by simpa using e2.symm
        rw [this, i1]; simp; omega
      · have := i2 c b e2 hc
        simp; omega
    · have := h2 a c e1 ha
      rw [e2, bal_app, i1]; simp; omega
theorem bal_q (q : List Stp) (h : IsQ q) : Bal q := by
  induction h with
  | mk s ps hr hn hp ih =>
    obtain ⟨f1, f2⟩ := bal_flat ps ih
    have hs : bal [s] = takesZ s - 1 := by rw [bal_cons, bal_nil]; omega
    refine ⟨by rw [bal_app, f1, hs]; omega, ?_⟩
    intro a b e ha
    rcases List.append_eq_append_iff.1 e with ⟨c, e1, e2⟩ | ⟨c, e1, e2⟩
    · by_cases hc : c = []
      · subst hc
        have hb : b = [s] := by simpa using e2.symm
        have hne : ps ≠ [] := by rintro rfl; rw [e1] at ha; exact ha rfl
        have : 0 < ps.length := List.length_pos_iff.2 hne
        rw [hb, hs]; omega
      · have hb : b = [] := by
          have := congrArg List.length e2
          have hcl := List.length_pos_iff.2 hc
          simp at this
          exact List.eq_nil_of_length_eq_zero (by omega)
        rw [hb, bal_nil]; omega
    · have := f2 a c e1 ha
      rw [e2, bal_app, hs]; omega
theorem isQ_pos (q : List Stp) (h : IsQ q) : 1 ≤ q.length := by cases h; simp
theorem flat_count (ps : List (List Stp)) (h : ∀ p ∈ ps, IsQ p) : ps.length ≤ ps.flatten.length := by
  induction ps with
  | nil => simp
  | cons p r ih =>
    have := isQ_pos p (h p (by simp))
    have := ih fun x hx => h x (by simp [hx])
    simp only [List.flatten_cons, List.length_append, List.length_cons]; omega
theorem flat_mem (ps : List (List Stp)) (p : List Stp) (h : p ∈ ps) : p.length ≤ ps.flatten.length := by
  induction ps with
  | nil => cases h
  | cons x r ih =>
    rcases List.mem_cons.1 h with rfl | h
    · simp
    · have := ih h
      simp only [List.flatten_cons, List.length_append]; omega
/-- of each step of a query -/
theorem step_q (q : List Stp) (h : IsQ q) : ∀ s ∈ q, rightB s = true ∧ takesZ s ≤ q.length := by
  induction h with
  | mk s ps hr hn hp ih =>
    intro t ht
    rcases List.mem_append.1 ht with ht | ht
    · obtain ⟨p, hm, hp2⟩ := List.mem_flatten.1 ht
      obtain ⟨h1, h2⟩ := ih p hm t hp2
      have := flat_mem ps p hm
      refine ⟨h1, ?_⟩
      simp only [List.length_append, List.length_cons, List.length_nil]; omega
    · obtain rfl : t = s := by simpa using ht
      have := flat_count ps hp
      refine ⟨hr, ?_⟩
      simp only [List.length_append, List.length_cons, List.length_nil]; omega
theorem bal_le (l : List Stp) (m : Nat) (h : ∀ s ∈ l, takesZ s ≤ m) : bal l ≤ l.length * m := by
  induction l with
  | nil => simp [bal]
  | cons s l ih =>
    have h1 := h s (by simp)
    have h2 := ih fun x hx => h x (by simp [hx])
    rw [bal_cons]
    have e : (((s :: l).length : Nat) : Int) * m = l.length * m + m := by
      simp only [List.length_cons]
      push_cast
      rw [Int.add_mul]; omega
    rw [e]; omega
theorem flat_at (ps : List (List Stp)) (i : Nat) (hi : i < ps.length) (t : Nat) (h : t < ps[i].length) : ∃ h2, ps.flatten[(ps.take i).flatten.length + t]'h2 = ps[i][t] := by
  have e : ps.flatten = (ps.take i).flatten ++ (ps[i] ++ (ps.drop (i + 1)).flatten) := by
    rw [← List.flatten_cons, ← List.drop_eq_getElem_cons hi, ← List.flatten_append, List.take_append_drop]
  have e2 : ps.flatten[(ps.take i).flatten.length + t]? = some ps[i][t] := by
    rw [e, List.getElem?_append_right (by omega), Nat.add_sub_cancel_left, List.getElem?_append_left h, List.getElem?_eq_getElem h]
  exact List.getElem?_eq_some_iff.1 e2
/-- what is known of a part, from its end to its beginning -/
theorem part_facts (p : List Stp) (hp : IsQ p) (hm : p.length ≤ 1001) : bal (p.drop 0) = -1 ∧ ∀ t (h : t < p.length), takesR p[t] = takesZ p[t] ∧ 0 ≤ takesZ p[t] ∧ takesZ p[t] ≤ 1001 ∧ 0 ≤ bal (p.drop (t + 1)) ∧ bal (p.drop (t + 1)) ≤ 2000000 ∧ bal (p.drop t) = takesZ p[t] - 1 + bal (p.drop (t + 1)) := by
  obtain ⟨b1, b2⟩ := bal_q p hp
  have hst := step_q p hp
  refine ⟨by rw [List.drop_zero]; exact b1, fun t h => ?_⟩
  obtain ⟨h1, h2⟩ := hst p[t] (List.getElem_mem h)
  have h3 := bal_le (p.drop (t + 1)) 1001 fun s hs => by have := (hst s (List.mem_of_mem_drop hs)).2; omega
  have h4 := right_takes p[t] h1
  refine ⟨takes_same _ h1, h4, by omega, b2 (p.take (t + 1)) _ (List.take_append_drop _ _).symm (by intro e; have := congrArg List.length e; rw [List.length_take, List.length_nil] at this; omega), ?_, ?_⟩
  · have : (p.drop (t + 1)).length ≤ 1001 := by rw [List.length_drop]; omega
    omega
  · rw [List.drop_eq_getElem_cons h, bal_cons]
theorem flat_mid (ps : List (List Stp)) (s : Stp) (i : Nat) (hi : i < ps.length) : ((ps.flatten ++ [s]).take ((ps.take i).flatten.length + ps[i].length)).drop (ps.take i).flatten.length = ps[i] := by
  have e : ps.flatten = (ps.take i).flatten ++ (ps[i] ++ (ps.drop (i + 1)).flatten) := by
    rw [← List.flatten_cons, ← List.drop_eq_getElem_cons hi, ← List.flatten_append, List.take_append_drop]
  have e2 : ps.flatten ++ [s] = (ps.take i).flatten ++ (ps[i] ++ ((ps.drop (i + 1)).flatten ++ [s])) := by
    have := congrArg (· ++ [s]) e
    simpa using this
  rw [e2, List.take_length_add_append, List.drop_left, List.take_left]
theorem isQ_len (q : List Stp) (h : IsQ q) : 1 ≤ q.length := isQ_pos q h
end Go.Fk
namespace Go.Fk
theorem sepL_snoc (sep : List UInt8) (xs : List (List UInt8)) (x : List UInt8) (h : xs ≠ []) : sepL sep (xs ++ [x]) = sepL sep xs ++ (sep ++ x) := by
  induction xs with
  | nil => exact absurd rfl h
  | cons y r ih =>
    cases r with
    | nil => simp [sepL]
    | cons z r =>
      have h1 : sepL sep (y :: z :: r) = y ++ (sep ++ sepL sep (z :: r)) := by rw [sepL]; intro h; cases h
      have h2 : sepL sep (y :: z :: r ++ [x]) = y ++ (sep ++ sepL sep (z :: r ++ [x])) := by
        show sepL sep (y :: (z :: r ++ [x])) = _
        rw [sepL]; intro h; cases h
      rw [h1, h2, ih (by simp)]
      simp
/-- what stands between parts -/
def sepO (op : Int) : List UInt8 := if op = 6 then [32, 38, 32] else [32, 124, 32]
/-- the text of the first parts -/
def acc (op : Int) (ps : List (List Stp)) (k : Nat) : List UInt8 := sepL (sepO op) (((ps.take k).map shQ).map (within op))
theorem acc_zero (op : Int) (ps : List (List Stp)) : acc op ps 0 = [] := by simp [acc, sepL]
theorem acc_one (op : Int) (ps : List (List Stp)) (h : 0 < ps.length) : acc op ps 1 = within op (shQ ps[0]) := by
  unfold acc
  rw [List.take_succ_eq_append_getElem h]
  simp [sepL]
theorem acc_succ (op : Int) (ps : List (List Stp)) (k : Nat) (h : k < ps.length) (hk : 0 < k) : acc op ps (k + 1) = acc op ps k ++ (sepO op ++ within op (shQ ps[k])) := by
  unfold acc
  rw [List.take_succ_eq_append_getElem h, List.map_append, List.map_append]
  show sepL _ (_ ++ [within op (shQ ps[k])]) = _
  rw [sepL_snoc]
  intro e
  have := congrArg List.length e
  rw [List.length_map, List.length_map, List.length_take, List.length_nil] at this
  omega
theorem pots_of (ps : List (List Stp)) (h : ∀ p ∈ ps, (shQ p).1.length + 5 ≤ 49 * p.length) : pot (ps.map shQ) ≤ 49 * ps.flatten.length := by
  induction ps with
  | nil => simp [pot]
  | cons p r ih =>
    have h1 := h p (by simp)
    have h2 := ih fun x hx => h x (by simp [hx])
    have e : pot ((p :: r).map shQ) = (shQ p).1.length + 5 + pot (r.map shQ) := by simp [pot]
    rw [e, List.flatten_cons, List.length_append]
    omega
section
variable (hd : ∀ u, u < 18446744073709551616 → (Lib.decDigits u).length ≤ 20)
include hd
theorem sh_len (q : List Stp) (h : IsQ q) : (shQ q).1.length + 5 ≤ 49 * q.length := by
  induction h with
  | mk s ps hr hn hp ih =>
    have h1 := pots_of ps ih
    have h2 := showT_len s (ps.map shQ) hr hd
    rw [shQ_mk s ps hn hp, List.length_append, List.length_cons, List.length_nil]
    show (showT s (ps.map shQ)).length + 5 ≤ _
    omega
theorem acc_len (op : Int) (ps : List (List Stp)) (hp : ∀ p ∈ ps, IsQ p) (k : Nat) : (acc op ps k).length ≤ 49 * ps.flatten.length := by
  have h0 : (sepO op).length ≤ 3 := by unfold sepO; split <;> simp
  have h1 := kids_len op (sepO op) h0 ((ps.take k).map shQ)
  have h2 := pots_of (ps.take k) fun p hm => sh_len hd p (hp p (List.mem_of_mem_take hm))
  have h3 : (ps.take k).flatten.length ≤ ps.flatten.length := by
    have : ps.flatten = (ps.take k).flatten ++ (ps.drop k).flatten := by rw [← List.flatten_append, List.take_append_drop]
    rw [this, List.length_append]; omega
  unfold acc
  omega
end
theorem show_join (op : Int) (n : Int) (w : List UInt8) (a b : UInt64) (ps : List (List Stp)) (h : op = 6 ∨ op = 7) : showT ⟨op, n, w, a, b⟩ (ps.map shQ) = acc op ps ps.length := by
  unfold acc sepO
  rw [List.take_length]
  unfold showT
  rcases h with rfl | rfl <;> simp
theorem show_not (n : Int) (w : List UInt8) (a b : UInt64) (ps : List (List Stp)) (h : ps.length = 1) : showT ⟨5, n, w, a, b⟩ (ps.map shQ) = 33 :: acc 5 ps ps.length := by
  match ps, h with
  | [p], _ => rfl
theorem sh_op (p : List Stp) (h : IsQ p) : ∃ (p' : List Stp) (s : Stp), p = p' ++ [s] ∧ (shQ p).2 = s.op := by
  cases h with
  | mk s ps hr hn hp => exact ⟨ps.flatten, s, rfl, by rw [shQ_mk s ps hn hp]⟩
end Go.Fk
