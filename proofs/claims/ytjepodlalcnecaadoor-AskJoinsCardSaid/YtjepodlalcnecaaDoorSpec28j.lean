/- Plain words of layer 28: queries put together are one. No program. -/
import Derived.Test.YtjepodlalcnecaaDoorSpec28
set_option linter.unusedVariables false
namespace Go.Fk
theorem stacks_app : ∀ (a b : List Stp) (st : List Nat), stacks st (a ++ b) = (stacks st a).bind fun s => stacks s b := by
  intro a
  induction a with
  | nil => intro b st; rfl
  | cons s a ih =>
    intro b st
    rw [List.cons_append, stacks, stacks]
    split
    · rfl
    · exact ih b _
theorem push_under (base st : List Nat) (n : Nat) (h : n ≤ st.length) : pushD (base ++ st) n = base ++ pushD st n := by
  unfold pushD
  have e : (base ++ st).length - n = base.length + (st.length - n) := by rw [List.length_append]; omega
  rw [e, List.take_length_add_append, List.drop_length_add_append]
  simp
theorem stacks_under : ∀ (q : List Stp) (base st st' : List Nat), stacks st q = some st' → stacks (base ++ st) q = some (base ++ st') := by
  intro q
  induction q with
  | nil => intro base st st' h; rw [stacks] at h ⊢; cases h; rfl
  | cons s q ih =>
    intro base st st' h
    rw [stacks] at h ⊢
    split at h
    · cases h
    · rename_i hif
      have hr : ¬ rightB s = false := fun e => hif (.inl e)
      have hle : ¬ (st.length : Int) < takesZ s := fun e => hif (.inr e)
      have h0 := right_takes s (by simpa using hr)
      rw [if_neg (by rintro (e | e); exact hr e; rw [List.length_append] at e; omega), push_under base st _ (by omega)]
      exact ih base _ st' h
/-- is it a query, of not too many steps? -/
def okD (q : List Stp) : Prop := ∃ d, depthQ q = .ok d
theorem okD_stack (q : List Stp) (h : okD q) : ∃ d, stacks [] q = some [d] := by
  obtain ⟨d, h⟩ := h
  unfold depthQ at h
  split at h
  · cases h
  · unfold depthE at h
    split at h
    · rename_i d' e; exact ⟨d', e⟩
    · cases h
theorem stacks_flat : ∀ (ls : List (List Stp)) (st : List Nat), (∀ q ∈ ls, okD q) → ∃ ds, stacks st ls.flatten = some (st ++ ds) ∧ ds.length = ls.length := by
  intro ls
  induction ls with
  | nil => intro st _; exact ⟨[], by rw [List.append_nil]; rfl, rfl⟩
  | cons q r ih =>
    intro st h
    obtain ⟨d, hd⟩ := okD_stack q (h q (by simp))
    have h1 := stacks_under q st [] [d] hd
    rw [List.append_nil] at h1
    obtain ⟨ds, h2, h3⟩ := ih (st ++ [d]) fun x hx => h x (by simp [hx])
    refine ⟨d :: ds, ?_, by simp [h3]⟩
    rw [List.flatten_cons, stacks_app, h1]
    simp only [Option.bind_some]
    rw [h2]; simp
theorem join_ok (op : Int) (ho : op = 6 ∨ op = 7) (ls : List (List Stp)) (hne : ls ≠ []) (hl : (joinL op ls).length ≤ 1000) (h : ∀ q ∈ ls, okD q) : okD (joinL op ls) := by
  obtain ⟨ds, h1, h2⟩ := stacks_flat ls [] h
  rw [List.nil_append] at h1
  unfold okD depthQ
  rw [if_neg (by omega)]
  unfold joinL at hl ⊢
  by_cases h1l : 1 < ls.length
  · rw [if_pos h1l, stacks_app, h1]
    have hz : takesZ (stepN op ls.length) = ls.length := by unfold takesZ stepN; simp only; rw [if_neg (by omega), if_pos ho]
    have hr : rightB (stepN op ls.length) = true := by
      unfold rightB stepN
      simp only
      rw [if_neg (by omega), if_neg (by omega), if_pos ho]
      simp; omega
    simp only [Option.bind_some]
    rw [stacks, if_neg (by rw [hr, hz, h2]; simp), hz]
    have : pushD ds (ls.length : Int).toNat = [maxL ds + 1] := by
      unfold pushD
      rw [show ds.length - (ls.length : Int).toNat = 0 by omega]; simp
    rw [this]
    exact ⟨_, rfl⟩
  · rw [if_neg h1l, List.append_nil, h1]
    match ds, h2 with
    | [], h2 => exact absurd (List.eq_nil_of_length_eq_zero h2.symm) hne
    | [d], _ => exact ⟨d, rfl⟩
    | _ :: _ :: _, h2 => simp at h2; omega
end Go.Fk
