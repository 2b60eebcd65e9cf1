/- Plain words of layer 28: how long a shown query is. No program. -/
import Derived.Test.YtjepodlalcnecaaDoorSpec28c
set_option linter.unusedVariables false
namespace Go.Fk
theorem term_len (s : List UInt8) (h : termB s = true) : s.length ≤ 25 := by
  have hO : ∀ l r : List UInt8, oneOf l = some r → l.length ≤ 24 := by
    intro l r h
    unfold oneOf at h
    split at h
    · rename_i hh; exact hh.2.1
    · cases h
  unfold termB at h
  cases s with
  | nil => simp
  | cons c r =>
    simp only at h
    split at h
    · have := hO r r (by simpa using h); simp; omega
    · have := hO (c :: r) (c :: r) (by simpa using h); omega
theorem within_len (op : Int) (x : Sh) : (within op x).length ≤ x.1.length + 2 := by
  unfold within; split <;> simp
theorem sepL_len (sep : List UInt8) (xs : List (List UInt8)) : (sepL sep xs).length ≤ (xs.map fun x => x.length + sep.length).sum := by
  induction xs with
  | nil => simp [sepL]
  | cons x r ih =>
    cases r with
    | nil => simp [sepL]
    | cons y r =>
      rw [sepL]
      · rw [List.map_cons, List.sum_cons, List.length_append, List.length_append]; omega
      · intro h; cases h
/-- what a stack of shown queries weighs -/
def pot (st : List Sh) : Nat := (st.map fun x => x.1.length + 5).sum
theorem pot_app (a b : List Sh) : pot (a ++ b) = pot a + pot b := by unfold pot; rw [List.map_append, List.sum_append]
theorem pot_one (x : Sh) : pot [x] = x.1.length + 5 := by simp [pot]
theorem pot_mem (st : List Sh) (x : Sh) (h : x ∈ st) : x.1.length ≤ pot st := by
  induction st with
  | nil => cases h
  | cons y r ih =>
    have : pot (y :: r) = y.1.length + 5 + pot r := by simp [pot]
    rcases List.mem_cons.1 h with rfl | h
    · omega
    · have := ih h; omega
theorem kids_len (op : Int) (sep : List UInt8) (hs : sep.length ≤ 3) (kids : List Sh) : (sepL sep (kids.map (within op))).length ≤ pot kids := by
  refine Nat.le_trans (sepL_len _ _) ?_
  unfold pot
  rw [List.map_map]
  induction kids with
  | nil => simp
  | cons x r ih =>
    have := within_len op x
    simp only [List.map_cons, List.sum_cons, Function.comp]
    have ih' : (List.map ((fun x => x.length + sep.length) ∘ within op) r).sum ≤ (List.map (fun (x : Sh) => x.1.length + 5) r).sum := ih
    have e : (List.map (fun x => (within op x).length + sep.length) r).sum = (List.map ((fun x => x.length + sep.length) ∘ within op) r).sum := rfl
    first
      | omega
      | (simp only [Function.comp] at ih' ⊢; omega)
theorem showT_len (s : Stp) (kids : List Sh) (h : rightB s = true) (hd : ∀ u, u < 18446744073709551616 → (Lib.decDigits u).length ≤ 20) : (showT s kids).length ≤ pot kids + 44 := by
  unfold showT
  have h1 := hd s.fa.toNat s.fa.toNat_lt
  have h2 := hd s.fb.toNat s.fb.toNat_lt
  unfold rightB at h
  split
  · rename_i e; rw [if_pos (.inl e)] at h; simp at h; have := term_len _ h.2; omega
  split
  · rename_i e; rw [if_pos (.inr e)] at h; simp at h; have := term_len _ h.2; simp; omega
  split
  · simp; omega
  split
  · simp; omega
  split
  · cases kids with
    | nil => simp
    | cons x r =>
      have := within_len s.op x
      have : pot (x :: r) = x.1.length + 5 + pot r := by simp [pot]
      simp; omega
  split
  · have := kids_len s.op [32, 38, 32] (by simp) kids; omega
  · have := kids_len s.op [32, 124, 32] (by simp) kids; omega
theorem pushT_pot (st : List Sh) (s : Stp) (h : rightB s = true) (hd : ∀ u, u < 18446744073709551616 → (Lib.decDigits u).length ≤ 20) : pot (pushT st s) ≤ pot st + 49 := by
  unfold pushT
  have e : pot st = pot (st.take (st.length - (takesZ s).toNat)) + pot (st.drop (st.length - (takesZ s).toNat)) := by
    rw [← pot_app, List.take_append_drop]
  have := showT_len s (st.drop (st.length - (takesZ s).toNat)) h hd
  rw [pot_app, pot_one, e]
  show _ + ((showT s _).length + 5) ≤ _
  omega
theorem pushT_len (st : List Sh) (s : Stp) : (pushT st s).length = st.length - (takesZ s).toNat + 1 := by
  unfold pushT; simp
theorem b_add (a b : List UInt8) : (⟨a.toArray⟩ : ByteArray) ++ ⟨b.toArray⟩ = ⟨(a ++ b).toArray⟩ := by
  apply ByteArray.ext
  simp
end Go.Fk
