/- Plain words of layer 28: the depth of a query. No program. -/
namespace Go.Fk
/-- the greatest of depths -/
def maxL (l : List Nat) : Nat := l.foldl max 0
theorem foldl_max (l : List Nat) : ∀ a, l.foldl max a = max a (maxL l) := by
  induction l with
  | nil => intro a; simp [maxL]
  | cons x l ih =>
    intro a
    unfold maxL
    rw [List.foldl_cons, List.foldl_cons, ih, ih (max 0 x)]
    omega
theorem maxL_nil : maxL [] = 0 := rfl
theorem maxL_snoc (l : List Nat) (x : Nat) : maxL (l ++ [x]) = max (maxL l) x := by
  unfold maxL; rw [List.foldl_append]; rfl
theorem maxL_cons (l : List Nat) (x : Nat) : maxL (x :: l) = max x (maxL l) := by
  unfold maxL; rw [List.foldl_cons, foldl_max]; simp [maxL]
theorem maxL_le (l : List Nat) (m : Nat) (h : ∀ x ∈ l, x ≤ m) : maxL l ≤ m := by
  induction l with
  | nil => simp [maxL]
  | cons x l ih => rw [maxL_cons]; have := h x (by simp); have := ih fun y hy => h y (by simp [hy]); omega
/-- a stack of depths (the last one on top) behind a step that takes n -/
def pushD (st : List Nat) (n : Nat) : List Nat := st.take (st.length - n) ++ [maxL (st.drop (st.length - n)) + 1]
theorem pushD_len (st : List Nat) (n : Nat) : (pushD st n).length = st.length - n + 1 := by
  unfold pushD; simp
theorem pushD_le (st : List Nat) (n m : Nat) (h : ∀ x ∈ st, x ≤ m) : ∀ x ∈ pushD st n, x ≤ m + 1 := by
  intro x hx
  unfold pushD at hx
  rcases List.mem_append.1 hx with hx | hx
  · have := h x (List.mem_of_mem_take hx); omega
  · obtain rfl : x = _ := by simpa using hx
    have := maxL_le (st.drop (st.length - n)) m fun y hy => h y (List.mem_of_mem_drop hy)
    omega
end Go.Fk
