/- Plain words of layer 28: a query is a tree. No program. -/
import Derived.Test.YtjepodlalcnecaaDoorSpec28e
set_option linter.unusedVariables false
namespace Go.Fk
/-- a query, by its last step -/
inductive IsQ : List Stp → Prop
  | mk (s : Stp) (ps : List (List Stp)) (hr : rightB s = true) (hn : (ps.length : Int) = takesZ s) (hp : ∀ p ∈ ps, IsQ p) : IsQ (ps.flatten ++ [s])
theorem stacks_q : ∀ (q : List Stp) (st st' : List Nat) (gs : List (List Stp)), stacks st q = some st' → st.length = gs.length → (∀ g ∈ gs, IsQ g) →
    ∃ hs : List (List Stp), hs.flatten = gs.flatten ++ q ∧ (∀ g ∈ hs, IsQ g) ∧ hs.length = st'.length := by
  intro q
  induction q with
  | nil =>
    intro st st' gs h hl hg
    rw [stacks] at h
    cases h
    exact ⟨gs, by simp, hg, hl.symm⟩
  | cons s r ih =>
    intro st st' gs h hl hg
    rw [stacks] at h
    split at h
    · cases h
    · rename_i hif
      have hr : rightB s = true := by cases hr : rightB s with | true => rfl | false => exact absurd (.inl hr) hif
      have h0 := right_takes s hr
      have hle : ¬ (st.length : Int) < takesZ s := fun e => hif (.inr e)
      obtain ⟨hs, h1, h2, h3⟩ := ih (pushD st (takesZ s).toNat) st' (gs.take (gs.length - (takesZ s).toNat) ++ [(gs.drop (gs.length - (takesZ s).toNat)).flatten ++ [s]]) h (by rw [pushD_len]; simp; omega) (by
        intro g hgm
        rcases List.mem_append.1 hgm with hgm | hgm
        · exact hg g (List.mem_of_mem_take hgm)
        · obtain rfl : g = _ := by simpa using hgm
          exact IsQ.mk s _ hr (by rw [List.length_drop]; omega) fun p hp => hg p (List.mem_of_mem_drop hp))
      refine ⟨hs, ?_, h2, h3⟩
      rw [h1]
      have e : gs.flatten = (gs.take (gs.length - (takesZ s).toNat)).flatten ++ (gs.drop (gs.length - (takesZ s).toNat)).flatten := by
        rw [← List.flatten_append, List.take_append_drop]
      rw [e]; simp
theorem isQ_of (q : List Stp) (d : Nat) (h : stacks [] q = some [d]) : IsQ q := by
  obtain ⟨hs, h1, h2, h3⟩ := stacks_q q [] [d] [] h rfl (by simp)
  match hs, h3 with
  | [g], _ =>
    have : g = q := by simpa using h1
    exact this ▸ h2 g (by simp)
theorem isQ_ne (q : List Stp) (h : IsQ q) : q ≠ [] := by cases h; simp
/-- a query shown: its text, and its last step's Op -/
def shQ (q : List Stp) : Sh := (shows q).headD ([], 0)
theorem textQ_sh (q : List Stp) : textQ q = (shQ q).1 := rfl
theorem fold_flat (ps : List (List Stp)) (h : ∀ p ∈ ps, ∀ st, p.foldl pushT st = st ++ [shQ p]) : ∀ st, ps.flatten.foldl pushT st = st ++ ps.map shQ := by
  induction ps with
  | nil => intro st; simp
  | cons p r ih =>
    intro st
    rw [List.flatten_cons, List.foldl_append, h p (by simp), ih fun q hq => h q (by simp [hq])]
    simp
theorem fold_push (st : List Sh) (s : Stp) (ps : List (List Stp)) (hn : (ps.length : Int) = takesZ s) : pushT (st ++ ps.map shQ) s = st ++ [(showT s (ps.map shQ), s.op)] := by
  unfold pushT
  have e : (takesZ s).toNat = (ps.map shQ).length := by rw [List.length_map]; omega
  have e2 : (st ++ ps.map shQ).length - (takesZ s).toNat = st.length := by rw [e, List.length_append]; omega
  rw [e2, List.take_left', List.drop_left']
  all_goals rfl
theorem fold_q (q : List Stp) (h : IsQ q) : ∀ st, q.foldl pushT st = st ++ [shQ q] := by
  induction h with
  | mk s ps hr hn hp ih =>
    have e : shQ (ps.flatten ++ [s]) = (showT s (ps.map shQ), s.op) := by
      unfold shQ shows
      rw [List.foldl_append, fold_flat ps ih, List.foldl_cons, List.foldl_nil, fold_push [] s ps hn]; rfl
    intro st
    rw [e, List.foldl_append, fold_flat ps ih, List.foldl_cons, List.foldl_nil, fold_push st s ps hn]
theorem shQ_mk (s : Stp) (ps : List (List Stp)) (hn : (ps.length : Int) = takesZ s) (hp : ∀ p ∈ ps, IsQ p) : shQ (ps.flatten ++ [s]) = (showT s (ps.map shQ), s.op) := by
  unfold shQ shows
  rw [List.foldl_append, fold_flat ps fun p h => fold_q p (hp p h), List.foldl_cons, List.foldl_nil, fold_push [] s ps hn]; rfl
end Go.Fk
