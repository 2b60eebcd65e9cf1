/- Walks of the query laws: the text of a query is the document's. -/
import Derived.Test.YtjepodlalcnecaaDoorW28y
import Derived.Test.YtjepodlalcnecaaDoorW28z
import Derived.Test.YtjepodlalcnecaaDoorSpec28f
set_option linter.unusedVariables false
namespace Go.Proofs.YtjepodlalcnecaaDoor
open Go.RowKit Go.Fk
theorem RShow_leaf (s : Stp) (hr : rightB s = true) (h : s.op ≠ 5 ∧ s.op ≠ 6 ∧ s.op ≠ 7) (v : Value) (w : World) (hs : See w eT v [s]) :
    Calls Tryd.prog 19 #[v] w fun e w' => e = .returned (S (showT s [])) ∧ Fr w w' := by
  have h14 : s.op = 1 ∨ s.op = 2 ∨ s.op = 3 ∨ s.op = 4 := by
    unfold rightB at hr
    by_cases h12 : s.op = 1 ∨ s.op = 2
    · omega
    · by_cases h34 : s.op = 3 ∨ s.op = 4
      · omega
      · rw [if_neg h12, if_neg h34, if_neg (by omega)] at hr
        simp at hr
        exact absurd hr.1 h.1
  obtain ⟨op, n, word, fa, fb⟩ := s
  simp only at h14
  by_cases h12 : op = 1 ∨ op = 2
  · have hl : word.length ≤ 25 := by
      unfold rightB at hr
      rw [if_pos h12] at hr
      simp only [Bool.and_eq_true] at hr
      exact term_len _ hr.2
    exact RShow_word v op n h12 word fa fb w hl hs
  · have e1 := dec_le _ fa.toNat_lt
    have e2 := dec_le _ fb.toNat_lt
    by_cases h3 : op = 3
    · subst h3
      exact RShow_span1 v 3 n 91 93 (.inl ⟨rfl, rfl, rfl⟩) word _ _ _ _ fa fb w fa.toNat_lt fb.toNat_lt rfl rfl e1 e2 rfl rfl hs
    · obtain rfl : op = 4 := by omega
      exact RShow_span1 v 4 n 60 62 (.inr ⟨rfl, rfl, rfl⟩) word _ _ _ _ fa fb w fa.toNat_lt fb.toNat_lt rfl rfl e1 e2 rfl rfl hs
theorem RShow_any : ∀ (m : Nat) (q : List Stp), IsQ q → q.length ≤ m → q.length ≤ 1000 → ∀ (v : Value) (w : World), See w eT v q →
    Calls Tryd.prog 19 #[v] w fun e w' => e = .returned (S (shQ q).1) ∧ Fr w w' := by
  intro m
  induction m with
  | zero => intro q h hl; have := isQ_pos q h; omega
  | succ m ihm =>
    intro q h hl h1000 v w hs
    cases h with
    | mk s ps hr hn hp =>
      rw [List.length_append] at hl h1000
      have hone : [s].length = 1 := rfl
      rw [shQ_mk s ps hn hp]
      have IH : ∀ p ∈ ps, ∀ v W, See W eT v p → Calls Tryd.prog 19 #[v] W fun e w' => e = .returned (S (shQ p).1) ∧ Fr W w' := fun p hm v W hsp => by
        have := flat_mem ps p hm
        exact ihm p (hp p hm) (by omega) (by omega) v W hsp
      by_cases h5 : s.op = 5
      · obtain ⟨op, n, word, fa, fb⟩ := s
        simp only at h5
        subst h5
        exact RShow_join5 n word fa fb ps hr hn hp (by omega) IH v w hs
      · by_cases h6 : s.op = 6
        · obtain ⟨op, n, word, fa, fb⟩ := s
          simp only at h6
          subst h6
          exact RShow_join6 n word fa fb ps hr hn hp (by omega) IH v w hs
        · by_cases h7 : s.op = 7
          · obtain ⟨op, n, word, fa, fb⟩ := s
            simp only at h7
            subst h7
            exact RShow_join7 n word fa fb ps hr hn hp (by omega) IH v w hs
          · have hz : ps.length = 0 := by
              have : takesZ s = 0 := by unfold takesZ; rw [if_neg h5, if_neg (by omega)]
              omega
            obtain rfl := List.eq_nil_of_length_eq_zero hz
            exact RShow_leaf s hr ⟨h5, h6, h7⟩ v w hs
set_option maxRecDepth 100000 in
set_option maxHeartbeats 1000000 in
theorem AskShows_any (v : Value) (q : List Stp) (w : World) (hs : See w eT v q) (hT : LibT w) :
    Calls Tryd.prog 5 #[v] w fun e w' => e = .returned (.bool true) ∧ Fr w w' := by
  obtain ⟨a, cap, hv, hc1, hc2, hn⟩ := hs.shape
  subst hv
  have HRS : Hid (checkQ q = 0 → ∀ v W, See W eT v q → Calls Tryd.prog 19 #[v] W fun e w' => e = .returned (S (textQ q)) ∧ Fr W w') := fun hz v W h => by
    rw [textQ_sh]
    exact RShow_any q.length q (check_isQ q hz) (Nat.le_refl _) (check_zero q hz).1 v W h
  have HSQ : Hid (shownQ q = if checkQ q = 0 then textQ q else []) := rfl
  have HS : Hid (∀ W v, See W eT v q → LibT W → Calls Tryd.prog 18 #[v] W fun e w' => e = .returned (.tuple #[S (shownQ q), .int .i64 (checkQ q)]) ∧ Fr W w') := fun W v h1 h2 => Show_any v q W h1 h2
  have HC : Hid (∀ W v, See W eT v q → Calls Tryd.prog 13 #[v] W fun e w' => e = .returned (.int .i64 (checkQ q)) ∧ Fr W w') := fun W v h1 => RCheck_any v q W h1
  go_enter Tryd.func5, Tryd.ntmps5
  go_wp2_with fail
  refine (alive_any _ hT).mono ?_
  rintro e w1 ⟨rfl, hf1⟩
  have HT1 := hid (hT.fr hf1)
  have hs1 := hs.fr hf1
  clear hT hn
  generalize checkQ q = c at *
  generalize shownQ q = sq at *
  generalize textQ q = t at *
  by_cases hg : 80 < q.length ∧ q.length ≤ 1000
  · have hg1 : (80 : Int) < q.length := by omega
    have hg2 : (q.length : Int) ≤ 1000 := by omega
    go_wp2_with fail
    go_ret
    exact ⟨rfl, hf1⟩
  · have hgo : (¬ (80 : Int) < q.length) ∨ (80 : Int) < q.length ∧ ¬ (q.length : Int) ≤ 1000 := by omega
    clear hg
    rcases hgo with hg1 | ⟨hg1, hg2⟩
    all_goals go_wp2_with fail
    all_goals refine (HS.out _ _ hs1 HT1.out).mono ?_
    all_goals rintro e w2 ⟨rfl, hf2⟩
    all_goals have hs2 := hs1.fr hf2
    all_goals go_wp2_with fail
    all_goals refine (HC.out _ _ hs2).mono ?_
    all_goals rintro e w3 ⟨rfl, hf3⟩
    all_goals have hs3 := hs2.fr hf3
    all_goals have hf03 := (hf1.trans hf2).trans hf3
    all_goals by_cases hz : c = 0
    all_goals first
      | (subst hz
         have hst : sq = t := by rw [HSQ.out, if_pos rfl]
         subst hst
         have HR := hid (HRS.out rfl)
         go_wp2_with fail
         refine (HR.out _ _ hs3).mono ?_
         rintro e w4 ⟨rfl, hf4⟩
         go_wp2_with fail
         go_ret
         exact ⟨rfl, hf03.trans hf4⟩)
      | (have hst : sq = [] := by rw [HSQ.out, if_neg hz]
         subst hst
         have hz1 : (c != 0) = true := by simpa using hz
         have hz2 : (c == 0) = false := by simpa using hz
         clear hz
         go_wp2_with fail
         go_ret
         exact ⟨rfl, hf03⟩)
end Go.Proofs.YtjepodlalcnecaaDoor
