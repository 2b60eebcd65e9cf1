/- Walks of the query laws: a query's text is read as the query. -/
import Derived.Test.YtjepodlalcnecaaDoorW28y
import Derived.Test.YtjepodlalcnecaaDoorSpec28h
set_option linter.unusedVariables false
namespace Go.Proofs.YtjepodlalcnecaaDoor
open Go.RowKit Go.Fk
theorem fold_pot : ∀ (q : List Stp) (st st' : List Nat) (sh : List Sh), stacks st q = some st' → pot (q.foldl pushT sh) ≤ pot sh + 49 * q.length := by
  intro q
  induction q with
  | nil => intro st st' sh _; simp
  | cons s r ih =>
    intro st st' sh h
    rw [stacks] at h
    split at h
    · cases h
    · rename_i hif
      have hr : rightB s = true := by cases hr : rightB s with | true => rfl | false => exact absurd (.inl hr) hif
      have h1 := ih _ _ (pushT sh s) h
      have h2 := pushT_pot sh s hr dec_le
      simp only [List.foldl_cons, List.length_cons]
      omega
theorem text_len (q : List Stp) (h : checkQ q = 0) : (textQ q).length ≤ 49000 ∧ q.length ≤ 1000 := by
  obtain ⟨hl, d, hs⟩ := check_zero q h
  refine ⟨?_, hl⟩
  have hp := fold_pot q [] [d] [] hs
  have hp : pot (shows q) ≤ pot [] + 49 * q.length := hp
  have h0 : pot [] = 0 := rfl
  unfold textQ
  cases hh : shows q with
  | nil => simp
  | cons x r =>
    have := pot_mem (x :: r) x (by simp)
    rw [← hh] at this
    simp; omega
theorem parse_text (q : List Stp) (h : checkQ q = 0) : parseQ (textQ q) = .ok q ∧ shownQ q = textQ q ∧ (textQ q).length ≤ 49000 := by
  obtain ⟨h1, h2⟩ := text_len q h
  refine ⟨?_, by unfold shownQ; rw [if_pos h], h1⟩
  unfold parseQ
  rw [if_neg (by omega), read_text q (check_isQ q h)]
  simp [h]
set_option maxRecDepth 100000 in
set_option maxHeartbeats 1000000 in
theorem AskBack_any (v : Value) (q : List Stp) (w : World) (hs : See w eT v q) (hT : LibT w) :
    Calls Tryd.prog 6 #[v] w fun e w' => e = .returned (.bool true) ∧ Fr w w' := by
  obtain ⟨a, cap, hv, hc1, hc2, hn⟩ := hs.shape
  subst hv
  go_enter Tryd.func6, Tryd.ntmps6
  go_wp2_with fail
  refine (alive_any _ hT).mono ?_
  rintro e w1 ⟨rfl, hf1⟩
  by_cases hl : 300 < q.length
  · have hl' : (300 : Int) < q.length := by omega
    go_wp2_with fail
    go_ret
    exact ⟨rfl, hf1⟩
  · have hl' : ¬ (300 : Int) < q.length := by omega
    have HT1 := hid (hT.fr hf1)
    have hs1 := hs.fr hf1
    clear hT
    by_cases hz : checkQ q = 0
    · obtain ⟨p1, p2, p3⟩ := parse_text q hz
      have HP : Hid (∀ W, LibT W → Calls Tryd.prog 20 #[S (textQ q)] W fun e w' => ∃ v, e = .returned (.tuple #[v, .int .i64 0, .int .i64 0]) ∧ Own w' W.heap.size eT v q ∧ Fr W w') := by
        intro W hW
        have := Parse_any (textQ q) W (by omega) hW
        unfold ParsePost at this
        rw [p1] at this
        exact this
      have HS : Hid (∀ W v, See W eT v q → LibT W → Calls Tryd.prog 18 #[v] W fun e w' => e = .returned (.tuple #[S (textQ q), .int .i64 0]) ∧ Fr W w') := by
        intro W v h1 h2
        have := Show_any v q W h1 h2
        rw [hz, p2] at this
        exact this
      clear p1 p2 p3 hz
      generalize textQ q = t at *
      go_wp2_with fail
      refine (HS.out _ _ hs1 HT1.out).mono ?_
      rintro e w2 ⟨rfl, hf2⟩
      have HT2 := hid (HT1.out.fr hf2)
      go_wp2_with fail
      refine (HP.out _ HT2.out).mono ?_
      rintro e w3 ⟨v3, rfl, hown3, hf3⟩
      obtain ⟨a3, c3, hv3⟩ := hown3.shape'
      subst hv3
      have hs3 := hs1.fr (hf2.trans hf3)
      go_wp2_with fail
      refine (SameQ_any _ _ _ _ _ hown3.see hs3).mono ?_
      rintro e w4 ⟨rfl, hf4⟩
      rw [decide_eq_true (rfl : q = q)]
      go_wp2_with fail
      go_ret
      exact ⟨rfl, ((hf1.trans hf2).trans hf3).trans hf4⟩
    · have HS : Hid (∀ W v, See W eT v q → LibT W → Calls Tryd.prog 18 #[v] W fun e w' => e = .returned (.tuple #[S (shownQ q), .int .i64 (checkQ q)]) ∧ Fr W w') := fun W v h1 h2 => Show_any v q W h1 h2
      have HC : Hid (∀ W v, See W eT v q → Calls Tryd.prog 13 #[v] W fun e w' => e = .returned (.int .i64 (checkQ q)) ∧ Fr W w') := fun W v h1 => RCheck_any v q W h1
      generalize checkQ q = c at *
      generalize shownQ q = t at *
      have hz1 : (c != 0) = true := by simpa using hz
      have hz2 : (c == 0) = false := by simpa using hz
      clear hz
      go_wp2_with fail
      refine (HS.out _ _ hs1 HT1.out).mono ?_
      rintro e w2 ⟨rfl, hf2⟩
      go_wp2_with fail
      refine (HC.out _ _ (hs1.fr hf2)).mono ?_
      rintro e w3 ⟨rfl, hf3⟩
      go_wp2_with fail
      go_ret
      exact ⟨rfl, (hf1.trans hf2).trans hf3⟩
end Go.Proofs.YtjepodlalcnecaaDoor
