/- Walks of the query laws: what is read of any text may be, and its text is read as the same. -/
import Derived.Test.YtjepodlalcnecaaDoorLawBackQ
set_option linter.unusedVariables false
namespace Go.Proofs.YtjepodlalcnecaaDoor
open Go.RowKit Go.Fk
/-- what is read of a text may be; what is told of one that isn't read -/
theorem parse_may (s : List UInt8) (hl : s.length ≤ 1000) : match parseQ s with
    | .ok q => checkQ q = 0
    | .error x => x.2 = 10 ∨ x.1 = 0 ∧ (x.2 = 6 ∨ x.2 = 11) := by
  unfold parseQ
  rw [if_neg (by omega)]
  cases readP s with
  | error e => exact .inl rfl
  | ok q =>
    by_cases h : checkQ q = 0
    · simp only [h, if_true]
    · simp only [h, if_false]
      unfold checkQ at h ⊢
      cases hd : depthQ q with
      | error n =>
        rcases depthQ_err q n hd with rfl | rfl
        · exact .inr ⟨trivial, .inl rfl⟩
        · exact .inl rfl
      | ok d =>
        rw [hd] at h
        simp only at h ⊢
        split
        · exact .inr ⟨trivial, .inr rfl⟩
        · rename_i h64; rw [if_neg h64] at h; exact absurd rfl h
set_option maxRecDepth 100000 in
set_option maxHeartbeats 1000000 in
theorem AskMay_any (s : List UInt8) (w : World) (hlen : s.length < 9223372036854775808) (hT : LibT w) :
    Calls Tryd.prog 7 #[S s] w fun e w' => e = .returned (.bool true) ∧ Fr w w' := by
  have HL := hid hlen
  clear hlen
  go_enter Tryd.func7, Tryd.ntmps7
  go_wp2_with fail
  refine (alive_any _ hT).mono ?_
  rintro e w1 ⟨rfl, hf1⟩
  by_cases hl : 1000 < s.length
  · have hl' : (1000 : Int) < s.length := by omega
    go_wp2_with fail
    go_ret
    exact ⟨rfl, hf1⟩
  · have hl' : ¬ (1000 : Int) < s.length := by omega
    have hm := parse_may s (by omega)
    have HP := hid (Parse_any s w1 (by omega) (hT.fr hf1))
    unfold ParsePost at HP
    have HT1 := hid (hT.fr hf1)
    clear hT
    cases hq : parseQ s with
    | error x =>
      rw [hq] at hm HP
      obtain ⟨xa, c⟩ := x
      simp only at hm HP
      clear hq
      go_wp2_with fail
      refine HP.out.mono ?_
      rintro e w2 ⟨k, hk, hk0, rfl, hf2⟩
      have hk1 : ¬ ((s.length : Int) < k) := by omega
      have hk2 : (0 : Int) ≤ k := by omega
      have hk3 : (k : Int) ≤ s.length := by omega
      have hcs : c = 10 ∨ k = 0 ∧ (c = 6 ∨ c = 11) := by
        rcases hm with h | ⟨_, h⟩
        · exact .inl h
        · rcases hk0 with h0 | h0
          · exact .inl h0
          · exact .inr ⟨h0, h⟩
      clear hm hk0 HP HL
      rcases hcs with rfl | ⟨rfl, rfl | rfl⟩
      all_goals go_wp2_with fail
      all_goals go_ret
      all_goals exact ⟨rfl, hf1.trans hf2⟩
    | ok q =>
      rw [hq] at hm HP
      simp only at hm HP
      obtain ⟨p1, p2, p3⟩ := parse_text q hm
      have HP2 : Hid (∀ W, LibT W → Calls Tryd.prog 20 #[S (textQ q)] W fun e w' => ∃ v, e = .returned (.tuple #[v, .int .i64 0, .int .i64 0]) ∧ Own w' W.heap.size eT v q ∧ Fr W w') := by
        intro W hW
        have := Parse_any (textQ q) W (by omega) hW
        unfold ParsePost at this
        rw [p1] at this
        exact this
      have HS : Hid (∀ W v, See W eT v q → LibT W → Calls Tryd.prog 18 #[v] W fun e w' => e = .returned (.tuple #[S (textQ q), .int .i64 0]) ∧ Fr W w') := by
        intro W v h1 h2
        have := Show_any v q W h1 h2
        rw [hm, p2] at this
        exact this
      have HC : Hid (∀ W v, See W eT v q → Calls Tryd.prog 12 #[v] W fun e w' => e = .returned (.int .i64 0) ∧ Fr W w') := by
        intro W v h1
        have := Check_any v q W h1
        rw [hm] at this
        exact this
      clear p1 p2 p3 hm hq
      generalize textQ q = t at *
      go_wp2_with fail
      refine HP.out.mono ?_
      rintro e w2 ⟨v2, rfl, hown2, hf2⟩
      obtain ⟨a2, c2, hv2⟩ := hown2.shape'
      subst hv2
      have hs2 := hown2.see
      have HT2 := hid (HT1.out.fr hf2)
      clear hown2
      go_wp2_with fail
      refine (HS.out _ _ hs2 HT2.out).mono ?_
      rintro e w3 ⟨rfl, hf3⟩
      have HT3 := hid (HT2.out.fr hf3)
      go_wp2_with fail
      refine (HP2.out _ HT3.out).mono ?_
      rintro e w4 ⟨v4, rfl, hown4, hf4⟩
      obtain ⟨a4, c4, hv4⟩ := hown4.shape'
      subst hv4
      have hs4 := hown4.see
      clear hown4
      have hs24 := hs2.fr (hf3.trans hf4)
      go_wp2_with fail
      refine (HC.out _ _ hs24).mono ?_
      rintro e w5 ⟨rfl, hf5⟩
      go_wp2_with fail
      refine (SameQ_any _ _ _ _ _ (hs4.fr hf5) (hs24.fr hf5)).mono ?_
      rintro e w6 ⟨rfl, hf6⟩
      rw [decide_eq_true (rfl : q = q)]
      go_wp2_with fail
      go_ret
      exact ⟨rfl, ((((hf1.trans hf2).trans hf3).trans hf4).trans hf5).trans hf6⟩
end Go.Proofs.YtjepodlalcnecaaDoor
