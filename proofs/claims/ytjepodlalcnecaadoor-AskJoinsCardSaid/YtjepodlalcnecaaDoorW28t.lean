/- Walks of ask: Parse. -/
import Derived.Test.YtjepodlalcnecaaDoorW28s
import Derived.Test.YtjepodlalcnecaaDoorW28f
set_option linter.unusedVariables false
namespace Go.Proofs.YtjepodlalcnecaaDoor
open Go.RowKit Go.Fk
/-- what Parse leaves -/
def ParsePost (w : World) (s : List UInt8) (e : Ending) (w' : World) : Prop :=
  match parseQ s with
  | .ok q => ∃ v, e = .returned (.tuple #[v, .int .i64 0, .int .i64 0]) ∧ Own w' w.heap.size eT v q ∧ Fr w w'
  | .error x => ∃ k : Nat, k ≤ s.length ∧ (x.2 = 10 ∨ k = 0) ∧ e = .returned (.tuple #[.slice none 0 0, .int .i64 (k : Int), .int .i64 x.2]) ∧ Fr w w'
theorem lib_b {w : World} (h : LibT w) : LibB (w.heap.size + 3) := by
  obtain ⟨h1, h2, ⟨⟨t1, p1, h3⟩, t2, p2, h4⟩, m, h5⟩ := h
  have b3 := World.block_lt_of_cell? w _ h3
  have b4 := World.block_lt_of_cell? w _ h4
  have b5 := World.block_lt_of_cell? w _ h5
  simp only at b3 b4 b5
  exact ⟨by omega, by omega, by omega, by omega⟩
set_option maxRecDepth 100000 in
set_option maxHeartbeats 4000000 in
theorem Parse_any (s : List UInt8) (w : World) (hlen : s.length < 9223372036854775808) (hT : LibT w) :
    Calls Tryd.prog 20 #[S s] w (ParsePost w s) := by
  have HP : Hid (∀ e w', ParsePost w s e w' = match (if 100000 < s.length then .error (0, 6) else
      match readP s with
      | .error e => .error (s.length - e, 10)
      | .ok q => if checkQ q = 0 then .ok q else .error (0, checkQ q) : Except (Nat × Int) (List Stp)) with
      | .ok q => ∃ v, e = .returned (.tuple #[v, .int .i64 0, .int .i64 0]) ∧ Own w' w.heap.size eT v q ∧ Fr w w'
      | .error x => ∃ k : Nat, k ≤ s.length ∧ (x.2 = 10 ∨ k = 0) ∧ e = .returned (.tuple #[.slice none 0 0, .int .i64 (k : Int), .int .i64 x.2]) ∧ Fr w w') := by
    intro e w'; rfl
  have HL := hid hlen
  clear hlen
  generalize ParsePost w s = R at *
  by_cases hl : 100000 < s.length
  · have HP2 : Hid (∀ e w', R e w' = ∃ k : Nat, k ≤ s.length ∧ (6 = (10 : Int) ∨ k = 0) ∧ e = .returned (.tuple #[.slice none 0 0, .int .i64 (k : Int), .int .i64 6]) ∧ Fr w w') := by
      intro e w'; rw [HP.out, if_pos hl]
    clear HP
    go_enter Tryd.func20, Tryd.ntmps20
    go_wp2_with fail
    exact bodyPost_ret (v := .tuple #[.slice none 0 0, .int .i64 0, .int .i64 6]) (by simp [results, Tryd.results20, go_sem, *]) rfl (by rw [HP2.out]; exact ⟨0, by omega, .inr rfl, rfl, Fr.refl w⟩)
  · have HB := hid (read_any s w (by omega) hT (lib_b hT))
    have HP2 : Hid (∀ e w', R e w' = match (match readP s with
      | .error e => .error (s.length - e, 10)
      | .ok q => if checkQ q = 0 then .ok q else .error (0, checkQ q) : Except (Nat × Int) (List Stp)) with
      | .ok q => ∃ v, e = .returned (.tuple #[v, .int .i64 0, .int .i64 0]) ∧ Own w' w.heap.size eT v q ∧ Fr w w'
      | .error x => ∃ k : Nat, k ≤ s.length ∧ (x.2 = 10 ∨ k = 0) ∧ e = .returned (.tuple #[.slice none 0 0, .int .i64 (k : Int), .int .i64 x.2]) ∧ Fr w w') := by
      intro e w'; rw [HP.out]; simp only [hl, if_false]
    clear HP
    unfold ReadPost at HB
    go_enter Tryd.func20, Tryd.ntmps20
    go_wp2_with fail
    refine HB.out.mono ?_
    intro e w1 h1
    cases hq : readP s with
    | error m =>
      rw [hq] at h1
      obtain ⟨k, hk, rfl, hf⟩ := h1
      have HP3 : Hid (∀ e w', R e w' = ∃ k : Nat, k ≤ s.length ∧ (10 = (10 : Int) ∨ k = 0) ∧ e = .returned (.tuple #[.slice none 0 0, .int .i64 (k : Int), .int .i64 10]) ∧ Fr w w') := by
        intro e w'; rw [HP2.out, hq]
      clear HP2 hq
      go_wp2_with fail
      exact bodyPost_ret (v := .tuple #[.slice none 0 0, .int .i64 (k : Int), .int .i64 10]) (by simp [results, Tryd.results20, go_sem, *]) rfl (by rw [HP3.out]; exact ⟨k, hk, .inl trivial, rfl, hf⟩)
    | ok q =>
      rw [hq] at h1
      obtain ⟨v, rfl, hown, hf⟩ := h1
      have HP3 : Hid (∀ e w', R e w' = match (if checkQ q = 0 then .ok q else .error (0, checkQ q) : Except (Nat × Int) (List Stp)) with
        | .ok q => ∃ v, e = .returned (.tuple #[v, .int .i64 0, .int .i64 0]) ∧ Own w' w.heap.size eT v q ∧ Fr w w'
        | .error x => ∃ k : Nat, k ≤ s.length ∧ (x.2 = 10 ∨ k = 0) ∧ e = .returned (.tuple #[.slice none 0 0, .int .i64 (k : Int), .int .i64 x.2]) ∧ Fr w w') := by
        intro e w'; rw [HP2.out, hq]
      clear HP2 hq
      obtain ⟨va, vc, hv⟩ := hown.shape'
      subst hv
      go_wp2_with fail
      refine (Check_any _ q w1 hown.see).mono ?_
      rintro e w2 ⟨rfl, hf2⟩
      have hown2 := hown.fr hf2
      by_cases hc : checkQ q = 0
      · have HP4 : Hid (∀ e w', R e w' = ∃ v, e = .returned (.tuple #[v, .int .i64 0, .int .i64 0]) ∧ Own w' w.heap.size eT v q ∧ Fr w w') := by
          intro e w'; rw [HP3.out]; simp only [hc, if_true]
        clear HP3
        go_wp2_with fail
        exact bodyPost_ret (v := .tuple #[.slice va q.length vc, .int .i64 0, .int .i64 0]) (by simp [results, Tryd.results20, go_sem, *]) rfl (by rw [HP4.out]; exact ⟨_, rfl, hown2, hf.trans hf2⟩)
      · have HP4 : Hid (∀ e w', R e w' = ∃ k : Nat, k ≤ s.length ∧ ((checkQ q) = (10 : Int) ∨ k = 0) ∧ e = .returned (.tuple #[.slice none 0 0, .int .i64 (k : Int), .int .i64 (checkQ q)]) ∧ Fr w w') := by
          intro e w'; rw [HP3.out]; simp only [hc, if_false]
        clear HP3
        generalize checkQ q = c at *
        go_wp2_with fail
        exact bodyPost_ret (v := .tuple #[.slice none 0 0, .int .i64 0, .int .i64 c]) (by simp [results, Tryd.results20, go_sem, *]) rfl (by rw [HP4.out]; exact ⟨0, by omega, .inr rfl, rfl, hf.trans hf2⟩)
end Go.Proofs.YtjepodlalcnecaaDoor
