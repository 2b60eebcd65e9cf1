/- Walks of ask: the reference's steps. -/
import Derived.Test.YtjepodlalcnecaaDoorW28b
set_option linter.unusedVariables false
namespace Go.Proofs.YtjepodlalcnecaaDoor
open Go.RowKit Go.Fk
set_option maxRecDepth 100000 in
set_option maxHeartbeats 2000000 in
theorem RTakes_any (s : Stp) (w : World) :
    Calls Tryd.prog 29 #[stpV s] w fun e w' => e = .returned (.int .i64 (takesR s)) ∧ Fr w w' := by
  obtain ⟨op, n, word, fa, fb⟩ := s
  by_cases h5 : op = 5
  · subst h5
    go_enter Tryd.func29, Tryd.ntmps29
    go_wp2_with fail
    go_ret
    exact ⟨by simp [takesR], (Fr.refl w).alloc _⟩
  · have HT : Hid (takesR ⟨op, n, word, fa, fb⟩ = n) := by show _ = _; unfold takesR; rw [if_neg h5]
    have b5 : (op == 5) = false := by simp [h5]
    clear h5
    go_enter Tryd.func29, Tryd.ntmps29
    go_wp2_with fail
    go_ret
    exact ⟨by rw [HT.out]; rfl, (Fr.refl w).alloc _⟩
set_option maxRecDepth 100000 in
set_option maxHeartbeats 2000000 in
theorem Rright_any (s : Stp) (w : World) :
    Calls Tryd.prog 28 #[stpV s] w fun e w' => e = .returned (.bool (rightB s)) ∧ Fr w w' := by
  obtain ⟨op, n, word, fa, fb⟩ := s
  by_cases h1 : op = 1
  · subst h1
    go_enter Tryd.func28, Tryd.ntmps28
    go_wp2_with (go_at_call 39; refine (RTerm_any _ _).mono ?_; rintro e w' ⟨rfl, hf⟩)
    all_goals go_ret
    all_goals first
      | exact ⟨by simp [rightB, *], (Fr.refl w).alloc _⟩
      | exact ⟨by simp [rightB, *], ((Fr.refl w).alloc _).trans hf⟩
  by_cases h2 : op = 2
  · subst h2
    go_enter Tryd.func28, Tryd.ntmps28
    go_wp2_with (go_at_call 39; refine (RTerm_any _ _).mono ?_; rintro e w' ⟨rfl, hf⟩)
    all_goals go_ret
    all_goals first
      | exact ⟨by simp [rightB, *], (Fr.refl w).alloc _⟩
      | exact ⟨by simp [rightB, *], ((Fr.refl w).alloc _).trans hf⟩
  by_cases h3 : op = 3
  · subst h3
    clear h1 h2
    go_enter Tryd.func28, Tryd.ntmps28
    go_wp2_with fail
    all_goals go_ret
    all_goals refine ⟨congrArg (fun b => Ending.returned (.bool b)) ?_, (Fr.refl w).alloc _⟩
    all_goals simp_all [rightB]
    all_goals first | done | omega | (rw [Bool.eq_iff_iff]; simp)
  by_cases h4 : op = 4
  · subst h4
    clear h1 h2
    go_enter Tryd.func28, Tryd.ntmps28
    go_wp2_with fail
    all_goals go_ret
    all_goals refine ⟨congrArg (fun b => Ending.returned (.bool b)) ?_, (Fr.refl w).alloc _⟩
    all_goals simp_all [rightB]
    all_goals first | done | omega | (rw [Bool.eq_iff_iff]; simp)
  by_cases h5 : op = 5
  · subst h5
    clear h1 h2 h3 h4
    go_enter Tryd.func28, Tryd.ntmps28
    go_wp2_with fail
    all_goals go_ret
    all_goals refine ⟨congrArg (fun b => Ending.returned (.bool b)) ?_, (Fr.refl w).alloc _⟩
    all_goals simp_all [rightB]
    all_goals first | done | omega | (rw [Bool.eq_iff_iff]; simp)
  by_cases h6 : op = 6
  · subst h6
    clear h1 h2 h3 h4
    go_enter Tryd.func28, Tryd.ntmps28
    go_wp2_with fail
    all_goals go_ret
    all_goals refine ⟨congrArg (fun b => Ending.returned (.bool b)) ?_, (Fr.refl w).alloc _⟩
    all_goals simp_all [rightB]
    all_goals first | done | omega | (rw [Bool.eq_iff_iff]; simp)
  by_cases h7 : op = 7
  · subst h7
    clear h1 h2 h3 h4
    go_enter Tryd.func28, Tryd.ntmps28
    go_wp2_with fail
    all_goals go_ret
    all_goals refine ⟨congrArg (fun b => Ending.returned (.bool b)) ?_, (Fr.refl w).alloc _⟩
    all_goals simp_all [rightB]
    all_goals first | done | omega | (rw [Bool.eq_iff_iff]; simp)
  have b1 : (op == 1) = false := by simp [h1]
  have b2 : (op == 2) = false := by simp [h2]
  have b3 : (op == 3) = false := by simp [h3]
  have b4 : (op == 4) = false := by simp [h4]
  have b5 : (op == 5) = false := by simp [h5]
  have b6 : (op == 6) = false := by simp [h6]
  have b7 : (op == 7) = false := by simp [h7]
  have HR : Hid (rightB ⟨op, n, word, fa, fb⟩ = false) := by show _ = _; simp [rightB, *]
  clear h1 h2 h3 h4 h5 h6 h7
  go_enter Tryd.func28, Tryd.ntmps28
  go_wp2_with fail
  all_goals go_ret
  all_goals exact ⟨by rw [HR.out]; rfl, (Fr.refl w).alloc _⟩
end Go.Proofs.YtjepodlalcnecaaDoor
