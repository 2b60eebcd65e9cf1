/- Walks of the query laws: what a query is. -/
import Derived.Test.YtjepodlalcnecaaDoorW28y
set_option linter.unusedVariables false
namespace Go.Proofs.YtjepodlalcnecaaDoor
open Go.RowKit Go.Fk
set_option maxRecDepth 100000 in
set_option maxHeartbeats 1000000 in
theorem AskChecks_any (v : Value) (q : List Stp) (w : World) (hs : See w eT v q) (hT : LibT w) :
    Calls Tryd.prog 3 #[v] w fun e w' => e = .returned (.bool true) ∧ Fr w w' := by
  go_enter Tryd.func3, Tryd.ntmps3
  go_wp2_with fail
  refine (alive_any _ hT).mono ?_
  rintro e w1 ⟨rfl, hf1⟩
  obtain ⟨x, y, hxy⟩ : ∃ x y : Int, depthV (depthQ q) = .tuple #[.int .i64 x, .int .i64 y] := by
    cases depthQ q with
    | ok d => exact ⟨_, _, rfl⟩
    | error n => exact ⟨_, _, rfl⟩
  have HX := hid hxy
  clear hxy
  go_wp2_with fail
  refine (Depth_any v q w1 (hs.fr hf1)).mono ?_
  rintro e w2 ⟨he, hf2⟩
  rw [HX.out] at he
  subst he
  have hf02 := hf1.trans hf2
  go_wp2_with fail
  refine (RDepth_any v q w2 (hs.fr hf02)).mono ?_
  rintro e w3 ⟨he, hf3⟩
  rw [HX.out] at he
  subst he
  have hf03 := hf02.trans hf3
  go_wp2_with fail
  refine (Check_any v q w3 (hs.fr hf03)).mono ?_
  rintro e w4 ⟨rfl, hf4⟩
  have hf04 := hf03.trans hf4
  have HR := hid (RCheck_any v q w4 (hs.fr hf04))
  generalize checkQ q = c at *
  go_wp2_with fail
  refine HR.out.mono ?_
  rintro e w5 ⟨rfl, hf5⟩
  go_wp2_with fail
  go_ret
  exact ⟨rfl, hf04.trans hf5⟩
end Go.Proofs.YtjepodlalcnecaaDoor
