/- Walks of the query laws: the document's example. -/
import Derived.Test.YtjepodlalcnecaaDoorW28s
import Derived.Test.YtjepodlalcnecaaDoorW28x
set_option linter.unusedVariables false
namespace Go.Proofs.YtjepodlalcnecaaDoor
open Go.RowKit Go.Fk
def exS : List UInt8 := [68, 105, 115, 107, 32, 38, 32, 33, 40, 97, 32, 124, 32, 98, 42, 41]
abbrev exT : List UInt8 := [100, 105, 115, 107, 32, 38, 32, 33, 40, 97, 32, 124, 32, 98, 42, 41]
theorem ex_read : ∃ q, parseQ exS = .ok q ∧ checkQ q = 0 ∧ shownQ q = exT ∧ q.length = 6 := by
  have h : (match parseQ exS with
    | .ok q => decide (checkQ q = 0 ∧ shownQ q = exT ∧ q.length = 6)
    | .error _ => false) = true := by decide +kernel
  cases hp : parseQ exS with
  | error e => rw [hp] at h; cases h
  | ok q => rw [hp] at h; simp only [decide_eq_true_eq] at h; exact ⟨q, rfl, h⟩
set_option maxRecDepth 100000 in
set_option maxHeartbeats 1000000 in
theorem alive_any (w : World) (hT : LibT w) : Calls Tryd.prog 9 #[] w fun e w' => e = .returned (.bool true) ∧ Fr w w' := by
  obtain ⟨q, h1, h2, h3, h4⟩ := ex_read
  have C := Parse_any exS w (by decide) hT
  unfold ParsePost at C
  rw [h1] at C
  have HC := hid C
  clear C
  go_enter Tryd.func9, Tryd.ntmps9
  go_wp2_with fail
  refine HC.out.mono ?_
  rintro e w1 ⟨v, rfl, hown, hf⟩
  obtain ⟨va, vc, hv⟩ := hown.shape'
  subst hv
  have D := Show_any _ q w1 hown.see (hT.fr hf)
  rw [h2, h3] at D
  rw [h4] at D
  rw [h4] at hown
  have HD := hid D
  clear D
  rw [h4]
  clear h1 h2 h3 h4
  go_wp2_with fail
  refine HD.out.mono ?_
  rintro e w2 ⟨rfl, hf2⟩
  go_wp2_with fail
  go_ret
  exact ⟨rfl, hf.trans hf2⟩
end Go.Proofs.YtjepodlalcnecaaDoor
