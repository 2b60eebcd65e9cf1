/- Walks of the text laws: lines read. -/
import Derived.Test.YtgckkemmabaffaaDoorW33r
import Derived.Test.YtgckkemmabaffaaDoorW17b
import Derived.Test.YtgckkemmabaffaaDoorLawReads
set_option linter.unusedVariables false
namespace Go.Proofs.YtgckkemmabaffaaDoor
open Go.RowKit Go.Fk
set_option maxRecDepth 100000 in
set_option maxHeartbeats 1000000 in
theorem TextParses_any (s : List UInt8) (w : World) (ht : Tabs w) (he : Errs w) (hm : MaxL w) :
    Calls Tryd.prog 7 #[S s] w fun e w' => e = .returned (.bool true) ∧ Fr w w' := by
  go_enter Tryd.func7, Tryd.ntmps7
  go_wp2_with fail
  refine (alive_any _ ht).mono ?_
  rintro e w1 ⟨rfl, hf1⟩
  by_cases h0 : 2000 < s.length
  · have h0' : (2000 : Int) < s.length := by omega
    go_wp2_with fail
    go_ret
    exact ⟨rfl, hf1⟩
  · have h0' : ¬ (2000 : Int) < s.length := by omega
    have C1 := Parse_any s
    have C2 := RParse_any s
    have hL : ∀ L, parses s 0 = .ok L → L.length ≤ 2000 := by
      intro L h
      have h1 := parses_lines _ s 0 L (Nat.le_refl _) h
      have h2 := (linesP_ge L).1
      rw [h1] at h2; omega
    generalize parses s 0 = x at *
    have D1 := hid C1
    have D2 := hid C2
    clear C1 C2
    go_wp2_with fail
    refine (D1.out _ (ht.fr hf1) (he.fr hf1) (hm.fr hf1) (by omega)).mono ?_
    intro e w2 h2
    cases x with
    | error y =>
      obtain ⟨n, b⟩ := y
      clear hL
      cases b
      all_goals
        obtain ⟨rfl, hf2⟩ := h2
        go_wp2_with fail
        refine (D2.out _ (by omega)).mono ?_
        intro e w3 h3
        obtain ⟨rfl, hf3⟩ := h3
        go_wp2_with fail
        refine (Same_any _ _ [] [] _ See.nil See.nil (by simp)).mono ?_
        rintro e w4 ⟨rfl, hf4⟩
        go_wp2_with fail
        go_ret
        exact ⟨by simp, ((hf1.trans hf2).trans hf3).trans hf4⟩
    | ok L =>
      have hl := hL L rfl
      obtain ⟨v, rfl, hown, hf2⟩ := h2
      clear hL
      go_wp2_with fail
      refine (D2.out _ (by omega)).mono ?_
      intro e w3 h3
      obtain ⟨v2, rfl, hown2, hf3⟩ := h3
      go_wp2_with fail
      refine (Same_any _ _ (L.map recP) (L.map recP) _ (hown.fr hf3).see hown2.see (by simp; omega)).mono ?_
      rintro e w4 ⟨rfl, hf4⟩
      go_wp2_with fail
      go_ret
      exact ⟨by simp, ((hf1.trans hf2).trans hf3).trans hf4⟩
end Go.Proofs.YtgckkemmabaffaaDoor
