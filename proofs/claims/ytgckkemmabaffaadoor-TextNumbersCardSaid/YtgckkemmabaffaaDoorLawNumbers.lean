/- Walks of the text laws: numbers. -/
import Derived.Test.YtgckkemmabaffaaDoorW33m
import Derived.Test.YtgckkemmabaffaaDoorW33k
import Derived.Test.YtgckkemmabaffaaDoorLaw33
set_option linter.unusedVariables false
namespace Go.Proofs.YtgckkemmabaffaaDoor
open Go.RowKit Go.Fk
set_option maxRecDepth 100000 in
theorem TextNumbers_any (s : List UInt8) (w : World) (ht : Tabs w) (he : Errs w) :
    Calls Tryd.prog 5 #[S s] w fun e w' => e = .returned (.bool true) ∧ Fr w w' := by
  have hz := ht.2.2
  go_enter Tryd.func5, Tryd.ntmps5
  go_wp2_with fail
  refine (alive_any _ ht).mono ?_
  rintro e w1 ⟨rfl, hf1⟩
  by_cases h0 : 2000 < s.length
  · have h0' : (2000 : Int) < s.length := by omega
    go_wp2_with fail
    go_ret
    exact ⟨rfl, hf1⟩
  · have h0' : ¬ (2000 : Int) < s.length := by omega
    have ht1 := ht.fr hf1
    have he1 := he.fr hf1
    go_wp2_with fail
    refine (Number_any s _ ht1.2.1 ht1.2.2 he1 (by omega)).mono ?_
    rintro e w2 ⟨rfl, hf2⟩
    go_wp2_with fail
    refine (RNumber_any s _ (by omega)).mono ?_
    rintro e w' ⟨rfl, rfl⟩
    go_wp2_with fail
    refine (Unquote_any s _ (ht1.fr hf2).1 (by omega)).mono ?_
    rintro e w3 ⟨rfl, hf3⟩
    go_wp2_with fail
    refine (RUnquote_any s _ (by omega)).mono ?_
    rintro e w4 ⟨rfl, hf4⟩
    have hf14 := ((hf1.trans hf2).trans hf3).trans hf4
    generalize numT s = n1
    generalize (numL s).isSome = n2
    generalize unqT s = n3
    generalize (unq s).isSome = n4
    go_wp2_with fail
    refine (Quote_any s _ (ht.fr hf14).1 (by omega)).mono ?_
    rintro e w5 ⟨rfl, hf5⟩
    go_wp2_with fail
    refine (RQuote_any s _ (by omega)).mono ?_
    rintro e w6 ⟨rfl, hf6⟩
    go_wp2_with fail
    go_ret
    exact ⟨by simp, (hf14.trans hf5).trans hf6⟩
end Go.Proofs.YtgckkemmabaffaaDoor
