/- Walks of text: the reference's value of a digit. -/
import Derived.Test.YtgckkemmabaffaaDoorW33g
import Derived.Test.YtgckkemmabaffaaDoorSpec33c
set_option linter.unusedVariables false
namespace Go.Proofs.YtgckkemmabaffaaDoor
open Go.RowKit Go.Fk
theorem value_any (c : UInt8) (w : World) :
    Calls Tryd.prog 36 #[u8 c] w fun e w' => e = .returned (.int .u8 (hexV c : Nat)) ∧ w = w' := by
  have hb := c_bound c
  obtain ⟨hb1, hb0⟩ := hb
  go_enter Tryd.func36, Tryd.ntmps36
  by_cases h1 : 48 ≤ c.toNat ∧ c.toNat ≤ 57
  · obtain ⟨h1, h2⟩ := h1
    have e : ((hexV c : Nat) : Int) = (c.toNat : Int) - 48 := by unfold hexV; rw [if_pos ⟨h1, h2⟩]; omega
    have HE := hid e
    clear e
    have hw : IntKind.u8.wrap ((c.toNat : Int) - 48) = (c.toNat : Int) - 48 := IntWalk.u8_in _ (by omega)
    go_wp2_with fail
    go_ret
    exact ⟨by rw [HE.out]; rfl, rfl⟩
  · by_cases h3 : 97 ≤ c.toNat ∧ c.toNat ≤ 102
    · obtain ⟨h3, h4⟩ := h3
      have e : ((hexV c : Nat) : Int) = (c.toNat : Int) - 97 + 10 := by unfold hexV; rw [if_neg h1, if_pos ⟨h3, h4⟩]; omega
      have HE := hid e
      clear e h1
      have hw : IntKind.u8.wrap ((c.toNat : Int) - 97) = (c.toNat : Int) - 97 := IntWalk.u8_in _ (by omega)
      have hw2 : IntKind.u8.wrap ((c.toNat : Int) - 97 + 10) = (c.toNat : Int) - 97 + 10 := IntWalk.u8_in _ (by omega)
      have g1 : ¬ (c.toNat : Int) ≤ 57 := by omega
      go_wp2_with fail
      go_ret
      exact ⟨by rw [HE.out]; rfl, rfl⟩
    · have e : hexV c = 16 := by unfold hexV; rw [if_neg h1, if_neg h3]
      have HE := hid e
      clear e
      have n1 : ¬ (48 ≤ (c.toNat : Int) ∧ (c.toNat : Int) ≤ 57) := by omega
      have n3 : ¬ (97 ≤ (c.toNat : Int) ∧ (c.toNat : Int) ≤ 102) := by omega
      clear h1 h3
      go_wp2_with fail
      all_goals first | omega | skip
      all_goals go_ret
      all_goals exact ⟨by rw [HE.out]; rfl, rfl⟩
end Go.Proofs.YtgckkemmabaffaaDoor
