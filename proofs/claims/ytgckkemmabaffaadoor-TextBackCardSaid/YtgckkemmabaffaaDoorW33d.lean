/- Walks of text: the reference's digits. -/
import Derived.Test.YtgckkemmabaffaaDoorW33b
set_option linter.unusedVariables false
namespace Go.Proofs.YtgckkemmabaffaaDoor
open Go.RowKit Go.Fk Go.Sort

/-- a decimal digit -/
def dg (d : Nat) : UInt8 := UInt8.ofNat (48 + d)
theorem decDigits_more (v : Nat) (h : ¬ v < 10) : Lib.decDigits v = Lib.decDigits (v / 10) ++ [dg (v % 10)] := by
  rw [Lib.decDigits, dif_neg h]; rfl
theorem digit_cell (d : Nat) (h : d < 10) : (#[Value.int .u8 (48 + (d : Int))] : Array Value).toList = eB.cells [dg d] := by
  have e : 48 + (d : Int) = ((dg d).toNat : Int) := by
    unfold dg; rw [UInt8.toNat_ofNat']; omega
  rw [e]; rfl
set_option maxRecDepth 100000 in
theorem Digits_any (u : Nat) (hu : u < 18446744073709551616) (w : World) :
    Calls Tryd.prog 30 #[.int .u64 (u : Nat)] w fun e w' => e = .returned (S (Lib.decDigits u)) ∧ Fr w w' := by
  have hlen := decDigits_le u hu
  go_enter Tryd.func30, Tryd.ntmps30
  go_wp2_with fail
  go_loopw [0, 3] (fun vv ov wr => ∃ (v : Nat) (o : List UInt8), v ≤ u ∧ vv = .int .u64 (v : Nat) ∧ Lib.decDigits u = Lib.decDigits v ++ o ∧ Own wr w.heap.size eB ov o ∧ Fr w wr) (fun vv _ _ => (intOf vv).toNat)
  case atStart => exact ⟨u, [], Nat.le_refl _, rfl, by simp, Own.nil, Fr.refl w⟩
  case round =>
    obtain ⟨v, o, hv, rfl, heq, hown, hf⟩ := hrel
    have hol : o.length ≤ 20 := by rw [heq, List.length_append] at hlen; omega
    have HE := hid heq
    clear heq
    by_cases hge : v < 10
    · have HD : Hid (Lib.decDigits v ++ o = dg v :: o) := by show _ = _; rw [Lib.decDigits_one hge]; rfl
      have HB := hid (digit_cell v hge)
      go_wp2_with (at_builtin; refine wpList_app eB rfl (.tmp 18) (.tmp 19) 52 rfl Tryd.underlying52 wr.heap.size rfl (own_lit eB wr _ [dg v] 1 rfl (by simp [maxLen]) (Nat.le_refl _) HB.out) _ o rfl (hown.see.fr ((Fr.refl wr).alloc _)) (by simp only [List.length_cons, List.length_nil]; omega) (by simp) ?_)
      intro v' w1 ha
      have hcv := run_conv_see eB w1 52 9 Tryd.underlying52 Tryd.underlying5 Tryd.underlying9 rfl rfl ha.own.see
      go_wp2_with fail
      go_ret
      exact ⟨congrArg (fun l => Ending.returned (S l)) (HE.out.trans HD.out).symm, (App.below ha (own_lit eB wr _ [dg v] 1 rfl (by simp [maxLen]) (Nat.le_refl _) HB.out) (hf.alloc _) hf.size (by simp; have := hf.size; omega))⟩
    · have HD : Hid (Lib.decDigits u = Lib.decDigits (v / 10) ++ (dg (v % 10) :: o)) := by show _ = _; rw [HE.out, decDigits_more v hge, List.append_assoc]; rfl
      have HB := hid (digit_cell (v % 10) (by omega))
      have hm1 : (v : Int) % 10 < 10 := by omega
      have hm0 : 0 ≤ (v : Int) % 10 := by omega
      have hm : Hid (((v % 10 : Nat) : Int) = (v : Int) % 10) := by show _ = _; omega
      go_wp2_with (at_builtin; refine wpList_app eB rfl (.tmp 10) (.tmp 11) 52 rfl Tryd.underlying52 wr.heap.size rfl (own_lit eB wr _ [dg (v % 10)] 1 rfl (by simp [maxLen]) (Nat.le_refl _) (by rw [← HB.out, hm.out])) _ o rfl (hown.see.fr ((Fr.refl wr).alloc _)) (by simp only [List.length_cons, List.length_nil]; omega) (by simp) ?_)
      intro v' w1 ha
      go_wp2_with fail
      go_roundw
      case rel => exact ⟨v / 10, dg (v % 10) :: o, by omega, by go_num, HD.out, ha.own.rebase hf.size, (App.below ha (own_lit eB wr _ [dg (v % 10)] 1 rfl (by simp [maxLen]) (Nat.le_refl _) (by rw [← HB.out, hm.out])) (hf.alloc _) hf.size (by simp; have := hf.size; omega))⟩
      case measure => simp [intOf]; omega
end Go.Proofs.YtgckkemmabaffaaDoor
