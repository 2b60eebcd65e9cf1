/- Walks of text. -/
import Derived.Test.YtgckkemmabaffaaDoorElt
import Derived.Test.YtgckkemmabaffaaDoorSpec33
set_option linter.unusedVariables false
namespace Go.Proofs.YtgckkemmabaffaaDoor
open Go.RowKit Go.Fk

theorem c_bound (c : UInt8) : (c.toNat : Int) ≤ 255 ∧ (0 : Int) ≤ c.toNat := by have := c.toNat_lt; omega
/-- the table of digits -/
def Dig (w : World) : Prop := ∀ i (h : i < 16), w.cell? ⟨0, i, none⟩ = some (u8 (hexDigits[i]))
theorem Dig.fr {w w' : World} (h : Dig w) (hf : Fr w w') : Dig w' := fun i hi => hf.cell (h i hi)
theorem plain_any (c : UInt8) (w : World) :
    Calls Tryd.prog 33 #[u8 c] w fun e w' => e = .returned (.bool (plainB c)) ∧ w = w' := by
  have hb := c_bound c
  obtain ⟨hb1, hb0⟩ := hb
  go_enter Tryd.func33, Tryd.ntmps33
  go_wp2_with fail
  all_goals go_ret
  all_goals refine ⟨congrArg (fun b => Ending.returned (.bool b)) ?_, rfl⟩
  all_goals rw [Bool.eq_iff_iff, plainB_iff]
  all_goals simp
  all_goals omega
theorem and15 (c : UInt8) : bits BinOp.and IntKind.u8 (c.toNat : Int) 15 = ((c.toNat % 16 : Nat) : Int) := by
  have h : ∀ n : Fin 256, bits BinOp.and IntKind.u8 ((n : Nat) : Int) 15 = (((n : Nat) % 16 : Nat) : Int) := by decide +kernel
  exact h ⟨c.toNat, c.toNat_lt⟩
theorem Dig.at {w : World} (h : Dig w) (i : Nat) (hi : i < 16) : w.cell? ⟨0, i, none⟩ = some (u8 (hexd i)) := by
  rw [h i hi]; unfold hexd; rw [List.getD_eq_getElem?_getD, List.getElem?_eq_getElem (by simpa [hexDigits] using hi)]; rfl
theorem quoteL_snoc (s : List UInt8) (k : Nat) (h : k < s.length) : quoteL (s.take (k + 1)) = quoteL (s.take k) ++ quoteC s[k] := by
  unfold quoteL; rw [List.take_succ_eq_append_getElem h, List.map_append, List.flatten_append]; simp
theorem quoteC_le (c : UInt8) : (quoteC c).length ≤ 3 := by unfold quoteC; split <;> simp
theorem quoteL_le (s : List UInt8) : (quoteL s).length ≤ 3 * s.length := by
  induction s with
  | nil => simp [quoteL]
  | cons c s ih => have := quoteC_le c; simp [quoteL] at ih ⊢; omega
set_option maxRecDepth 100000 in
theorem Quote_any (s : List UInt8) (w : World) (hd : Dig w) (hlen : s.length ≤ 500000000) :
    Calls Tryd.prog 15 #[S s] w fun e w' => e = .returned (S (quote s)) ∧ Fr w w' := by
  go_enter Tryd.func15, Tryd.ntmps15
  go_wp2_with fail
  go_loopw [3, 9] (fun ov iv wr => ∃ k : Nat, k ≤ s.length ∧ iv = N k ∧ Own wr w.heap.size eB ov (34 :: quoteL (s.take k)) ∧ Fr w wr) (fun _ iv _ => s.length - (intOf iv).toNat)
  case atStart => exact ⟨0, Nat.zero_le _, rfl, own_lit eB w _ [34] _ rfl (by decide) (Nat.le_refl _), (Fr.refl w).alloc _⟩
  case round =>
    obtain ⟨k, hk, rfl, hown, hf⟩ := hrel
    by_cases hlt : k < s.length
    · obtain ⟨c, hc⟩ : ∃ c, s[k] = c := ⟨_, rfl⟩
      have hcb : (⟨s.toArray⟩ : ByteArray)[k]'(by simpa [ByteArray.size] using hlt) = c := hc
      have HS : Hid (34 :: quoteL (s.take (k + 1)) = 34 :: quoteL (s.take k) ++ quoteC c) := by show _ = _; rw [quoteL_snoc s k hlt, hc]; rfl
      have hql := quoteL_le (s.take k)
      rw [List.length_take] at hql
      clear hc
      cases hp : plainB c with
      | true =>
        have HP := hid hp
        have HC : Hid (quoteC c = [c]) := by show _ = _; unfold quoteC; rw [if_pos hp]
        clear hp
        go_wp2_with fail
        refine (plain_any c _).mono ?_
        rintro e w' ⟨he, rfl⟩
        rw [HP.out] at he
        subst he
        go_wp2_with (at_builtin; refine wpList_app1 eB rfl (.tmp 17) (.tmp 19) 52 rfl Tryd.underlying52 w.heap.size rfl hown [c] _ _ _ rfl rfl rfl ?c1 ?c2 ?_)
        case c1 => simp; omega
        case c2 => exact hf.size
        intro v' w1 ha
        go_wp2_with fail
        go_roundw
        case rel => exact ⟨k + 1, by omega, by go_num, by rw [HS.out, HC.out]; exact ha.own, ha.below hown hf (Nat.le_refl _) hf.size⟩
        case measure => simp [intOf]; omega
      | false =>
        have HP := hid hp
        have HC : Hid (quoteC c = [92, hexd (c.toNat / 16), hexd (c.toNat % 16)]) := by show _ = _; unfold quoteC; rw [if_neg (by rw [hp]; simp)]
        have hb := c_bound c
        obtain ⟨hb1, hb0⟩ := hb
        have hand := and15 c
        have g1 : (0 : Int) ≤ (c.toNat : Int) / 16 := by omega
        have g2 : (c.toNat : Int) / 16 < 16 := by omega
        have g3 : ((c.toNat : Int) / 16).toNat = c.toNat / 16 := by omega
        have g5 : (0 : Int) ≤ (c.toNat : Int) % 16 := by omega
        have g6 : (c.toNat : Int) % 16 < 16 := by omega
        have g7 : ((c.toNat : Int) % 16).toNat = c.toNat % 16 := by omega
        have t1 := (hd.fr hf).at (c.toNat / 16) (by omega)
        have t2 := (hd.fr hf).at (c.toNat % 16) (by omega)
        have hc1 : Hid ((34 :: quoteL (s.take k)).length + ([92, hexd (c.toNat / 16), hexd (c.toNat % 16)] : List UInt8).length ≤ 2147483648) := by show _ ≤ _; simp; omega
        clear hp
        go_wp2_with fail
        refine (plain_any c _).mono ?_
        rintro e w' ⟨he, rfl⟩
        rw [HP.out] at he
        subst he
        go_upto_region 8 with fail
        go_region_law (refine step_app1d eB rfl (.tmp 21) (.tmp 30) 52 rfl Tryd.underlying52 w.heap.size rfl hown [92, hexd (c.toNat / 16), hexd (c.toNat % 16)] _ _ _ rfl rfl rfl hc1.out hf.size ?_; intro v' w1 ha)
        all_goals go_wp2_with fail
        all_goals exact ⟨⟨k + 1, by omega, by go_num, by rw [HS.out, HC.out]; exact ha.own, ha.below hown hf (Nat.le_refl _) hf.size⟩, by simp [intOf]; omega⟩
    · rw [List.take_of_length_le (by omega)] at hown
      have hql := quoteL_le s
      go_wp2_with (at_builtin; refine wpList_app1 eB rfl (.tmp 33) (.tmp 34) 52 rfl Tryd.underlying52 w.heap.size rfl hown [34] _ _ _ rfl rfl rfl ?c1 ?c2 ?_)
      case c1 => simp; omega
      case c2 => exact hf.size
      intro v' w1 ha
      have hcv := run_conv_see eB w1 52 9 Tryd.underlying52 Tryd.underlying5 Tryd.underlying9 rfl rfl ha.own.see
      go_wp2_with fail
      go_ret
      exact ⟨rfl, ha.below hown hf (Nat.le_refl _) hf.size⟩
end Go.Proofs.YtgckkemmabaffaaDoor
