/- Walks of text: the reference's quote and digits. -/
import Derived.Test.YtgckkemmabaffaaDoorW33b
set_option linter.unusedVariables false
namespace Go.Proofs.YtgckkemmabaffaaDoor
open Go.RowKit Go.Fk Go.Sort

theorem hexd_toNat (n : Nat) (h : n < 16) : (hexd n).toNat = if n < 10 then 48 + n else 87 + n := by
  have h1 : ∀ n : Fin 16, (hexd n).toNat = if (n : Nat) < 10 then 48 + (n : Nat) else 87 + (n : Nat) := by decide +kernel
  exact h1 ⟨n, h⟩
theorem hex_any (n : Nat) (hn : n < 16) (w : World) :
    Calls Tryd.prog 37 #[.int .u8 (n : Nat)] w fun e w' => e = .returned (u8 (hexd n)) ∧ w = w' := by
  have hh := hexd_toNat n hn
  go_enter Tryd.func37, Tryd.ntmps37
  by_cases h : n < 10
  · have e1 : IntKind.u8.wrap (48 + (n : Int)) = ((hexd n).toNat : Int) := by
      rw [hh, if_pos h, IntWalk.u8_in _ (by omega)]; omega
    go_wp2_with fail
    go_ret
    exact ⟨congrArg (fun x => Ending.returned (.int .u8 x)) (by rw [hh, if_pos h]; omega), rfl⟩
  · have e0 : IntKind.u8.wrap (97 + (n : Int)) = 97 + (n : Int) := IntWalk.u8_in _ (by omega)
    have e1 : IntKind.u8.wrap (97 + (n : Int) - 10) = ((hexd n).toNat : Int) := by
      rw [hh, if_neg h, IntWalk.u8_in _ (by omega)]; omega
    go_wp2_with fail
    go_ret
    exact ⟨congrArg (fun x => Ending.returned (.int .u8 x)) (by rw [hh, if_neg h]; omega), rfl⟩
set_option maxRecDepth 100000 in
set_option maxHeartbeats 1600000 in
theorem RQuote_any (s : List UInt8) (w : World) (hlen : s.length ≤ 500000000) :
    Calls Tryd.prog 20 #[S s] w fun e w' => e = .returned (S (quote s)) ∧ Fr w w' := by
  go_enter Tryd.func20, Tryd.ntmps20
  go_wp2_with fail
  go_loopw [3, 4, 5] (fun ov iv _ wr => ∃ k : Nat, k ≤ s.length ∧ iv = N k ∧ Own wr w.heap.size eB ov (34 :: quoteL (s.take k)) ∧ Fr w wr) (fun _ iv _ _ => s.length - (intOf iv).toNat)
  case atStart => exact ⟨0, Nat.zero_le _, rfl, own_lit eB w _ [34] _ rfl (by decide) (Nat.le_refl _), (Fr.refl w).alloc _⟩
  case round =>
    obtain ⟨k, hk, rfl, hown, hf⟩ := hrel
    by_cases hlt : k < s.length
    · obtain ⟨c, hc⟩ : ∃ c, s[k] = c := ⟨_, rfl⟩
      have hcb : (⟨s.toArray⟩ : ByteArray)[k]'(by simpa [ByteArray.size] using hlt) = c := hc
      have HS : Hid (34 :: quoteL (s.take (k + 1)) = 34 :: quoteL (s.take k) ++ quoteC c) := by show _ = _; rw [quoteL_snoc s k hlt, hc]; rfl
      have hql := quoteL_le (s.take k)
      rw [List.length_take] at hql
      clear hc
      have hb := c_bound c
      obtain ⟨hb1, hb0⟩ := hb
      have hpi := plainB_iff c
      by_cases hp : 32 ≤ c.toNat ∧ c.toNat ≤ 126 ∧ c.toNat ≠ 34 ∧ c.toNat ≠ 92
      · have HC : Hid (quoteC c = [c]) := by show _ = _; unfold quoteC; rw [if_pos (hpi.2 hp)]
        obtain ⟨q1, q2, q3, q4⟩ := hp
        have q3' : ((c.toNat : Int) == 34) = false := by simp; omega
        have q4' : ((c.toNat : Int) == 92) = false := by simp; omega
        have hT : ¬ ((((c.toNat : Int) < 32 ∨ 126 < (c.toNat : Int)) ∨ ((c.toNat : Int) == 34) = true) ∨ ((c.toNat : Int) == 92) = true) := by simp [q3', q4']; omega
        clear hpi
        go_wp2_with (at_builtin; refine wpList_app1 eB rfl (.tmp 39) (.tmp 41) 52 rfl Tryd.underlying52 w.heap.size rfl hown [c] _ _ _ rfl rfl rfl ?c1 ?c2 ?_)
        case c1 => simp; omega
        case c2 => exact hf.size
        intro v' w1 ha
        go_wp2_with fail
        go_roundw
        case rel => exact ⟨k + 1, by omega, by go_num, by rw [HS.out, HC.out]; exact ha.own, ha.below hown hf (Nat.le_refl _) hf.size⟩
        case measure => simp [intOf]; omega
      · have HC : Hid (quoteC c = [92, hexd (c.toNat / 16), hexd (c.toNat % 16)]) := by show _ = _; unfold quoteC; rw [if_neg (fun h => hp (hpi.1 h))]
        have g1 : Hid (((c.toNat : Int) / 16) = ((c.toNat / 16 : Nat) : Int)) := by show _ = _; omega
        have g2 : Hid (((c.toNat : Int) % 16) = ((c.toNat % 16 : Nat) : Int)) := by show _ = _; omega
        have hT : (c.toNat < 32 ∨ 126 < c.toNat) ∨ c.toNat = 34 ∨ c.toNat = 92 := by omega
        clear hpi hp
        have hT2 : ((c.toNat : Int) < 32) ∨ (126 < (c.toNat : Int)) ∨ (((c.toNat : Int) == 34) = true ∧ ¬ (c.toNat : Int) < 32 ∧ ¬ 126 < (c.toNat : Int)) ∨ (((c.toNat : Int) == 92) = true ∧ ((c.toNat : Int) == 34) = false ∧ ¬ (c.toNat : Int) < 32 ∧ ¬ 126 < (c.toNat : Int)) := by simp; omega
        clear hT
        rcases hT2 with h | h | ⟨h, h1, h2⟩ | ⟨h, h0, h1, h2⟩
        all_goals (
          go_wp2_with fail
          rw [g1.out]
          refine (hex_any _ (by omega) _).mono ?_
          rintro e w' ⟨rfl, rfl⟩
          go_wp2_with fail
          rw [g2.out]
          refine (hex_any _ (by omega) _).mono ?_
          rintro e w' ⟨rfl, rfl⟩
          go_wp2_with (at_builtin; refine wpList_app1 eB rfl (.tmp 30) (.tmp 37) 52 rfl Tryd.underlying52 w.heap.size rfl hown [92, hexd (c.toNat / 16), hexd (c.toNat % 16)] _ _ _ rfl rfl rfl ?c1 ?c2 ?_)
          case c1 => simp; omega
          case c2 => exact hf.size
          intro v' w1 ha
          go_wp2_with fail
          go_roundw
          case rel => exact ⟨k + 1, by omega, by go_num, by rw [HS.out, HC.out]; exact ha.own, ha.below hown hf (Nat.le_refl _) hf.size⟩
          case measure => simp [intOf]; omega)
    · rw [List.take_of_length_le (by omega)] at hown
      have hql := quoteL_le s
      go_wp2_with (at_builtin; refine wpList_app1 eB rfl (.tmp 43) (.tmp 44) 52 rfl Tryd.underlying52 w.heap.size rfl hown [34] _ _ _ rfl rfl rfl ?c1 ?c2 ?_)
      case c1 => simp; omega
      case c2 => exact hf.size
      intro v' w1 ha
      have hcv := run_conv_see eB w1 52 9 Tryd.underlying52 Tryd.underlying5 Tryd.underlying9 rfl rfl ha.own.see
      go_wp2_with fail
      go_ret
      exact ⟨rfl, ha.below hown hf (Nat.le_refl _) hf.size⟩
end Go.Proofs.YtgckkemmabaffaaDoor
