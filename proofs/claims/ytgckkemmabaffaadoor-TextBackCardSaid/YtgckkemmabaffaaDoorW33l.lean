/- Walks of text: Number. -/
import Derived.Test.YtgckkemmabaffaaDoorNum
import Derived.Test.YtgckkemmabaffaaDoorSpec33d
set_option linter.unusedVariables false
namespace Go.Proofs.YtgckkemmabaffaaDoor
open Go.RowKit Go.Fk
/-- the number that Number answers -/
def numT (s : List UInt8) : Nat := (numL s).getD 0
theorem c_bound2 (c : UInt8) : (c.toNat : Int) ≤ 255 ∧ (0 : Int) ≤ c.toNat := by have := c.toNat_lt; omega
set_option maxRecDepth 100000 in
set_option maxHeartbeats 800000 in
theorem RNumber_any (s : List UInt8) (w : World) (hlen : s.length ≤ 1000000000) :
    Calls Tryd.prog 18 #[S s] w fun e w' => e = .returned (.tuple #[.int .u64 (numT s : Nat), .bool (numL s).isSome]) ∧ w = w' := by
  have hnr := numL_ref s
  unfold numT
  go_enter Tryd.func18, Tryd.ntmps18
  by_cases h1 : s.length < 1
  · have h1' : (s.length : Int) < 1 := by omega
    have hE : Hid (numL s = none) := by show _ = _; rw [hnr, if_pos (.inl h1)]
    clear hnr
    go_wp2_with fail
    go_ret2
    exact ⟨by rw [hE.out]; rfl, rfl⟩
  · have h1' : ¬ (s.length : Int) < 1 := by omega
    by_cases h2 : 20 < s.length
    · have h2' : (20 : Int) < s.length := by omega
      have hE : Hid (numL s = none) := by show _ = _; rw [hnr, if_pos (.inr (.inl h2))]
      clear hnr
      go_wp2_with fail
      go_ret2
      exact ⟨by rw [hE.out]; rfl, rfl⟩
    · have h2' : ¬ (20 : Int) < s.length := by omega
      obtain ⟨c0, hc0⟩ : ∃ c, s[0] = c := ⟨_, rfl⟩
      have hcb0 : (⟨s.toArray⟩ : ByteArray)[0]'(by simp [ByteArray.size]; omega) = c0 := hc0
      have hbd0 := c_bound2 c0
      have hhd : s.head? = some c0 := by rw [← hc0]; cases s with | nil => simp at h1 | cons a l => rfl
      by_cases h3 : 1 < s.length ∧ c0 = 48
      · obtain ⟨h3, h4⟩ := h3
        have h3' : (1 : Int) < s.length := by omega
        have hE : Hid (numL s = none) := by show _ = _; rw [hnr, if_pos (.inr (.inr ⟨h3, by rw [hhd, h4]⟩))]
        have hb4 : ((c0.toNat : Int) == 48) = true := by rw [h4]; rfl
        clear hnr hhd h4 hc0
        go_wp2_with fail
        go_ret2
        exact ⟨by rw [hE.out]; rfl, rfl⟩
      · have hE : Hid (numL s = okV 0 s) := by
          show _ = _; rw [hnr, if_neg]; rintro (h | h | ⟨h, h'⟩); exact h1 h; exact h2 h; exact h3 ⟨h, by rw [hhd] at h'; exact Option.some.inj h'⟩
        have h3' : ((1 < (s.length : Int)) ∧ ((c0.toNat : Int) == 48) = false) ∨ ¬ (1 < (s.length : Int)) := by
          by_cases h : 1 < s.length
          · left; refine ⟨by omega, ?_⟩; simp; intro e; exact h3 ⟨h, UInt8.toNat_inj.1 (by show c0.toNat = 48; omega)⟩
          · right; omega
        clear hnr hhd h3 hc0
        rcases h3' with ⟨h3', h4'⟩ | h3'
        all_goals
          go_wp2_with fail
          go_loop [4, 5] (fun vv iv => ∃ i v : Nat, i ≤ s.length ∧ iv = N i ∧ vv = .int .u64 v ∧ v < 18446744073709551616 ∧ okV 0 (s.take i) = some v) (fun _ iv => s.length - (intOf iv).toNat)
          case atStart => exact ⟨0, 0, Nat.zero_le _, rfl, rfl, by omega, rfl⟩
          case round =>
            obtain ⟨i, v, hi, rfl, rfl, hv, hok⟩ := hrel
            have HK := hid hok
            clear hok
            have HV := hid hv
            have hv0 : (0 : Int) ≤ v := by omega
            by_cases hlt : i < s.length
            · obtain ⟨c, hc⟩ : ∃ c, s[i] = c := ⟨_, rfl⟩
              have hcb : (⟨s.toArray⟩ : ByteArray)[i]'(by simp [ByteArray.size]; omega) = c := hc
              have hbd := c_bound2 c
              have hst : okV 0 (s.take (i + 1)) = okV v [c] := by
                rw [List.take_succ_eq_append_getElem hlt, okV_append, HK.out, hc]; rfl
              rw [okV_one] at hst
              have hall : ∀ m, okV 0 (s.take (i + 1)) = none → okV 0 (s.take (i + 1) ++ m) = none := by
                intro m hn; rw [okV_append, hn]; rfl
              have hbad : okV 0 (s.take (i + 1)) = none → numL s = none := by
                intro hn; have := hall (s.drop (i + 1)) hn; rw [List.take_append_drop] at this; rw [hE.out, this]
              clear hall hc
              have HB := hid hbad
              have HS := hid hst
              clear hst hbad hv
              by_cases hd : isDg c
              · obtain ⟨d1, d2⟩ := hd
                by_cases hr : v * 10 + (c.toNat - 48) < 18446744073709551616
                · have HR := hid hr
                  have hO : Hid (okV 0 (s.take (i + 1)) = some (v * 10 + (c.toNat - 48))) := by show _ = _; rw [HS.out, if_pos ⟨⟨d1, d2⟩, hr⟩]
                  have hw : IntKind.u8.wrap ((c.toNat : Int) - 48) = (c.toNat : Int) - 48 := IntWalk.u8_in _ (by omega)
                  have hw3 : IntKind.u64.wrap (10 * (v : Int)) = 10 * (v : Int) := IntWalk.u64_in _ (by have := HV.out; omega)
                  have hw4 : IntKind.u64.wrap (10 * (v : Int) + ((c.toNat : Int) - 48)) = 10 * (v : Int) + ((c.toNat : Int) - 48) := IntWalk.u64_in _ (by omega)
                  by_cases hm : v = 1844674407370955161
                  · have t1 : ¬ (1844674407370955161 < (v : Int)) := by omega
                    have t2 : ((v : Int) == 1844674407370955161) = true := by simp; omega
                    have t3 : ¬ (5 < (c.toNat : Int) - 48) := by omega
                    clear hm hr
                    go_wp2_with fail
                    go_round
                    case rel => exact ⟨i + 1, v * 10 + (c.toNat - 48), by omega, by go_num, by congr 1; omega, HR.out, hO.out⟩
                    case measure => simp [intOf]; omega
                  · have t1 : ¬ (1844674407370955161 < (v : Int)) := by omega
                    have t2 : ((v : Int) == 1844674407370955161) = false := by simp; omega
                    clear hm hr
                    go_wp2_with fail
                    go_round
                    case rel => exact ⟨i + 1, v * 10 + (c.toNat - 48), by omega, by go_num, by congr 1; omega, HR.out, hO.out⟩
                    case measure => simp [intOf]; omega
                · have hO : Hid (numL s = none) := HB.out (by rw [HS.out, if_neg (fun h => hr h.2)])
                  have hw : IntKind.u8.wrap ((c.toNat : Int) - 48) = (c.toNat : Int) - 48 := IntWalk.u8_in _ (by omega)
                  by_cases hm : v = 1844674407370955161
                  · have t1 : ¬ (1844674407370955161 < (v : Int)) := by omega
                    have t2 : ((v : Int) == 1844674407370955161) = true := by simp; omega
                    have t3 : (5 < (c.toNat : Int) - 48) := by omega
                    clear hm hr
                    go_wp2_with fail
                    go_ret2
                    exact ⟨by rw [hO.out]; rfl, rfl⟩
                  · have t1 : (1844674407370955161 < (v : Int)) := by omega
                    clear hm hr
                    go_wp2_with fail
                    go_ret2
                    exact ⟨by rw [hO.out]; rfl, rfl⟩
              · have hO : Hid (numL s = none) := HB.out (by rw [HS.out, if_neg (fun h => hd h.1)])
                have hd' : c.toNat < 48 ∨ 57 < c.toNat := by unfold isDg at hd; omega
                rcases hd' with d1 | d1
                all_goals
                  clear hd
                  go_wp2_with fail
                  go_ret2
                  exact ⟨by rw [hO.out]; rfl, rfl⟩
            · have hO : Hid (numL s = some v) := by show _ = _; rw [hE.out, ← HK.out, List.take_of_length_le (by omega)]
              clear hv
              go_wp2_with fail
              go_ret2
              exact ⟨by rw [hO.out]; rfl, rfl⟩
end Go.Proofs.YtgckkemmabaffaaDoor
