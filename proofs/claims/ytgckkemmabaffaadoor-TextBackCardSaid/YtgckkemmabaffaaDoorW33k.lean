/- Walks of text: the reference's Unquote. -/
import Derived.Test.YtgckkemmabaffaaDoorW33i
import Derived.Test.YtgckkemmabaffaaDoorW33j
import Derived.Test.YtgckkemmabaffaaDoorW33c
set_option linter.unusedVariables false
namespace Go.Proofs.YtgckkemmabaffaaDoor
open Go.RowKit Go.Fk
set_option maxRecDepth 100000 in
set_option maxHeartbeats 1600000 in
theorem RUnquote_any (s : List UInt8) (w : World) (hlen : s.length ≤ 100000000) :
    Calls Tryd.prog 19 #[S s] w fun e w' => e = .returned (.tuple #[S (unqT s), .bool (unq s).isSome]) ∧ Fr w w' := by
  have hur := unq_ref s
  go_enter Tryd.func19, Tryd.ntmps19
  by_cases h2 : s.length < 2
  · have h2' : (s.length : Int) < 2 := by omega
    have hE : Hid (unq s = none) := by show _ = _; rw [hur, if_neg (by omega)]
    clear hur
    go_wp2_with fail
    go_ret2
    refine ⟨?_, Fr.refl w⟩
    unfold unqT; rw [hE.out]; rfl
  · have h2' : ¬ (s.length : Int) < 2 := by omega
    have HU := hid hur
    clear hur
    have hwl : IntKind.i64.wrap ((s.length : Int) - 1) = (s.length : Int) - 1 := IntWalk.i64_in _ (by omega)
    go_wp2_with fail
    go_loopw [4, 5] (fun ov iv wr => ∃ (i : Nat) (o : List UInt8), 1 ≤ i ∧ i ≤ s.length - 1 ∧ iv = N i ∧ o.length ≤ i ∧ rawFrom s 1 = o ++ rawFrom s i ∧ Own wr w.heap.size eB ov o ∧ Fr w wr) (fun _ iv _ => s.length - (intOf iv).toNat)
    case atStart => exact ⟨1, [], by omega, by omega, rfl, by simp, rfl, Own.nil, Fr.refl w⟩
    case round =>
      obtain ⟨i, o, hi1, hi2, rfl, ho, hsc, hown, hf⟩ := hrel
      have HSC := hid hsc
      clear hsc
      by_cases hlt : i < s.length - 1
      · have hlt' : (i : Int) < (s.length : Int) - 1 := by omega
        obtain ⟨c, hc⟩ : ∃ c, s[i] = c := ⟨_, rfl⟩
        have hcb1 : (⟨s.toArray⟩ : ByteArray)[i]'(by simp [ByteArray.size]; omega) = c := hc
        have HC := hid hc
        clear hc
        have hcbd := c_bound c
        have hw1 : IntKind.i64.wrap ((i : Int) + 1) = (i : Int) + 1 := IntWalk.i64_in _ (by omega)
        have hw2 : IntKind.i64.wrap ((i : Int) + 2) = (i : Int) + 2 := IntWalk.i64_in _ (by omega)
        have hw3 : IntKind.i64.wrap ((i : Int) + 2 + 1) = (i : Int) + 2 + 1 := IntWalk.i64_in _ (by omega)
        by_cases k1 : c = 92
        · have hb1 : ((c.toNat : Int) == 92) = true := by rw [k1]; rfl
          by_cases k2 : i + 2 < s.length - 1
          · have k2' : (i : Int) + 2 < (s.length : Int) - 1 := by omega
            obtain ⟨a, ha⟩ : ∃ c, s[i + 1] = c := ⟨_, rfl⟩
            obtain ⟨b, hb⟩ : ∃ c, s[i + 2] = c := ⟨_, rfl⟩
            have hca : (⟨s.toArray⟩ : ByteArray)[i + 1]'(by simp [ByteArray.size]; omega) = a := ha
            have hcb : (⟨s.toArray⟩ : ByteArray)[i + 2]'(by simp [ByteArray.size]; omega) = b := hb
            have HA := hid ha
            have HB := hid hb
            clear ha hb
            go_wp2_with fail
            refine (value_any a _).mono ?_
            rintro e w' ⟨rfl, rfl⟩
            by_cases ka : hexV a < 16
            · have ka' : ((hexV a : Nat) : Int) < 16 := by omega
              go_wp2_with fail
              refine (value_any b _).mono ?_
              rintro e w' ⟨rfl, rfl⟩
              by_cases kb : hexV b < 16
              · have kb' : ((hexV b : Nat) : Int) < 16 := by omega
                have hm1 : IntKind.u8.wrap (16 * ((hexV a : Nat) : Int)) = 16 * ((hexV a : Nat) : Int) := IntWalk.u8_in _ (by omega)
                have hm2 : IntKind.u8.wrap (16 * ((hexV a : Nat) : Int) + ((hexV b : Nat) : Int)) = ((byte2 a b).toNat : Int) := by
                  rw [IntWalk.u8_in _ (by omega), byte2_toNat a b ka kb]; omega
                have hst : Hid (rawFrom s 1 = (o ++ [byte2 a b]) ++ rawFrom s (i + 3)) := by
                  show _ = _
                  rw [HSC.out, rawFrom_esc s i k2 (HC.out.trans k1) (by rw [HA.out]; exact ka) (by rw [HB.out]; exact kb), HA.out, HB.out]; simp
                have hc1 : Hid (o.length + ([byte2 a b] : List UInt8).length ≤ 2147483648) := by show _ ≤ _; simp; omega
                have g1 : ((i : Int) + 1).toNat = i + 1 := by omega
                have g2 : ((i : Int) + 2).toNat = i + 2 := by omega
                have d1 : 0 ≤ (i : Int) + 1 ∧ (i : Int) + 1 < s.length := by omega
                have d2 : 0 ≤ (i : Int) + 2 ∧ (i : Int) + 2 < s.length := by omega
                go_upto_region 8 with fail
                go_region_law (first
                  | (refine step_app1d eB rfl (.tmp 44) (.tmp 57) 52 rfl Tryd.underlying52 w.heap.size rfl hown [byte2 a b] _ _ _ rfl rfl rfl hc1.out hf.size ?_; intro v' w1 hap)
                  | (go_simp; go_at_call_of 36 (Value.int IntKind.u8 (a.toNat : Int)); refine (value_any a _).mono ?_; rintro e w' ⟨rfl, rfl⟩)
                  | (go_simp; go_at_call_of 36 (Value.int IntKind.u8 (b.toNat : Int)); refine (value_any b _).mono ?_; rintro e w' ⟨rfl, rfl⟩))
                all_goals go_wp2_with fail
                all_goals exact ⟨⟨i + 3, o ++ [byte2 a b], by omega, by omega, by go_num, by simp; omega, hst.out, hap.own, hap.below hown hf (Nat.le_refl _) hf.size⟩, by simp [intOf]; omega⟩
              · have kb' : ¬ ((hexV b : Nat) : Int) < 16 := by omega
                have hst : Hid (rawFrom s 1 = (o ++ [92]) ++ rawFrom s (i + 1)) := by
                  show _ = _
                  rw [HSC.out, rawFrom_plain s i hlt (fun h => kb (by have := h.2.2.2; rw [HB.out] at this; exact this)), HC.out, k1]; simp
                go_wp2_with (at_builtin; refine wpList_app1 eB rfl (.tmp 61) (.tmp 65) 52 rfl Tryd.underlying52 w.heap.size rfl hown [92] _ _ _ rfl rfl rfl ?c1 ?c2 ?_)
                case c1 => first | omega | (show o.length + 1 ≤ _; omega) | (simp; omega)
                case c2 => exact hf.size
                intro v' w1 hap
                go_wp2_with fail
                go_roundw
                case rel => exact ⟨i + 1, o ++ [92], by omega, by omega, by go_num, by simp; omega, hst.out, hap.own, hap.below hown hf (Nat.le_refl _) hf.size⟩
                case measure => simp [intOf]; omega
            · have ka' : ¬ ((hexV a : Nat) : Int) < 16 := by omega
              have hst : Hid (rawFrom s 1 = (o ++ [92]) ++ rawFrom s (i + 1)) := by
                show _ = _
                rw [HSC.out, rawFrom_plain s i hlt (fun h => ka (by have := h.2.2.1; rw [HA.out] at this; exact this)), HC.out, k1]; simp
              go_wp2_with (at_builtin; refine wpList_app1 eB rfl (.tmp 61) (.tmp 65) 52 rfl Tryd.underlying52 w.heap.size rfl hown [92] _ _ _ rfl rfl rfl ?c1 ?c2 ?_)
              case c1 => first | omega | (show o.length + 1 ≤ _; omega) | (simp; omega)
              case c2 => exact hf.size
              intro v' w1 hap
              go_wp2_with fail
              go_roundw
              case rel => exact ⟨i + 1, o ++ [92], by omega, by omega, by go_num, by simp; omega, hst.out, hap.own, hap.below hown hf (Nat.le_refl _) hf.size⟩
              case measure => simp [intOf]; omega
          · have k2' : ¬ (i : Int) + 2 < (s.length : Int) - 1 := by omega
            have hst : Hid (rawFrom s 1 = (o ++ [92]) ++ rawFrom s (i + 1)) := by
              show _ = _
              rw [HSC.out, rawFrom_plain s i hlt (fun h => k2 h.2.1), HC.out, k1]; simp
            go_wp2_with (at_builtin; refine wpList_app1 eB rfl (.tmp 61) (.tmp 65) 52 rfl Tryd.underlying52 w.heap.size rfl hown [92] _ _ _ rfl rfl rfl ?c1 ?c2 ?_)
            case c1 => first | omega | (show o.length + 1 ≤ _; omega) | (simp; omega)
            case c2 => exact hf.size
            intro v' w1 hap
            go_wp2_with fail
            go_roundw
            case rel => exact ⟨i + 1, o ++ [92], by omega, by omega, by go_num, by simp; omega, hst.out, hap.own, hap.below hown hf (Nat.le_refl _) hf.size⟩
            case measure => simp [intOf]; omega
        · have hb1 : ((c.toNat : Int) == 92) = false := by simp; exact fun h => k1 (UInt8.toNat_inj.1 (by show c.toNat = 92; omega))
          have hst : Hid (rawFrom s 1 = (o ++ [c]) ++ rawFrom s (i + 1)) := by
            show _ = _
            rw [HSC.out, rawFrom_plain s i hlt (fun h => k1 (HC.out ▸ h.1)), HC.out]; simp
          go_wp2_with (at_builtin; refine wpList_app1 eB rfl (.tmp 61) (.tmp 65) 52 rfl Tryd.underlying52 w.heap.size rfl hown [c] _ _ _ rfl rfl rfl ?c1 ?c2 ?_)
          case c1 => first | omega | (show o.length + 1 ≤ _; omega) | (simp; omega)
          case c2 => exact hf.size
          intro v' w1 hap
          go_wp2_with fail
          go_roundw
          case rel => exact ⟨i + 1, o ++ [c], by omega, by omega, by go_num, by simp; omega, hst.out, hap.own, hap.below hown hf (Nat.le_refl _) hf.size⟩
          case measure => simp [intOf]; omega
      · have hR : Hid (raw (inner s) = o) := by show _ = _; rw [← rawFrom_one, HSC.out, rawFrom_end s i (by omega), List.append_nil]
        have hcv := run_conv_see eB wr 52 9 Tryd.underlying52 Tryd.underlying5 Tryd.underlying9 rfl rfl hown.see
        have hlt' : ¬ (i : Int) < (s.length : Int) - 1 := by omega
        go_wp2_with fail
        refine (RQuote_any o _ (by omega)).mono ?_
        rintro e w1 ⟨he, hf1⟩
        have hcv1 := run_conv_see eB w1 52 9 Tryd.underlying52 Tryd.underlying5 Tryd.underlying9 rfl rfl (hown.fr hf1).see
        by_cases hq : quote o = s
        · have hE : Hid (unq s = some o) := by show _ = _; rw [HU.out, hR.out, if_pos ⟨by omega, hq⟩]
          rw [hq] at he
          subst he
          clear hq
          go_wp2_with fail
          go_ret2
          refine ⟨?_, hf.trans hf1⟩
          unfold unqT; rw [hE.out]; rfl
        · have hE : Hid (unq s = none) := by show _ = _; rw [HU.out, hR.out, if_neg (fun h => hq h.2)]
          subst he
          have hq' : (quote o == s) = false := by rw [beq_eq_false_iff_ne]; exact hq
          go_wp2_with fail
          go_ret2
          refine ⟨?_, hf.trans hf1⟩
          unfold unqT; rw [hE.out]; rfl
end Go.Proofs.YtgckkemmabaffaaDoor
