/- Walks of mask's reference. -/
import Derived.Test.YtgckkemmabaffaaW37d
set_option linter.unusedVariables false
namespace Go.Proofs.Ytgckkemmabaffaa
open Go.RowKit Go.Fk

/-- letters from a place on -/
theorem run_end (r : List UInt8) : ∃ j, j ≤ r.length ∧ (r.take j).all isL = true ∧ ∀ h : j < r.length, isL r[j] = false := by
  induction r with
  | nil => exact ⟨0, Nat.le_refl _, rfl, fun h => by simp at h⟩
  | cons c r ih =>
    cases hc : isL c with
    | false => exact ⟨0, Nat.zero_le _, rfl, fun _ => by simpa using hc⟩
    | true =>
      obtain ⟨j, h1, h2, h3⟩ := ih
      exact ⟨j + 1, by simpa using h1, by simp [hc, h2], fun h => by simpa using h3 (by simpa using h)⟩
theorem sml_ne (c : UInt8) : (((sml c).toNat : Int) != 0) = isL c := by
  have := sml_eq_zero c
  cases h : isL c with
  | false => rw [this.2 h]; rfl
  | true =>
    rw [bne_iff_ne]; intro e
    have e2 : sml c = 0 := UInt8.toNat_inj.1 (by have z : (0 : UInt8).toNat = 0 := rfl; rw [z]; omega)
    rw [this.1 e2] at h; cases h
/-- the word of the first m letters from i on -/
def wd (s : List UInt8) (i m : Nat) : List UInt8 := (((s.drop i).take m).map sm).take 24
theorem wd_zero (s : List UInt8) (i : Nat) : wd s i 0 = [] := by simp [wd]
theorem wd_length (s : List UInt8) (i m : Nat) (h : i + m ≤ s.length) : (wd s i m).length = min 24 m := by simp [wd]; omega
theorem take_next (s : List UInt8) (i m : Nat) (h : i + m < s.length) : (s.drop i).take (m + 1) = (s.drop i).take m ++ [s[i + m]] := by
  rw [List.take_succ_eq_append_getElem (by simp; omega)]; simp
theorem wd_snoc (s : List UInt8) (i m : Nat) (h : i + m < s.length) (hm : m < 24) : wd s i (m + 1) = wd s i m ++ [sm s[i + m]] := by
  unfold wd
  have e1 : ∀ l : List UInt8, l.length ≤ 24 → l.take 24 = l := fun l h => List.take_of_length_le h
  rw [take_next s i m h, List.map_append, e1 _ (by simp; omega), e1 _ (by simp; omega)]
  rfl
theorem wd_full (s : List UInt8) (i m : Nat) (h : i + m < s.length) (hm : 24 ≤ m) : wd s i (m + 1) = wd s i m := by
  unfold wd
  rw [take_next s i m h, List.map_append, List.take_append_of_le_length (by simp; omega)]
/-- so many stars -/
def stars (m : Nat) : List UInt8 := List.replicate m 42
theorem stars_snoc (m : Nat) : stars (m + 1) = stars m ++ [42] := List.replicate_succ'
/-- m bytes from i on -/
def seg (s : List UInt8) (i m : Nat) : List UInt8 := (s.drop i).take m
theorem seg_snoc (s : List UInt8) (i m : Nat) (h : i + m < s.length) : seg s i (m + 1) = seg s i m ++ [s[i + m]] := take_next s i m h
theorem seg_zero (s : List UInt8) (i : Nat) : seg s i 0 = [] := by simp [seg]
theorem seg_length (s : List UInt8) (i m : Nat) (h : i + m ≤ s.length) : (seg s i m).length = m := by simp [seg]; omega
/-- a byte between -/
theorem mask_other (g : List UInt8 → Bool) (s : List UInt8) (i : Nat) (h : i < s.length) (hc : isL s[i] = false) :
    maskGo g [] (s.drop i) = s[i] :: maskGo g [] (s.drop (i + 1)) ∧ maskNum g [] (s.drop i) = maskNum g [] (s.drop (i + 1)) := by
  rw [List.drop_eq_getElem_cons h, maskGo, maskNum, hc, maskRow_nil]
  simp
/-- a row of letters -/
theorem mask_row (g : List UInt8 → Bool) (s : List UInt8) (i j : Nat) (h0 : 0 < j) (hj : i + j ≤ s.length) (h2 : ((s.drop i).take j).all isL = true) (h3 : ∀ h : j < (s.drop i).length, isL (s.drop i)[j] = false) :
    maskGo g [] (s.drop i) = (if g (wd s i j) = true then stars j else seg s i j) ++ maskGo g [] (s.drop (i + j)) ∧
    maskNum g [] (s.drop i) = (if g (wd s i j) = true then 1 else 0) + maskNum g [] (s.drop (i + j)) := by
  have e : s.drop i = (s.drop i).take j ++ s.drop (i + j) := by rw [← List.drop_drop]; exact (List.take_append_drop j _).symm
  have hne : (s.drop i).take j ≠ [] := by intro e; have := congrArg List.length e; simp at this; omega
  have hd : ∀ h : 0 < (s.drop (i + j)).length, isL (s.drop (i + j))[0] = false := by
    intro h; simp at h; have := h3 (by simp; omega); simpa using this
  have e1 := maskGo_letters g ((s.drop i).take j) (s.drop (i + j)) h2 hd
  have e2 := maskNum_letters g ((s.drop i).take j) (s.drop (i + j)) h2 hne hd
  rw [← e] at e1 e2
  refine ⟨?_, e2⟩
  rw [e1]
  unfold maskRow wd stars seg
  congr 1
  rw [show ((s.drop i).take j).length = j from by simp; omega]
set_option maxHeartbeats 2000000 in
theorem rText_any (v : Value) (ws : List (List UInt8)) (s : List UInt8) (w : World) (hs : See w eS v ws) (hn : s.length ≤ 1073741824) :
    Calls Try.prog 11 #[S s, v] w fun e w' => e = .returned (.tuple #[S (maskGo (gone ws) [] s), N (maskNum (gone ws) [] s)]) ∧ Fr w w' := by
  go_enter Try.func11, Try.ntmps11
  go_wp2_with fail
  go_loopw [6, 7, 8] (fun ov nv iv wr => ∃ (i n : Nat) (o : List UInt8), i ≤ s.length ∧ iv = N i ∧ nv = N n ∧ Own wr w.heap.size eB ov o ∧ Hid (maskGo (gone ws) [] s = o ++ maskGo (gone ws) [] (s.drop i)) ∧ Hid (maskNum (gone ws) [] s = n + maskNum (gone ws) [] (s.drop i)) ∧ o.length = i ∧ n ≤ i ∧ Fr w wr)
    (fun _ _ iv _ => s.length - (intOf iv).toNat)
  case atStart => exact ⟨0, 0, [], Nat.zero_le _, rfl, rfl, Own.nil, hid (by simp), hid (by simp), rfl, Nat.le_refl _, Fr.refl _⟩
  case round =>
    obtain ⟨i, n, o, hi, rfl, rfl, hown, ho, hm, hol, hni, hf⟩ := hrel
    have HOL := hid hol
    clear hol
    by_cases hlt : i < s.length
    · obtain ⟨j, hj1, hj2, hj3⟩ := run_end (s.drop i)
      have HJ2 := hid hj2
      have HJ3 := hid hj3
      clear hj2 hj3
      obtain ⟨wo, rfl⟩ : ∃ wo : World, wo = wr := ⟨_, rfl⟩
      go_upto_block 2 with fail
      go_cut [9, 10] (fun kv wv wc => kv = N (i + j) ∧ Own wc wo.heap.size eB wv (wd s i j) ∧ Fr wo wc)
      case first =>
        have hjl : i + j ≤ s.length := by simp at hj1; omega
        go_wp2_with fail
        go_loopw [9, 10] (fun kv wv wi => ∃ m : Nat, m ≤ j ∧ kv = N (i + m) ∧ Own wi wo.heap.size eB wv (wd s i m) ∧ Fr wo wi) (fun kv _ _ => s.length - (intOf kv).toNat)
        case atStart => exact ⟨0, Nat.zero_le _, rfl, by rw [wd_zero]; exact Own.nil, Fr.refl _⟩
        case round =>
          obtain ⟨m, hm1, rfl, hw, hfi⟩ := hrel
          have HW := hid hw
          by_cases hmj : m < j
          · have hL : isL s[i + m] = true := by
              have := HJ2.out
              rw [List.all_eq_true] at this
              exact this _ (by rw [List.mem_iff_getElem]; exact ⟨m, by simp; omega, by simp⟩)
            have hz : ((sml s[i + m]).toNat : Int) != 0 := by rw [sml_ne]; exact hL
            have HS : Hid (sml s[i + m] = sm s[i + m]) := by show _ = _; unfold sml; rw [if_pos hL]
            clear hL
            obtain ⟨a, cap, rfl⟩ := hw.shape'
            have HN := hid (wd_length s i m (by omega))
            clear hw
            by_cases h24 : m < 24
            · have hlen : (wd s i m).length < 24 := by rw [HN.out]; omega
              go_wp2_with fail
              refine (rsmall_any s[i + m] _).mono ?_
              rintro e w1 ⟨rfl, rfl⟩
              go_wp2_with fail
              refine (rsmall_any s[i + m] _).mono ?_
              rintro e w1 ⟨rfl, rfl⟩
              go_wp2_with (at_builtin; refine wpList_app1 eB rfl (.tmp 31) (.tmp 36) 46 rfl Try.underlying46 wo.heap.size rfl HW.out [sml s[i + m]] _ _ _ rfl rfl rfl ?c1 ?c2 ?_)
              case c1 => simp; omega
              case c2 => exact hfi.size
              intro v' w1 ha
              go_wp2_with fail
              go_roundw
              case rel => exact ⟨m + 1, by omega, by go_num, by rw [wd_snoc s i m (by omega) h24, ← HS.out]; exact ha.own, ha.below HW.out hfi (Nat.le_refl _) hfi.size⟩
              case measure => simp [intOf]; omega
            · have hlen : ¬ (wd s i m).length < 24 := by rw [HN.out]; omega
              go_wp2_with fail
              refine (rsmall_any s[i + m] _).mono ?_
              rintro e w1 ⟨rfl, rfl⟩
              go_wp2_with fail
              go_roundw
              case rel => exact ⟨m + 1, by omega, by go_num, by rw [wd_full s i m (by omega) (by omega)]; exact HW.out, hfi⟩
              case measure => simp [intOf]; omega
          · obtain rfl : m = j := by omega
            clear hw
            by_cases hin : i + m < s.length
            · have hz : (((sml s[i + m]).toNat : Int) != 0) = false := by
                rw [sml_ne]
                have := HJ3.out (by simp; omega)
                simpa using this
              go_wp2_with fail
              refine (rsmall_any s[i + m] _).mono ?_
              rintro e w1 ⟨rfl, rfl⟩
              go_wp2_with fail
              go_meet
              exact ⟨rfl, HW.out, hfi⟩
            · go_wp2_with fail
              go_meet
              exact ⟨rfl, HW.out, hfi⟩
      case rest =>
        obtain ⟨rfl, hw, hfc⟩ := hcut
        have hjl : i + j ≤ s.length := by simp at hj1; omega
        have hown1 := hown.fr hfc
        have hfw := hf.trans hfc
        by_cases hj0 : j = 0
        · subst hj0
          have HM := hid (mask_other (gone ws) s i hlt (by have := HJ3.out (by simp; omega); rw [List.getElem_drop] at this; simpa using this))
          clear hw
          go_wp2_with (at_builtin; refine wpList_app1 eB rfl (.tmp 43) (.tmp 47) 46 rfl Try.underlying46 w.heap.size rfl hown1 [s[i]] _ _ _ rfl rfl rfl ?c1 ?c2 ?_)
          case c1 => rw [HOL.out]; simp; omega
          case c2 => exact hfw.size
          intro v' w1 ha
          go_wp2_with fail
          go_roundw
          case rel => exact ⟨i + 1, n, _, by omega, by go_num, rfl, ha.own, hid (by rw [ho.out, HM.out.1]; simp), hid (by rw [hm.out, HM.out.2]), by simp [HOL.out], by omega, ha.below hown1 hfw (Nat.le_refl _) hfw.size⟩
          case measure => simp [intOf]; omega
        · have hne : (((i + j : Nat) : Int) == (i : Int)) = false := by rw [beq_eq_false_iff_ne]; omega
          have HM := hid (mask_row (gone ws) s i j (by omega) hjl HJ2.out HJ3.out)
          have hcv := run_conv_see eB wc 46 9 Try.underlying46 Try.underlying5 Try.underlying9 rfl rfl hw.see
          have hsee := hs.fr hfw
          cases hg : gone ws (wd s i j) with
          | true =>
            have HG : Hid (decide (wd s i j ∈ ws) = true) := hg
            have HG2 := hid hg
            clear hg
            go_wp2_with fail
            refine (rHas_any v ws (wd s i j) _ hsee).mono ?_
            rintro e w1 ⟨he, rfl⟩
            rw [HG.out] at he
            subst he
            go_wp2_with fail
            go_loopw [6, 8] (fun ov iv wi => ∃ m : Nat, m ≤ j ∧ iv = N (i + m) ∧ Own wi w.heap.size eB ov (o ++ stars m) ∧ Fr w wi) (fun _ iv _ => s.length - (intOf iv).toNat)
            case atStart => exact ⟨0, Nat.zero_le _, rfl, by simpa [stars] using hown1, hfw⟩
            case round =>
              obtain ⟨m, hm1, rfl, hoi, hfi⟩ := hrel
              by_cases hmj : m < j
              · go_wp2_with (at_builtin; refine wpList_app1 eB rfl (.tmp 62) (.tmp 63) 46 rfl Try.underlying46 w.heap.size rfl hoi [42] _ _ _ rfl rfl rfl ?c1 ?c2 ?_)
                case c1 => simp [HOL.out, stars]; omega
                case c2 => exact hfi.size
                intro v' w1 ha
                go_wp2_with fail
                go_roundw
                case rel => exact ⟨m + 1, by omega, by go_num, by rw [stars_snoc]; exact ha.own, ha.below hoi hfi (Nat.le_refl _) hfi.size⟩
                case measure => simp [intOf]; omega
              · obtain rfl : m = j := by omega
                go_wp2_with fail
                go_roundw
                case rel => exact ⟨i + m, n + 1, _, by omega, rfl, by go_num, hoi, hid (by rw [ho.out, HM.out.1, if_pos HG2.out]; simp), hid (by rw [hm.out, HM.out.2, if_pos HG2.out]; omega), by simp [HOL.out, stars], by omega, hfi⟩
                case measure => simp [intOf]; omega
          | false =>
            have HG : Hid (decide (wd s i j ∈ ws) = false) := hg
            have HG2 : Hid (¬ gone ws (wd s i j) = true) := by show ¬ _; rw [hg]; simp
            clear hg
            go_wp2_with fail
            refine (rHas_any v ws (wd s i j) _ hsee).mono ?_
            rintro e w1 ⟨he, rfl⟩
            rw [HG.out] at he
            subst he
            go_wp2_with fail
            go_loopw [6, 8] (fun ov iv wi => ∃ m : Nat, m ≤ j ∧ iv = N (i + m) ∧ Own wi w.heap.size eB ov (o ++ seg s i m) ∧ Fr w wi) (fun _ iv _ => s.length - (intOf iv).toNat)
            case atStart => exact ⟨0, Nat.zero_le _, rfl, by rw [seg_zero, List.append_nil]; exact hown1, hfw⟩
            case round =>
              obtain ⟨m, hm1, rfl, hoi, hfi⟩ := hrel
              by_cases hmj : m < j
              · go_wp2_with (at_builtin; refine wpList_app1 eB rfl (.tmp 65) (.tmp 69) 46 rfl Try.underlying46 w.heap.size rfl hoi [s[i + m]] _ _ _ rfl rfl rfl ?c1 ?c2 ?_)
                case c1 => rw [List.length_append, seg_length s i m (by omega), HOL.out]; simp; omega
                case c2 => exact hfi.size
                intro v' w1 ha
                go_wp2_with fail
                go_roundw
                case rel => exact ⟨m + 1, by omega, by go_num, by rw [seg_snoc s i m (by omega)]; exact ha.own, ha.below hoi hfi (Nat.le_refl _) hfi.size⟩
                case measure => simp [intOf]; omega
              · obtain rfl : m = j := by omega
                go_wp2_with fail
                go_roundw
                case rel => exact ⟨i + m, n, _, by omega, rfl, rfl, hoi, hid (by rw [ho.out, HM.out.1, if_neg HG2.out]; simp), hid (by rw [hm.out, HM.out.2, if_neg HG2.out]; omega), by rw [List.length_append, seg_length s i m (by omega), HOL.out], by omega, hfi⟩
                case measure => simp [intOf]; omega
    · obtain rfl : i = s.length := by omega
      have h1 := ho.out
      have h2 := hm.out
      rw [List.drop_length, maskGo_nil, List.append_nil] at h1
      rw [List.drop_length, maskNum_nil, Nat.add_zero] at h2
      have H1 := hid h1
      have H2 := hid h2
      clear h1 h2
      have hcv := run_conv_see eB wr 46 9 Try.underlying46 Try.underlying5 Try.underlying9 rfl rfl hown.see
      go_wp2_with fail
      go_ret2
      refine ⟨?_, hf⟩
      rw [H1.out, H2.out]
      rfl
end Go.Proofs.Ytgckkemmabaffaa
