/- Walks of ask: a step shown. -/
import Derived.Test.YtjepodlalcnecaaDoorW28v
import Derived.Test.YtjepodlalcnecaaDoorW28d
set_option linter.unusedVariables false
namespace Go.Proofs.YtjepodlalcnecaaDoor
open Go.RowKit Go.Fk
theorem takes_56 (s : Stp) (h : rightB s = true) : ∀ x : Int, s.op = x → x ≠ 1 → x ≠ 2 → x ≠ 3 → x ≠ 4 → x ≠ 5 → 2 ≤ takesZ s := by
  intro x e h1 h2 h3 h4 h5
  subst e
  unfold rightB at h
  unfold takesZ
  rw [if_neg h5]
  rw [if_neg (by simp [h1, h2]), if_neg (by simp [h3, h4])] at h
  split at h
  · rename_i h6; rw [if_pos h6]; simp at h; omega
  · simp at h; exact absurd h.1 h5
set_option maxRecDepth 100000 in
set_option maxHeartbeats 4000000 in
theorem show_any (s : Stp) (kids : List Sh) (v : Value) (w : World) (hs : See w eW v kids) (hT : LibT w) (hr : rightB s = true) (hk : (kids.length : Int) = takesZ s) (hp : pot kids ≤ 100000000) :
    Calls Tryd.prog 32 #[stpV s, v] w fun e w' => e = .returned (S (showT s kids)) ∧ Fr w w' := by
  obtain ⟨a, cap, hv, hc1, hc2, hn⟩ := hs.shape
  subst hv
  have HD := hid (digits_any s)
  have HT := hid hT
  have HR := hid hr
  have HK := hid hk
  have HP := hid hp
  have HS : Hid (∀ Y, Y = showT s kids ↔ Y = if s.op = 1 then s.word
  else if s.op = 2 then s.word ++ [42]
  else if s.op = 3 then 91 :: (Lib.decDigits s.fa.toNat ++ 46 :: 46 :: (Lib.decDigits s.fb.toNat ++ [93]))
  else if s.op = 4 then 60 :: (Lib.decDigits s.fa.toNat ++ 46 :: 46 :: (Lib.decDigits s.fb.toNat ++ [62]))
  else if s.op = 5 then 33 :: (kids.map (within s.op)).headD []
  else if s.op = 6 then sepL [32, 38, 32] (kids.map (within s.op))
  else sepL [32, 124, 32] (kids.map (within s.op))) := fun Y => Iff.rfl
  clear hT hr hk hp
  generalize showT s kids = Y at *
  obtain ⟨op, n, word, fa, fb⟩ := s
  have hlen : kids.length ≤ 100000000 := by
    have : kids.length ≤ pot kids := by
      unfold pot
      clear HS HP HK hs hc1 hn
      induction kids with
      | nil => simp
      | cons x r ih => simp; omega
    have := HP.out; omega
  go_enter Tryd.func32, Tryd.ntmps32
  go_wp2_with fail
  generalize hW : w.alloc (.cells #[.int .i64 op, .int .i64 n, S word, .int .u64 fa.toNat, .int .u64 fb.toNat] 34) = W
  have hf0 : Fr w W := by rw [← hW]; exact (Fr.refl w).alloc _
  have hcc := five_cells (w := w) (w3 := W) (a := .int .i64 op) (b := .int .i64 n) (c := S word) (d := .int .u64 fa.toNat) (e := .int .u64 fb.toNat) (T := 34) (by rw [hW]; exact Fr.refl _)
  obtain ⟨a0, a1, a2, a3, a4, asz⟩ := hcc
  clear hW
  go_loopw [5, 10] (fun sv iv wr => ∃ k : Nat, k ≤ kids.length ∧ iv = N k ∧ Own wr W.heap.size eS sv ((kids.take k).map (within op)) ∧ Fr W wr) (fun _ iv _ => kids.length - (intOf iv).toNat)
  case atStart => exact ⟨0, Nat.zero_le _, rfl, Own.nil, Fr.refl W⟩
  case round =>
    obtain ⟨k, hk, rfl, hown, hf⟩ := hrel
    obtain ⟨oa, oc, hov⟩ := hown.shape'
    rw [List.length_map, List.length_take, Nat.min_eq_left hk] at hov
    subst hov
    have b0 := hf.cell a0
    have b1 := hf.cell a1
    have b2 := hf.cell a2
    have b3 := hf.cell a3
    have b4 := hf.cell a4
    have hsz : w.heap.size < wr.heap.size := Nat.lt_of_lt_of_le asz hf.size
    have hz1 : ¬ w.heap.size = wr.heap.size := by omega
    have hz2 : ¬ wr.heap.size = w.heap.size := by omega
    by_cases hlt : k < kids.length
    · obtain ⟨b, off, cap', hv, c0, c1⟩ := shAt (hs.fr (hf0.trans hf)) k hlt
      cases hv
      have hm : pot kids ≤ 100000000 := HP.out
      have hxl : (kids[k]).1.length ≤ 1000000000 := by
        have := pot_mem kids kids[k] (List.getElem_mem hlt); omega
      obtain ⟨x, hx⟩ : ∃ x, kids[k] = x := ⟨_, rfl⟩
      rw [hx] at c0 c1 hxl
      have HX := hid hx
      have HXL := hid hxl
      have i1 : (0 : Int) ≤ k := by omega
      have i2 : (k : Int) < kids.length := by omega
      clear hx hxl hm
      have HE : Hid ((kids.take k).map (within op) ++ [within op x] = (kids.take (k + 1)).map (within op)) := by
        show _ = _
        rw [List.take_succ_eq_append_getElem hlt, HX.out, List.map_append]; rfl
      go_wp2_with fail
      refine (within_any x op _ HXL.out).mono ?_
      rintro e w2 ⟨rfl, hf2⟩
      have hf12 : Fr wr w2 := ((Fr.refl wr).alloc _).trans hf2
      have hown2 := hown.fr hf12
      have hfW2 := hf.trans hf12
      clear c0 c1 b0 b1 b2 b3 b4
      go_wp2_with (at_builtin; refine wpList_app1 eS rfl (.tmp 14) (.tmp 19) 63 rfl Tryd.underlying63 W.heap.size rfl hown2 [within op x] _ _ _ rfl rfl rfl ?c1 ?c2 ?_)
      case c1 => rw [List.length_map, List.length_take]; simp; omega
      case c2 => exact hfW2.size
      intro v' w6 hap
      have hown6 := hap.own
      rw [← List.map_take, HE.out] at hown6
      have hf6 := hap.below hown2 hfW2 (Nat.le_refl _) hfW2.size
      go_wp2_with fail
      go_roundw
      case rel => exact ⟨k + 1, by omega, by go_num, hown6, hf6⟩
      case measure => simp [intOf]; omega
    · obtain rfl : k = kids.length := by omega
      rw [List.take_length] at hown
      have hfw := hf0.trans hf
      have hT' := HT.out.fr hfw
      have HO := hid hown
      have hsee := hown.see
      have hkl := kids_len op
      have hp := HP.out
      have HJ1 : Hid (∀ w', Fr wr w' → Calls Tryd.prog 43 #[.slice oa kids.length oc, S [32, 38, 32]] w' fun e w'' => e = .returned (S (sepL [32, 38, 32] (kids.map (within op)))) ∧ Fr w' w'') := fun w' hf' => JoinS_any _ _ _ _ (hsee.fr hf') (by have := hkl [32, 38, 32] (by simp) kids; omega) (by rw [List.length_map]; omega)
      have HJ2 : Hid (∀ w', Fr wr w' → Calls Tryd.prog 43 #[.slice oa kids.length oc, S [32, 124, 32]] w' fun e w'' => e = .returned (S (sepL [32, 124, 32] (kids.map (within op)))) ∧ Fr w' w'') := fun w' hf' => JoinS_any _ _ _ _ (hsee.fr hf') (by have := hkl [32, 124, 32] (by simp) kids; omega) (by rw [List.length_map]; omega)
      clear hkl hp hown hT'
      have hnl : ¬ ((kids.length : Int) < kids.length) := by omega
      by_cases h1 : op = 1
      · subst h1
        have HY : Hid (Y = word) := (HS.out Y).1 rfl
        clear HS
        go_wp2_with fail
        go_ret
        exact ⟨by rw [HY.out]; rfl, hfw⟩
      by_cases h2 : op = 2
      · subst h2
        have HY : Hid (Y = word ++ [42]) := (HS.out Y).1 rfl
        have hw := term_len word (by have := HR.out; unfold rightB at this; simp at this; exact this.2)
        have g1 : ¬ 9223372036854775807 < word.length + 1 := by omega
        have g2 : word.length + 1 ≤ 9223372036854775807 := by omega
        clear HS hw
        go_wp2_with fail
        go_ret
        refine ⟨congrArg Ending.returned ?_, hfw⟩
        rw [HY.out]
        show Value.string ((⟨word.toArray⟩ : ByteArray) ++ ⟨[42].toArray⟩) = _
        rw [b_add]
      by_cases h3 : op = 3
      · subst h3
        have HY : Hid (Y = 91 :: (Lib.decDigits fa.toNat ++ 46 :: 46 :: (Lib.decDigits fb.toNat ++ [93]))) := (HS.out Y).1 rfl
        clear HS h1 h2
        go_wp2_with fail
        refine (HD.out 91 93 _ (HT.out.fr hfw)).mono ?_
        rintro e w2 ⟨rfl, hf2⟩
        go_wp2_with fail
        go_ret
        exact ⟨by rw [HY.out]; rfl, hfw.trans hf2⟩
      by_cases h4 : op = 4
      · subst h4
        have HY : Hid (Y = 60 :: (Lib.decDigits fa.toNat ++ 46 :: 46 :: (Lib.decDigits fb.toNat ++ [62]))) := (HS.out Y).1 rfl
        clear HS h1 h2 h3
        go_wp2_with fail
        refine (HD.out 60 62 _ (HT.out.fr hfw)).mono ?_
        rintro e w2 ⟨rfl, hf2⟩
        go_wp2_with fail
        go_ret
        exact ⟨by rw [HY.out]; rfl, hfw.trans hf2⟩
      by_cases h5 : op = 5
      · subst h5
        have HY : Hid (Y = 33 :: (kids.map (within 5)).headD []) := (HS.out Y).1 rfl
        have hkn : kids.length = 1 := by have := HK.out; simp [takesZ] at this; omega
        have hpo := HP.out
        obtain ⟨x, rfl⟩ : ∃ x, kids = [x] := by match kids, hkn with | [x], _ => exact ⟨x, rfl⟩
        have hx := within_len 5 x
        have hx2 : pot [x] = x.1.length + 5 := pot_one x
        obtain ⟨b2, off2, cap2, hv2, e0⟩ := hsee.cell1 (fun n => S n) rfl 0 (by simp)
        simp only [List.map_cons, List.map_nil, List.getElem_cons_zero, Nat.add_zero] at e0
        cases hv2
        have g1 : ¬ 9223372036854775807 < 1 + (within 5 x).length := by omega
        have g2 : 1 + (within 5 x).length ≤ 9223372036854775807 := by omega
        have HY2 : Hid (Y = 33 :: within 5 x) := HY.out
        generalize within 5 x = t at *
        clear HS h1 h2 h3 h4 hx hx2 hpo HY hkn
        go_wp2_with fail
        go_ret
        refine ⟨congrArg Ending.returned ?_, hfw⟩
        rw [HY2.out]
        show Value.string ((⟨[33].toArray⟩ : ByteArray) ++ ⟨t.toArray⟩) = _
        rw [b_add]; rfl
      have q1 : (op == 1) = false := by simp [h1]
      have q2 : (op == 2) = false := by simp [h2]
      have q3 : (op == 3) = false := by simp [h3]
      have q4 : (op == 4) = false := by simp [h4]
      have q5 : (op == 5) = false := by simp [h5]
      by_cases h6 : op = 6
      · subst h6
        have HY : Hid (Y = sepL [32, 38, 32] (kids.map (within 6))) := (HS.out Y).1 rfl
        clear HS h1 h2 h3 h4 h5
        go_wp2_with fail
        refine (HJ1.out _ (Fr.refl _)).mono ?_
        rintro e w2 ⟨rfl, hf2⟩
        go_wp2_with fail
        go_ret
        exact ⟨by rw [HY.out]; rfl, hfw.trans hf2⟩
      · have HY : Hid (Y = sepL [32, 124, 32] (kids.map (within op))) := by
          show _ = _
          have := (HS.out Y).1 rfl
          simp only [h1, h2, h3, h4, h5, h6, if_false] at this
          exact this
        have q6 : (op == 6) = false := by simp [h6]
        clear HS h1 h2 h3 h4 h5 h6
        go_wp2_with fail
        refine (HJ2.out _ (Fr.refl _)).mono ?_
        rintro e w2 ⟨rfl, hf2⟩
        go_wp2_with fail
        go_ret
        exact ⟨by rw [HY.out]; rfl, hfw.trans hf2⟩
end Go.Proofs.YtjepodlalcnecaaDoor
