/- Walks of the query laws: what is put together of queries. -/
import Derived.Test.YtjepodlalcnecaaDoorW28y
import Derived.Test.YtjepodlalcnecaaDoorW28g
import Derived.Test.YtjepodlalcnecaaDoorLib4
import Derived.Test.YtjepodlalcnecaaDoorSpec28j
set_option linter.unusedVariables false
namespace Go.Proofs.YtjepodlalcnecaaDoor
open Go.RowKit Go.Fk
set_option maxRecDepth 100000 in
set_option maxHeartbeats 2000000 in
theorem AskJoins_any (v : Value) (hs : List Hd) (ls : List (List Stp)) (w : World) (hv : Sees2 w eH eT v hs ls) (hT : LibT w) :
    Calls Tryd.prog 4 #[v] w fun e w' => e = .returned (.bool true) ∧ Fr w w' := by
  obtain ⟨a, cap, hva, hc1, hc2, hnn⟩ := hv.1.shape
  unfold maxLen at hc2
  subst hva
  have HL := hid hv.2.1
  clear hnn
  go_enter Tryd.func4, Tryd.ntmps4
  go_wp2_with fail
  refine (alive_any _ hT).mono ?_
  rintro e w1 ⟨rfl, hf1⟩
  clear hT
  have hv1 := hv.fr hf1
  clear hv
  by_cases h20 : 20 < hs.length
  · have h20' : (20 : Int) < hs.length := by omega
    go_wp2_with fail
    go_ret
    exact ⟨rfl, hf1⟩
  have h20' : ¬ (20 : Int) < hs.length := by omega
  go_wp2_with fail
  go_loopw [3, 4, 5] (fun av rv iv wr => ∃ (k : Nat) (b : Bool), k ≤ hs.length ∧ iv = N k ∧ rv = .bool b ∧ Hid (b = true → 0 < ls.length ∧ ∀ q ∈ ls.take k, okD q) ∧ Hid ((ls.take k).flatten.length ≤ 40 * k) ∧ Own wr w1.heap.size eT av (ls.take k).flatten ∧ Fr w1 wr) (fun _ _ iv _ => hs.length - (intOf iv).toNat)
  case atStart =>
    refine ⟨0, _, Nat.zero_le _, rfl, rfl, ?_, by show _ ≤ _; simp, Own.nil, Fr.refl w1⟩
    intro h
    refine ⟨?_, by simp⟩
    have : (0 : Int) < hs.length := by simpa using h
    have := HL.out
    omega
  case round =>
    obtain ⟨k, b, hk, rfl, rfl, HB, HK, hown, hf⟩ := hrel
    by_cases hlt : k < hs.length
    · have hv2 := hv1.fr hf
      obtain ⟨bb, off, cap', hv3, e0⟩ := hv2.1.cell1 (fun (h : Hd) => h.v) rfl k hlt
      have hlt2 : k < ls.length := by have := HL.out; omega
      have hsee := hv2.2.2 k hlt hlt2
      have HF : Hid ((ls.take (k + 1)).flatten = (ls.take k).flatten ++ ls[k]) := flat_snoc ls k hlt2
      have HM : Hid (∀ q ∈ ls.take (k + 1), q ∈ ls.take k ∨ q = ls[k]) := by
        intro q hq
        rw [List.take_succ_eq_append_getElem hlt2] at hq
        rcases List.mem_append.1 hq with h | h
        · exact .inl h
        · exact .inr (by simpa using h)
      obtain ⟨a2, c2, hh, _⟩ := hsee.shape
      generalize hs[k] = h at *
      generalize hx : ls[k] = x at *
      obtain ⟨ha, hn2, hcc⟩ := h
      simp only [Hd.v, Value.slice.injEq] at hh
      obtain ⟨rfl, hnn, rfl⟩ := hh
      simp only [Hd.v] at e0 hsee
      cases hv3
      have i1 : (0 : Int) ≤ k := by omega
      have i2 : (k : Int) < hs.length := by omega
      have HN := hid hnn
      by_cases h40 : 40 < hn2
      · have h40' : (40 : Int) < hn2 := by omega
        clear hnn hx
        go_wp2_with fail
        go_ret
        exact ⟨rfl, hf1.trans hf⟩
      · have h40' : ¬ (40 : Int) < hn2 := by omega
        have HK2 : Hid ((ls.take (k + 1)).flatten.length ≤ 40 * (k + 1)) := by
          show _ ≤ _
          rw [HF.out, List.length_append]
          have := HK.out
          have := HN.out
          omega
        have HD : Hid (∀ W v, See W eT v x → Calls Tryd.prog 11 #[v] W fun e w' => e = .returned (depthV (depthQ x)) ∧ Fr W w') := fun W v h => RDepth_any v x W h
        clear hnn hx
        go_wp2_with fail
        refine (HD.out _ _ hsee).mono ?_
        rintro e w2 ⟨rfl, hf2⟩
        have hown2 := hown.fr hf2
        have hsee2 := hsee.fr hf2
        have e02 := hf2.cell e0
        have hf02 := hf.trans hf2
        have hln : (ls.take k).flatten.length + x.length ≤ 2147483648 := by
          have := HK.out; have := HN.out; omega
        have hfs := hf02.size
        cases hd : depthQ x with
        | ok d =>
          have HB2 : Hid (b = true → 0 < ls.length ∧ ∀ q ∈ ls.take (k + 1), okD q) := by
            intro hb
            obtain ⟨h1, h2⟩ := HB.out hb
            refine ⟨h1, fun q hq => ?_⟩
            rcases HM.out q hq with h | rfl
            · exact h2 q h
            · exact ⟨d, hd⟩
          rw [depthV_ok]
          clear hd
          cases b
          all_goals go_wp2_with (at_builtin; refine wpList_app eT rfl (.tmp 48) (.tmp 52) 22 rfl Tryd.underlying22 w1.heap.size rfl hown2 _ _ rfl hsee2 hln hfs ?_)
          all_goals intro v' w4 hap
          all_goals go_wp2_with fail
          all_goals go_roundw
          · exact ⟨k + 1, _, by omega, by go_num, rfl, (by intro h; first | exact HB2.out trivial | cases h), HK2, by rw [HF.out]; exact hap.own, hap.below hown2 hf02 (Nat.le_refl _) hfs⟩
          · simp [intOf]; omega
          · exact ⟨k + 1, _, by omega, by go_num, rfl, (by intro h; first | exact HB2.out trivial | cases h), HK2, by rw [HF.out]; exact hap.own, hap.below hown2 hf02 (Nat.le_refl _) hfs⟩
          · simp [intOf]; omega
        | error n =>
          have hn0 : (n == 0) = false := by rcases depthQ_err x n hd with rfl | rfl <;> rfl
          rw [depthV_err]
          clear hd
          cases b
          all_goals go_wp2_with (at_builtin; refine wpList_app eT rfl (.tmp 48) (.tmp 52) 22 rfl Tryd.underlying22 w1.heap.size rfl hown2 _ _ rfl hsee2 hln hfs ?_)
          all_goals intro v' w4 hap
          all_goals go_wp2_with fail
          all_goals go_roundw
          · exact ⟨k + 1, _, by omega, by go_num, rfl, (fun h => by cases h), HK2, by rw [HF.out]; exact hap.own, hap.below hown2 hf02 (Nat.le_refl _) hfs⟩
          · simp [intOf]; omega
          · exact ⟨k + 1, _, by omega, by go_num, rfl, (fun h => by cases h), HK2, by rw [HF.out]; exact hap.own, hap.below hown2 hf02 (Nat.le_refl _) hfs⟩
          · simp [intOf]; omega
    · obtain rfl : k = hs.length := by omega
      have HLs := HL.out
      rw [List.take_of_length_le (by omega)] at HB HK hown
      have hfl : ls.flatten.length ≤ 800 := by have := HK.out; omega
      have hnl : ¬ ((hs.length : Int) < hs.length) := by omega
      have HJ : ∀ op, Hid (joinL op ls = if 1 < hs.length then ls.flatten ++ [stepN op hs.length] else ls.flatten) := by
        intro op
        show _ = _
        unfold joinL
        rw [HLs]
        split
        · rfl
        · rw [List.append_nil]
      have HJ6 := HJ 6
      have HJ7 := HJ 7
      have hv2 := hv1.fr hf
      have HOK : Hid (b = true → okD (joinL 6 ls)) := by
        intro hb
        obtain ⟨h1, h2⟩ := HB.out hb
        refine join_ok 6 (.inl rfl) ls (by rintro rfl; simp at h1) ?_ h2
        rw [HJ6.out]
        split
        · rw [List.length_append]; show _ + 1 ≤ _; omega
        · omega
      have hal := own_lit eT wr #[] [] 0 rfl (by simp [maxLen]) (Nat.le_refl _)
      have hsl := hown.see.fr ((Fr.refl wr).alloc (.cells #[] 34))
      have HV : ∀ W, Fr wr W → Sees2 W eH eT (.slice a hs.length cap) hs ls := fun W h => hv2.fr h
      have HFL := hid hfl
      clear HJ HB HK hv2 hfl HLs
      generalize hfe : ls.flatten = all at *
      have ha0 : ([] : List Stp).length + all.length ≤ 2147483648 := by have := HFL.out; simp; omega
      go_wp2_with (at_builtin; refine wpList_app eT rfl (.tmp 54) (.tmp 55) 22 rfl Tryd.underlying22 wr.heap.size rfl hal _ _ rfl hsl ha0 (by simp) ?_)
      intro v1 w2 hap1
      have hf2 : Fr wr w2 := hap1.below hal ((Fr.refl wr).alloc _) (Nat.le_refl _) (by simp)
      have own1 : Own w2 wr.heap.size eT v1 all := hap1.own
      have hal2 := own_lit eT w2 #[] [] 0 rfl (by simp [maxLen]) (Nat.le_refl _)
      have hsl2 := (hown.see.fr hf2).fr ((Fr.refl w2).alloc (.cells #[] 34))
      clear hap1 hal hsl
      go_wp2_with (at_builtin; refine wpList_app eT rfl (.tmp 57) (.tmp 58) 22 rfl Tryd.underlying22 w2.heap.size rfl hal2 _ _ rfl hsl2 ha0 (by simp) ?_)
      intro v2 w3 hap2
      have hf3 : Fr w2 w3 := hap2.below hal2 ((Fr.refl w2).alloc _) (Nat.le_refl _) (by simp)
      have own2 : Own w3 w2.heap.size eT v2 all := hap2.own
      have own1' := own1.fr hf3
      have hne : v2.ownBlock = none ∨ v2.ownBlock ≠ v1.ownBlock := apart_of own1 own2 (Nat.le_refl _)
      clear hap2 hal2 hsl2
      have hfw3 := (hf2.trans hf3)
      have HR := hid (⟨hfe, HFL.out⟩ : ls.flatten = all ∧ all.length ≤ 800)
      clear hfe
      have hB6 : ∀ W v, Sees2 W eH eT v hs ls → Calls Tryd.prog 14 #[v] W fun e w' => ∃ x, e = .returned x ∧ Own w' W.heap.size eT x (joinL 6 ls) ∧ Fr W w' := fun W v h => Both_any v hs ls W h (by rw [HR.out.1]; have := HR.out.2; omega)
      have hB7 : ∀ W v, Sees2 W eH eT v hs ls → Calls Tryd.prog 15 #[v] W fun e w' => ∃ x, e = .returned x ∧ Own w' W.heap.size eT x (joinL 7 ls) ∧ Fr W w' := fun W v h => Any_any v hs ls W h (by rw [HR.out.1]; have := HR.out.2; omega)
      have hN : ∀ W v, See W eT v all → Calls Tryd.prog 16 #[v] W fun e w' => ∃ x, e = .returned x ∧ Own w' W.heap.size eT x (all ++ [stepN 5 0]) ∧ Fr W w' := fun W v h => Not_any v all W h (by have := HR.out.2; omega)
      generalize joinL 6 ls = j6 at *
      generalize joinL 7 ls = j7 at *
      have HB6 := hid hB6
      have HB7 := hid hB7
      have HNt := hid hN
      have HVv := hid HV
      clear hB6 hB7 hN HV
      by_cases h1 : 1 < hs.length
      · have h1' : (1 : Int) < hs.length := by omega
        rw [if_pos h1] at HJ6 HJ7
        clear h1
        go_wp2_with (at_builtin; refine wpList_app1 eT rfl (.tmp 63) (.tmp 67) 22 rfl Tryd.underlying22 wr.heap.size rfl own1' [stepN 6 hs.length] _ _ _ rfl rfl rfl ?c1 ?c2 ?_)
        case c1 => have := HFL.out; show _ + 1 ≤ _; omega
        case c2 => exact hfw3.size
        intro v3 w4 hap3
        have own2' := hap3.other own2 hne
        have hne2 := ne_flip (hap3.apart own2 hne)
        have hf4 : Fr wr w4 := hap3.below own1' hfw3 (Nat.le_refl _) hfw3.size
        have own3 := hap3.own
        have hw24 : w2.heap.size ≤ w4.heap.size := Nat.le_trans hf3.size hap3.size
        clear hap3 own1' own2 own1
        go_wp2_with (at_builtin; refine wpList_app1 eT rfl (.tmp 69) (.tmp 73) 22 rfl Tryd.underlying22 w2.heap.size rfl own2' [stepN 7 hs.length] _ _ _ rfl rfl rfl ?c1 ?c2 ?_)
        case c1 => have := HFL.out; show _ + 1 ≤ _; omega
        case c2 => exact hw24
        intro v4 w5 hap4
        have own3' := hap4.other own3 hne2
        have hf5 : Fr wr w5 := hap4.below own2' hf4 hf2.size hf4.size
        have s3 : See w5 eT v3 j6 := by rw [HJ6.out]; exact own3'.see
        have s4 : See w5 eT v4 j7 := by rw [HJ7.out]; exact hap4.own.see
        clear hap4 own3' own3 own2' hne2 hf4 hne hf2 hf3 hfw3 hw24 HJ6 HJ7
        have hown5 := hown.fr hf5
        go_wp2_with fail
        refine (HB6.out _ _ (HVv.out _ hf5)).mono ?_
        rintro e w6 ⟨v6, rfl, own6, hf6⟩
        have hf06 := hf5.trans hf6
        go_wp2_with fail
        refine (HB7.out _ _ (HVv.out _ hf06)).mono ?_
        rintro e w7 ⟨v7, rfl, own7, hf7⟩
        have hf07 := hf06.trans hf7
        go_wp2_with fail
        refine (HNt.out _ _ (hown.see.fr hf07)).mono ?_
        rintro e w8 ⟨v8, rfl, own8, hf8⟩
        have hf08 := hf07.trans hf8
        have s6 := own6.see.fr (hf7.trans hf8)
        have s7 := own7.see.fr hf8
        have s3' := s3.fr ((hf6.trans hf7).trans hf8)
        go_wp2_with fail
        refine (SameQ_any _ _ _ _ _ s6 s3').mono ?_
        rintro e w9 ⟨rfl, hf9⟩
        rw [decide_eq_true (rfl : j6 = j6)]
        have s4' := s4.fr (((hf6.trans hf7).trans hf8).trans hf9)
        have s7' := s7.fr hf9
        have hf09 := hf08.trans hf9
        go_wp2_with fail
        refine (SameQ_any _ _ _ _ _ s7' s4').mono ?_
        rintro e w10 ⟨rfl, hf10⟩
        rw [decide_eq_true (rfl : j7 = j7)]
        have hf010 := hf09.trans hf10
        have hown10 := hown.fr hf010
        have own8' := own8.fr (hf9.trans hf10)
        have own6' := own6.fr (((hf7.trans hf8).trans hf9).trans hf10)
        have hn8 := apart_of hown own8 hf07.size
        have hn6 := apart_of hown own6 hf5.size
        clear s3 s4 s3' s4' s6 s7 s7' own6 own7 own8 HB6 HB7 HNt
        go_wp2_with (at_builtin; refine wpList_app1g eT rfl (.tmp 93) (.tmp 95) 22 rfl Tryd.underlying22 w1.heap.size rfl hown10 [stepN 5 0] _ _ _ rfl rfl rfl ?c1 ?c2 ?_)
        case c1 => have := HFL.out; show _ + 1 ≤ _; omega
        case c2 => exact (hf.trans hf010).size
        intro v11 w11 hap
        have s8 := (hap.other own8' hn8).see
        have s6 := (hap.other own6' hn6).see
        have s11 := hap.own.see
        have hf11 : Fr w1 w11 := hap.below hown10 (hf.trans hf010) (Nat.le_refl _) (hf.trans hf010).size
        clear hap own8' own6' hn8 hn6 hown10
        generalize hz : all ++ [stepN 5 0] = z at *
        go_wp2_with fail
        refine (SameQ_any _ _ _ _ _ s8 s11).mono ?_
        rintro e w12 ⟨rfl, hf12⟩
        rw [decide_eq_true (rfl : z = z)]
        have hf012 := hf1.trans (hf11.trans hf12)
        have s6' := s6.fr hf12
        go_wp2_with fail
        refine (Depth_any _ j6 _ s6').mono ?_
        rintro e w13 ⟨rfl, hf13⟩
        have hfin := hf012.trans hf13
        cases hd : depthQ j6 with
        | ok d =>
          rw [depthV_ok]
          clear hd
          cases b
          all_goals go_wp2_with fail
          all_goals go_ret
          all_goals exact ⟨rfl, hfin⟩
        | error n =>
          cases b with
          | true =>
            obtain ⟨d, h⟩ := HOK.out rfl
            rw [h] at hd; cases hd
          | false =>
            rw [depthV_err]
            clear hd
            go_wp2_with fail
            go_ret
            exact ⟨rfl, hfin⟩
      · have h1' : ¬ (1 : Int) < hs.length := by omega
        rw [if_neg h1] at HJ6 HJ7
        clear h1
        obtain ⟨w5, hw5⟩ : ∃ w5, w5 = w3 := ⟨_, rfl⟩
        have hf5 : Fr wr w5 := by rw [hw5]; exact hfw3
        have s3 : See w5 eT v1 j6 := by rw [HJ6.out, hw5]; exact own1'.see
        have s4 : See w5 eT v2 j7 := by rw [HJ7.out, hw5]; exact own2.see
        rw [← hw5]
        clear own1' own2 own1 hne hf2 hf3 hfw3 HJ6 HJ7 hw5
        have hown5 := hown.fr hf5
        go_wp2_with fail
        refine (HB6.out _ _ (HVv.out _ hf5)).mono ?_
        rintro e w6 ⟨v6, rfl, own6, hf6⟩
        have hf06 := hf5.trans hf6
        go_wp2_with fail
        refine (HB7.out _ _ (HVv.out _ hf06)).mono ?_
        rintro e w7 ⟨v7, rfl, own7, hf7⟩
        have hf07 := hf06.trans hf7
        go_wp2_with fail
        refine (HNt.out _ _ (hown.see.fr hf07)).mono ?_
        rintro e w8 ⟨v8, rfl, own8, hf8⟩
        have hf08 := hf07.trans hf8
        have s6 := own6.see.fr (hf7.trans hf8)
        have s7 := own7.see.fr hf8
        have s3' := s3.fr ((hf6.trans hf7).trans hf8)
        go_wp2_with fail
        refine (SameQ_any _ _ _ _ _ s6 s3').mono ?_
        rintro e w9 ⟨rfl, hf9⟩
        rw [decide_eq_true (rfl : j6 = j6)]
        have s4' := s4.fr (((hf6.trans hf7).trans hf8).trans hf9)
        have s7' := s7.fr hf9
        have hf09 := hf08.trans hf9
        go_wp2_with fail
        refine (SameQ_any _ _ _ _ _ s7' s4').mono ?_
        rintro e w10 ⟨rfl, hf10⟩
        rw [decide_eq_true (rfl : j7 = j7)]
        have hf010 := hf09.trans hf10
        have hown10 := hown.fr hf010
        have own8' := own8.fr (hf9.trans hf10)
        have own6' := own6.fr (((hf7.trans hf8).trans hf9).trans hf10)
        have hn8 := apart_of hown own8 hf07.size
        have hn6 := apart_of hown own6 hf5.size
        clear s3 s4 s3' s4' s6 s7 s7' own6 own7 own8 HB6 HB7 HNt
        go_wp2_with (at_builtin; refine wpList_app1g eT rfl (.tmp 93) (.tmp 95) 22 rfl Tryd.underlying22 w1.heap.size rfl hown10 [stepN 5 0] _ _ _ rfl rfl rfl ?c1 ?c2 ?_)
        case c1 => have := HFL.out; show _ + 1 ≤ _; omega
        case c2 => exact (hf.trans hf010).size
        intro v11 w11 hap
        have s8 := (hap.other own8' hn8).see
        have s6 := (hap.other own6' hn6).see
        have s11 := hap.own.see
        have hf11 : Fr w1 w11 := hap.below hown10 (hf.trans hf010) (Nat.le_refl _) (hf.trans hf010).size
        clear hap own8' own6' hn8 hn6 hown10
        generalize hz : all ++ [stepN 5 0] = z at *
        go_wp2_with fail
        refine (SameQ_any _ _ _ _ _ s8 s11).mono ?_
        rintro e w12 ⟨rfl, hf12⟩
        rw [decide_eq_true (rfl : z = z)]
        have hf012 := hf1.trans (hf11.trans hf12)
        have s6' := s6.fr hf12
        go_wp2_with fail
        refine (Depth_any _ j6 _ s6').mono ?_
        rintro e w13 ⟨rfl, hf13⟩
        have hfin := hf012.trans hf13
        cases hd : depthQ j6 with
        | ok d =>
          rw [depthV_ok]
          clear hd
          cases b
          all_goals go_wp2_with fail
          all_goals go_ret
          all_goals exact ⟨rfl, hfin⟩
        | error n =>
          cases b with
          | true =>
            obtain ⟨d, h⟩ := HOK.out rfl
            rw [h] at hd; cases hd
          | false =>
            rw [depthV_err]
            clear hd
            go_wp2_with fail
            go_ret
            exact ⟨rfl, hfin⟩
end Go.Proofs.YtjepodlalcnecaaDoor
