/- Walks of ask: Show. -/
import Derived.Test.YtjepodlalcnecaaDoorW28w
import Derived.Test.YtjepodlalcnecaaDoorW28f
set_option linter.unusedVariables false
namespace Go.Proofs.YtjepodlalcnecaaDoor
open Go.RowKit Go.Fk
theorem check_zero (q : List Stp) (h : checkQ q = 0) : q.length ≤ 1000 ∧ ∃ d, stacks [] q = some [d] := by
  unfold checkQ depthQ at h
  by_cases hl : 1000 < q.length
  · rw [if_pos hl] at h; simp at h
  · rw [if_neg hl] at h
    refine ⟨by omega, ?_⟩
    match hs : stacks [] q with
    | none => rw [hs] at h; simp [depthE] at h
    | some [] => rw [hs] at h; simp [depthE] at h
    | some [d] => exact ⟨d, rfl⟩
    | some (a :: b :: r) => rw [hs] at h; simp [depthE] at h
theorem pushT_eq (st : List Sh) (s : Stp) (n : Nat) (h : takesZ s = n) : pushT st s = st.take (st.length - n) ++ [(showT s (st.drop (st.length - n)), s.op)] := by
  unfold pushT; rw [h]; rfl
theorem shows_succ (q : List Stp) (k : Nat) (h : k < q.length) : shows (q.take (k + 1)) = pushT (shows (q.take k)) q[k] := by
  unfold shows; rw [List.take_succ_eq_append_getElem h, List.foldl_append]; rfl
/-- the text that Show answers -/
def shownQ (q : List Stp) : List UInt8 := if checkQ q = 0 then textQ q else []
set_option maxRecDepth 100000 in
set_option maxHeartbeats 4000000 in
theorem Show_any (v : Value) (q : List Stp) (w : World) (hs : See w eT v q) (hT : LibT w) :
    Calls Tryd.prog 18 #[v] w fun e w' => e = .returned (.tuple #[S (shownQ q), .int .i64 (checkQ q)]) ∧ Fr w w' := by
  obtain ⟨a, cap, hv, hc1, hc2, hn⟩ := hs.shape
  subst hv
  go_enter Tryd.func18, Tryd.ntmps18
  go_wp2_with fail
  refine (Check_any _ q w hs).mono ?_
  rintro e w1 ⟨rfl, hf1⟩
  by_cases hz : checkQ q = 0
  · have HY : Hid (shownQ q = textQ q) := by show _ = _; unfold shownQ; rw [if_pos hz]
    obtain ⟨hlq, d, hst⟩ := check_zero q hz
    have HS0 := hid hst
    have HZ := hid hz
    rw [hz]
    have HT := hid (hT.fr hf1)
    have hs1 := hs.fr hf1
    clear hst hz hT
    go_wp2_with fail
    go_loopw [5, 16] (fun sv iv wr => ∃ (k : Nat) (st : List Nat) (sh : List Sh), k ≤ q.length ∧ iv = N k ∧ sh.length ≤ k ∧ Hid (st.length = sh.length) ∧ Own wr w1.heap.size eW sv sh ∧ Hid (some [d] = stacks st (q.drop k)) ∧ Hid (shows (q.take k) = sh) ∧ Hid (pot sh ≤ 49 * k) ∧ Fr w1 wr) (fun _ iv _ => q.length - (intOf iv).toNat)
    case atStart => exact ⟨0, [], [], Nat.zero_le _, rfl, by simp, rfl, Own.nil, by show _ = _; rw [List.drop_zero, ← HS0.out], rfl, by show _ ≤ _; simp [pot], Fr.refl w1⟩
    case round =>
      obtain ⟨k, st, sh, hk, rfl, hsl, HL, hown, HS, HW, HPo, hf⟩ := hrel
      obtain ⟨oa, oc, hov⟩ := hown.shape'
      subst hov
      by_cases hlt : k < q.length
      · obtain ⟨b, off, cap', hv, c0, c1, c2, c3, c4⟩ := stpAt (hs1.fr hf) k hlt
        cases hv
        have hsa := stacks_at st q k hlt
        have hwa := shows_succ q k hlt
        obtain ⟨s, hse⟩ : ∃ s, q[k] = s := ⟨_, rfl⟩
        rw [hse] at c0 c1 c2 c3 c4 hsa hwa
        have hif : ¬ (rightB s = false ∨ (st.length : Int) < takesZ s) := by
          intro h; rw [if_pos h] at hsa; have := HS.out; rw [hsa] at this; cases this
        rw [if_neg hif] at hsa
        have hr : rightB s = true := by cases h : rightB s with | true => rfl | false => exact absurd (.inl h) hif
        have h0 := right_takes s hr
        obtain ⟨n, hn'⟩ := Int.eq_ofNat_of_zero_le h0
        have hle : n ≤ sh.length := by
          have := HL.out
          by_cases hh : (st.length : Int) < takesZ s
          · exact absurd (.inr hh) hif
          · omega
        have HN : Hid (some [d] = stacks (pushD st n) (q.drop (k + 1))) := by show _ = _; rw [HS.out, hsa, hn']; rfl
        have hpt := pushT_eq sh s n hn'
        have HWn : Hid (shows (q.take (k + 1)) = pushT sh s) := by show _ = _; rw [hwa, HW.out]
        have HPn : Hid (pot (pushT sh s) ≤ 49 * (k + 1)) := by
          have := pushT_pot sh s hr dec_le
          have := HPo.out
          show _ ≤ _; omega
        have HLn : Hid ((pushD st n).length = (pushT sh s).length) := by
          show _ = _; rw [pushD_len, pushT_len, hn', HL.out]; rfl
        have HLk : Hid ((pushT sh s).length ≤ k + 1) := by show _ ≤ _; rw [pushT_len]; omega
        have i1 : (0 : Int) ≤ k := by omega
        have i2 : (k : Int) < q.length := by omega
        have hpd : pot (sh.drop (sh.length - n)) ≤ 100000000 := by
          have := HPo.out
          have e := pot_app (sh.take (sh.length - n)) (sh.drop (sh.length - n))
          rw [List.take_append_drop] at e
          omega
        have hkd : ((sh.drop (sh.length - n)).length : Int) = takesZ s := by rw [hn', List.length_drop]; omega
        have HPT := hid hpt
        have HSH : Hid (∀ v' W', See W' eW v' (sh.drop (sh.length - n)) → LibT W' → Calls Tryd.prog 32 #[stpV s, v'] W' fun e w'' => e = .returned (S (showT s (sh.drop (sh.length - n)))) ∧ Fr W' w'') := fun v' W' g1 g2 => show_any s _ v' W' g1 g2 hr hkd hpd
        clear hsa hse hif hr h0 hwa hpt hpd hkd
        go_wp2_with fail
        refine (takes_any s _).mono ?_
        rintro e w2 ⟨he1, hf2⟩
        rw [hn'] at he1
        subst he1
        obtain ⟨d0, d1, d2, d3, d4, dsz⟩ := five_cells hf2
        clear hn'
        have hf02 := (hf.alloc _).trans hf2
        have hown2 := hown.fr (((Fr.refl wr).alloc _).trans hf2)
        have hsee := hown2.see
        obtain ⟨pa, pc, hrun, hsee2⟩ := run_from eW 54 Tryd.underlying54 hsee (sh.length - n) (by omega)
        obtain ⟨hrun2, _⟩ := run_to eW 54 Tryd.underlying54 hsee (sh.length - n) (by omega)
        have hown3 := hown2.to (k := sh.length - n) (by omega)
        rw [show sh.length - (sh.length - n) = n by omega] at hsee2
        rw [show sh.length - (sh.length - n) = n by omega, show ((sh.length - n : Nat) : Int) = (sh.length : Int) - n by omega] at hrun
        rw [show ((sh.length - n : Nat) : Int) = (sh.length : Int) - n by omega] at hrun2
        have hw1 : IntKind.i64.wrap ((sh.length : Int) - n) = (sh.length : Int) - n := IntWalk.i64_in _ (by omega)
        generalize hdr : sh.drop (sh.length - n) = ds at *
        generalize htk : sh.take (sh.length - n) = ts at *
        have htl : ts.length ≤ k := by rw [← htk]; simp; omega
        have HC : Hid (∀ W, Fr w2 W → Calls Tryd.prog 32 #[.agg #[.int .i64 s.op, .int .i64 s.n, S s.word, .int .u64 s.fa.toNat, .int .u64 s.fb.toNat], .slice pa n pc] W fun e w'' => e = .returned (S (showT s ds)) ∧ Fr W w'') := fun W hfW => HSH.out _ W (hsee2.fr hfW) (HT.out.fr (hf02.trans hfW))
        clear HSH
        have hcl : Hid (ts.length + 1 ≤ 2147483648) := by show _ ≤ _; omega
        have hfs := hf02.size
        generalize hsh : showT s ds = txt at *
        clear hdr htk hsh c0 c1 c2 c3 c4 hsee hown hown2 hsee2 hc1 hc2 hn
        go_upto_region 9 with fail
        go_region_law (first
          | (refine step_app1 eW rfl (.tmp 27) (.tmp 36) 54 rfl Tryd.underlying54 w1.heap.size rfl hown4 [(txt, s.op)] _ _ _ rfl rfl rfl hcl.out hfs4 ?_; intro v' w4 hap)
          | (go_simp; go_at_call 32; refine (HC.out _ (Fr.drew (Fr.refl _))).mono ?_; rintro e w3 ⟨rfl, hf3⟩; have k0 := hf3.cell d0; have k1 := hf3.cell d1; have k2 := hf3.cell d2; have k3 := hf3.cell d3; have k4 := hf3.cell d4; have hown4 := hown3.fr ((Fr.drew (Fr.refl _)).trans hf3); have hfs4 := ((hf02.trans (Fr.drew (Fr.refl _))).trans hf3).size))
        all_goals (have hap2 : App w1.heap.size eW (ts ++ [(txt, s.op)]) w3 (.slice oa (sh.length - n) oc) v' w4 := hap)
        all_goals clear hap
        all_goals (have hown5 := hap2.own)
        all_goals (rw [← HPT.out] at hown5)
        all_goals (have hf5 := hap2.below hown4 ((hf02.trans (Fr.drew (Fr.refl _))).trans hf3) (Nat.le_refl _) hfs4)
        all_goals clear hap2 hown4 d0 d1 d2 d3 d4 k0 k1 k2 k3 k4
        all_goals go_wp2_with fail
        all_goals exact ⟨⟨k + 1, pushD st n, pushT sh s, by omega, by go_num, HLk.out, HLn, hown5, HN, HWn, HPn, hf5⟩, by simp [intOf]; omega⟩
      · obtain rfl : k = q.length := by omega
        rw [stacks_end st q q.length (Nat.le_refl _)] at HS
        have hst : st = [d] := by have := HS.out; simpa using this.symm
        have hsl1 : sh.length = 1 := by have := HL.out; rw [hst] at this; simpa using this.symm
        obtain ⟨x, rfl⟩ : ∃ x, sh = [x] := by match sh, hsl1 with | [x], _ => exact ⟨x, rfl⟩
        rw [List.take_length] at HW
        obtain ⟨b2, off2, cap2, hv2, e0, e1⟩ := shAt hown.see 0 (by simp)
        simp only [List.getElem_cons_zero, Nat.zero_mul, Nat.add_zero] at e0 e1
        have hq : Hid (textQ q = x.1) := by show _ = _; unfold textQ; rw [HW.out]; rfl
        cases hv2
        clear HS HL HW HPo hst hsl1
        have hnl : ¬ ((q.length : Int) < q.length) := by omega
        go_wp2_with fail
        exact bodyPost_ret (v := .tuple #[S x.1, .int .i64 0]) (by simp [results, Tryd.results18, go_sem, *]) rfl (by rw [HY.out, hq.out, HZ.out]; exact ⟨rfl, hf1.trans hf⟩)
  · have HY : Hid (shownQ q = []) := by show _ = _; unfold shownQ; rw [if_neg hz]
    generalize hc : checkQ q = c at *
    have hcz : (c != 0) = true := by simp [hz]
    have hcz' : (c == 0) = false := by simp [hz]
    have HZ := hid hc
    clear hc hz
    go_wp2_with fail
    exact bodyPost_ret (v := .tuple #[S [], .int .i64 c]) (by simp [results, Tryd.results18, go_sem, *]) rfl (by rw [HY.out, HZ.out]; exact ⟨rfl, hf1⟩)
end Go.Proofs.YtjepodlalcnecaaDoor
