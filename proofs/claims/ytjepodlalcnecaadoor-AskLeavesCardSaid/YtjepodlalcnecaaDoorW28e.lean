/- Walks of ask: the reference's Depth; Check. -/
import Derived.Test.YtjepodlalcnecaaDoorW28c
import Derived.Test.YtjepodlalcnecaaDoorW28d
set_option linter.unusedVariables false
namespace Go.Proofs.YtjepodlalcnecaaDoor
open Go.RowKit Go.Fk
theorem drop_pop (st : List Nat) (j : Nat) (h : j < st.length) : st.drop (st.length - (j + 1)) = st[st.length - (j + 1)]'(by omega) :: st.drop (st.length - j) := by
  rw [List.drop_eq_getElem_cons (by omega), show st.length - (j + 1) + 1 = st.length - j by omega]
set_option maxRecDepth 100000 in
set_option maxHeartbeats 4000000 in
theorem RDepth_any (v : Value) (q : List Stp) (w : World) (hs : See w eT v q) :
    Calls Tryd.prog 11 #[v] w fun e w' => e = .returned (depthV (depthQ q)) ∧ Fr w w' := by
  obtain ⟨a, cap, hv, hc1, hc2, hn⟩ := hs.shape
  subst hv
  go_enter Tryd.func11, Tryd.ntmps11
  by_cases hl : 1000 < q.length
  · have hl' : (1000 : Int) < q.length := by omega
    have HQ : Hid (depthQ q = .error 6) := by show _ = _; unfold depthQ; rw [if_pos hl]
    clear hl
    go_wp2_with fail
    go_ret2
    exact ⟨by rw [HQ.out, depthV_err]; rfl, Fr.refl w⟩
  · have hl' : ¬ (1000 : Int) < q.length := by omega
    have HQ : Hid (depthQ q = depthE (stacks [] q)) := by show _ = _; unfold depthQ; rw [if_neg hl]
    go_wp2_with fail
    go_loopw [4, 5] (fun sv iv wr => ∃ (k : Nat) (st : List Nat), k ≤ q.length ∧ iv = N k ∧ st.length ≤ k ∧ Hid (∀ x ∈ st, x ≤ k) ∧ Own wr w.heap.size eI sv (ints st) ∧ Hid (stacks [] q = stacks st (q.drop k)) ∧ Fr w wr) (fun _ iv _ => q.length - (intOf iv).toNat)
    case atStart => exact ⟨0, [], Nat.zero_le _, rfl, by simp, by show ∀ _, _; simp, Own.nil, by show _ = _; rw [List.drop_zero], Fr.refl w⟩
    case round =>
      obtain ⟨k, st, hk, rfl, hst, HX, hown, HS, hf⟩ := hrel
      obtain ⟨oa, oc, hov⟩ := hown.shape'
      rw [ints_len] at hov
      subst hov
      by_cases hlt : k < q.length
      · obtain ⟨b, off, cap', hv, c0, c1, c2, c3, c4⟩ := stpAt (hs.fr hf) k hlt
        cases hv
        have hsa := stacks_at st q k hlt
        obtain ⟨s, hse⟩ : ∃ s, q[k] = s := ⟨_, rfl⟩
        rw [hse] at c0 c1 c2 c3 c4 hsa
        have HE := hid hse
        have HA := hid hsa
        have i1 : (0 : Int) ≤ k := by omega
        have i2 : (k : Int) < q.length := by omega
        clear hsa hse
        cases hr : rightB s with
        | false =>
          have HN : Hid (depthQ q = .error 10) := by show _ = _; rw [HQ.out, HS.out, HA.out, if_pos (.inl hr)]; rfl
          go_wp2_with fail
          refine (Rright_any s _).mono ?_
          rintro e w2 ⟨he2, hf2⟩
          rw [hr] at he2
          subst he2
          clear hr
          go_wp2_with fail
          go_ret2
          exact ⟨by rw [HN.out, depthV_err]; rfl, hf.trans hf2⟩
        | true =>
          have h0 := right_takes s hr
          have hts := takes_same s hr
          obtain ⟨n, hn'⟩ := Int.eq_ofNat_of_zero_le h0
          rw [hn'] at hts
          have HT := hid hts
          clear hts
          go_wp2_with fail
          refine (Rright_any s _).mono ?_
          rintro e w2 ⟨he2, hf2⟩
          rw [hr] at he2
          subst he2
          have d0 := hf2.cell c0
          have d1 := hf2.cell c1
          have d2 := hf2.cell c2
          have d3 := hf2.cell c3
          have d4 := hf2.cell c4
          by_cases hle : st.length < n
          · have HN : Hid (depthQ q = .error 10) := by show _ = _; rw [HQ.out, HS.out, HA.out, if_pos (.inr (by omega))]; rfl
            have hle' : (st.length : Int) < n := by omega
            clear hn' h0 hr
            go_wp2_with fail
            refine (RTakes_any s _).mono ?_
            rintro e w3 ⟨he1, hf3⟩
            rw [HT.out] at he1
            subst he1
            go_wp2_with fail
            go_ret2
            exact ⟨by rw [HN.out, depthV_err]; rfl, (hf.trans hf2).trans hf3⟩
          · have HN : Hid (stacks [] q = stacks (pushD st n) (q.drop (k + 1))) := by show _ = _; rw [HS.out, HA.out, if_neg (by rintro (h | h); rw [hr] at h; cases h; omega), hn']; rfl
            have hle' : ¬ (st.length : Int) < n := by omega
            clear hn' h0 hr
            go_wp2_with fail
            refine (RTakes_any s _).mono ?_
            rintro e w3 ⟨he1, hf3⟩
            rw [HT.out] at he1
            subst he1
            have hf03 := (hf.trans hf2).trans hf3
            have hown3 := hown.fr (hf2.trans hf3)
            clear hown c0 c1 c2 c3 c4 d0 d1 d2 d3 d4 hc1 hc2 hn
            go_wp2_with fail
            go_loopw [4, 6, 7] (fun sv dv jv w4 => ∃ j L m : Nat, jv = N j ∧ dv = N m ∧ sv = .slice oa L oc ∧ j ≤ n ∧ Hid (L + j = st.length) ∧ Hid (maxL (st.drop L) = m) ∧ Own w4 w.heap.size eI (.slice oa L oc) (ints (st.take L)) ∧ Fr w w4) (fun _ _ jv _ => n - (intOf jv).toNat)
            case atStart => exact ⟨0, st.length, 0, rfl, rfl, rfl, Nat.zero_le _, rfl, by show _ = _; rw [List.drop_length]; rfl, by rw [List.take_length]; exact hown3, hf03⟩
            case round =>
              clear hown3
              obtain ⟨j, L, m, rfl, rfl, rfl, hj, HL, HM, hown4, hf4⟩ := hrel
              obtain ⟨b', off', cap', hv, c0, c1, c2, c3, c4⟩ := stpAt (hs.fr hf4) k hlt
              rw [HE.out] at c0 c1 c2 c3 c4
              cases hv
              by_cases hjt : j < n
              · have hjt' : (j : Int) < n := by omega
                obtain ⟨L, rfl⟩ : ∃ L', L = L' + 1 := ⟨L - 1, by have := HL.out; omega⟩
                have hLl : L < st.length := by have := HL.out; omega
                obtain ⟨x, hx⟩ : ∃ x, st[L]'hLl = x := ⟨_, rfl⟩
                have hmx : Hid (maxL (st.drop L) = max x m) := by
                  show _ = _; rw [List.drop_eq_getElem_cons hLl, maxL_cons, hx, HM.out]
                have hsl : (st.take (L + 1)).length = L + 1 := by simp; omega
                obtain ⟨b2, off2, cap2, hv2, e0⟩ := hown4.see.cell1 (fun (n : Int) => Value.int .i64 n) rfl L (by rw [ints_len, hsl]; omega)
                rw [ints_at _ _ (by rw [hsl]; omega), List.getElem_take, hx] at e0
                simp only [Value.slice.injEq] at hv2
                obtain ⟨rfl, hq2, rfl⟩ := hv2
                clear hq2
                have L1 : (L : Int) ≤ 1000 := by omega
                clear hx
                go_wp2_with fail
                refine (RTakes_any s _).mono ?_
                rintro e w5 ⟨he5, hf5⟩
                rw [HT.out] at he5
                subst he5
                have e1 := hf5.cell e0
                have hown5 := hown4.fr hf5
                have hf05 := hf4.trans hf5
                obtain ⟨hrun2, _⟩ := run_to eI 50 Tryd.underlying50 hown5.see L (by rw [ints_len, hsl]; omega)
                have hown6 := hown5.to (k := L) (by rw [ints_len, hsl]; omega)
                rw [ints_take, List.take_take, Nat.min_eq_left (by omega)] at hown6
                clear hown4 hown5 c0 c1 c2 c3 c4 e0 hsl
                have HL2 : Hid (L + (j + 1) = st.length) := by have := HL.out; show _ = _; omega
                by_cases hxm : m < x
                · have hxm' : (m : Int) < x := by omega
                  have hme : Hid (maxL (st.drop L) = x) := by show _ = _; rw [hmx.out]; omega
                  go_wp2_with fail
                  go_roundw
                  case rel => exact ⟨j + 1, L, x, by go_num, rfl, rfl, by omega, HL2, hme, hown6, hf05⟩
                  case measure => simp [intOf]; omega
                · have hxm' : ¬ (m : Int) < x := by omega
                  have hme : Hid (maxL (st.drop L) = m) := by show _ = _; rw [hmx.out]; omega
                  go_wp2_with fail
                  go_roundw
                  case rel => exact ⟨j + 1, L, m, by go_num, rfl, rfl, by omega, HL2, hme, hown6, hf05⟩
                  case measure => simp [intOf]; omega
              · obtain rfl : j = n := by omega
                have hLe : L = st.length - j := by have := HL.out; omega
                have hml : m ≤ k := by rw [← HM.out]; exact maxL_le _ _ fun x hx => HX.out x (List.mem_of_mem_drop hx)
                have hP : Hid (ints (st.take L) ++ [((m + 1 : Nat) : Int)] = ints (pushD st j)) := by
                  show _ = _; rw [ints_snoc]; unfold pushD; rw [← hLe, HM.out]
                have hPl := pushD_len st j
                have hX2 : Hid (∀ x ∈ pushD st j, x ≤ k + 1) := pushD_le st j k HX.out
                have hwm : IntKind.i64.wrap ((m : Int) + 1) = (m : Int) + 1 := IntWalk.i64_in _ (by omega)
                clear hLe
                go_wp2_with fail
                refine (RTakes_any s _).mono ?_
                rintro e w5 ⟨he5, hf5⟩
                rw [HT.out] at he5
                subst he5
                have hown5 := hown4.fr hf5
                have hf05 := hf4.trans hf5
                go_wp2_with (at_builtin; refine wpList_app1 eI rfl (.tmp 61) (.tmp 64) 50 rfl Tryd.underlying50 w.heap.size rfl hown5 [((m + 1 : Nat) : Int)] _ _ _ rfl rfl rfl ?c1 ?c2 ?_)
                case c1 => rw [ints_len, List.length_take]; simp; omega
                case c2 => exact hf05.size
                intro v' w6 hap
                go_wp2_with fail
                go_roundw
                case rel => exact ⟨k + 1, pushD st j, by omega, by go_num, by omega, hX2, by rw [← hP.out]; exact hap.own, HN, hap.below hown5 hf05 (Nat.le_refl _) hf05.size⟩
                case measure => simp [intOf]; omega
      · have HS2 : Hid (stacks [] q = some st) := by show _ = _; rw [HS.out, stacks_end st q k (by omega)]
        clear HS
        by_cases h1 : st.length = 1
        · obtain ⟨d, rfl⟩ : ∃ d, st = [d] := by match st, h1 with | [d], _ => exact ⟨d, rfl⟩
          have HN : Hid (depthQ q = .ok d) := by show _ = _; rw [HQ.out, HS2.out]; rfl
          obtain ⟨b2, off2, cap2, hv2, e0⟩ := hown.see.cell1 (fun (n : Int) => Value.int .i64 n) rfl 0 (by simp [ints])
          rw [ints_at _ _ (by simp)] at e0
          cases hv2
          simp only [List.getElem_cons_zero, Nat.add_zero] at e0
          go_wp2_with fail
          go_ret2
          exact ⟨by rw [HN.out, depthV_ok]; rfl, hf⟩
        · have HN : Hid (depthQ q = .error 10) := by
            show _ = _; rw [HQ.out, HS2.out]
            match st, h1 with
            | [], _ => rfl
            | [d], h => exact absurd rfl h
            | a :: b :: r, _ => rfl
          have h1' : ((st.length : Int) == 1) = false := by simp; omega
          clear h1
          go_wp2_with fail
          go_ret2
          exact ⟨by rw [HN.out, depthV_err]; rfl, hf⟩
end Go.Proofs.YtjepodlalcnecaaDoor
