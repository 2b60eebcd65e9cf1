/- Walks of ask: Depth. -/
import Derived.Test.YtjepodlalcnecaaDoorW28b
import Derived.Test.YtjepodlalcnecaaDoorLib2
import Derived.Test.YtjepodlalcnecaaDoorSpec28b
set_option linter.unusedVariables false
namespace Go.Proofs.YtjepodlalcnecaaDoor
open Go.RowKit Go.Fk
/-- what Depth answers -/
def depthV : Except Int Nat → Value
  | .ok d => .tuple #[.int .i64 (d : Nat), .int .i64 0]
  | .error n => .tuple #[.int .i64 0, .int .i64 n]
theorem depthV_ok (d : Nat) : depthV (.ok d) = .tuple #[.int .i64 (d : Nat), .int .i64 0] := rfl
theorem depthV_err (n : Int) : depthV (.error n) = .tuple #[.int .i64 0, .int .i64 n] := rfl
theorem five_cells {w w3 : World} {a b c d e : Value} {T : TypeId} (hf : Fr (w.alloc (.cells #[a, b, c, d, e] T)) w3) :
    w3.cell? ⟨w.heap.size, 0, none⟩ = some a ∧ w3.cell? ⟨w.heap.size, 1, none⟩ = some b ∧ w3.cell? ⟨w.heap.size, 2, none⟩ = some c ∧ w3.cell? ⟨w.heap.size, 3, none⟩ = some d ∧ w3.cell? ⟨w.heap.size, 4, none⟩ = some e ∧ w.heap.size < w3.heap.size := by
  have hb := hf.heap (heap_new w (.cells #[a, b, c, d, e] T) _ rfl)
  have h0 := hf.size
  rw [size_alloc] at h0
  exact ⟨cell_of_heap hb 0, cell_of_heap hb 1, cell_of_heap hb 2, cell_of_heap hb 3, cell_of_heap hb 4, by omega⟩
/-- a stack as ints -/
def ints (st : List Nat) : List Int := st.map fun (n : Nat) => (n : Int)
theorem ints_len (st : List Nat) : (ints st).length = st.length := by unfold ints; exact List.length_map ..
theorem ints_drop (st : List Nat) (k : Nat) : (ints st).drop k = ints (st.drop k) := by unfold ints; rw [List.map_drop]
theorem ints_take (st : List Nat) (k : Nat) : (ints st).take k = ints (st.take k) := by unfold ints; rw [List.map_take]
theorem ints_snoc (st : List Nat) (x : Nat) : ints st ++ [(x : Int)] = ints (st ++ [x]) := by unfold ints; rw [List.map_append]; rfl
theorem ints_at (st : List Nat) (k : Nat) (h : k < st.length) : (ints st)[k]'(by rw [ints_len]; exact h) = (st[k] : Int) := by unfold ints; rw [List.getElem_map]
set_option maxRecDepth 100000 in
set_option maxHeartbeats 4000000 in
theorem Depth_any (v : Value) (q : List Stp) (w : World) (hs : See w eT v q) :
    Calls Tryd.prog 10 #[v] w fun e w' => e = .returned (depthV (depthQ q)) ∧ Fr w w' := by
  obtain ⟨a, cap, hv, hc1, hc2, hn⟩ := hs.shape
  subst hv
  go_enter Tryd.func10, Tryd.ntmps10
  by_cases hl : 1000 < q.length
  · have hl' : (1000 : Int) < q.length := by omega
    have HQ : Hid (depthQ q = .error 6) := by show _ = _; unfold depthQ; rw [if_pos hl]
    clear hl
    go_wp2_with fail
    go_ret2
    exact ⟨by rw [HQ.out, depthV_err]; rfl, Fr.refl w⟩
  · have hl' : ¬ (1000 : Int) < q.length := by omega
    have HQ : Hid (depthQ q = depthE (stacks [] q)) := by show _ = _; unfold depthQ; rw [if_neg hl]
    go_wp2_with fail
    go_loopw [4, 16] (fun sv iv wr => ∃ (k : Nat) (st : List Nat), k ≤ q.length ∧ iv = N k ∧ st.length ≤ k ∧ Hid (∀ x ∈ st, x ≤ k) ∧ Own wr w.heap.size eI sv (ints st) ∧ Hid (stacks [] q = stacks st (q.drop k)) ∧ Fr w wr) (fun _ iv _ => q.length - (intOf iv).toNat)
    case atStart => exact ⟨0, [], Nat.zero_le _, rfl, by simp, by show ∀ _, _; simp, Own.nil, by show _ = _; rw [List.drop_zero], Fr.refl w⟩
    case round =>
      obtain ⟨k, st, hk, rfl, hst, HX, hown, HS, hf⟩ := hrel
      obtain ⟨oa, oc, hov⟩ := hown.shape'
      rw [ints_len] at hov
      subst hov
      by_cases hlt : k < q.length
      · obtain ⟨b, off, cap', hv, c0, c1, c2, c3, c4⟩ := stpAt (hs.fr hf) k hlt
        cases hv
        have hsa := stacks_at st q k hlt
        obtain ⟨s, hse⟩ : ∃ s, q[k] = s := ⟨_, rfl⟩
        rw [hse] at c0 c1 c2 c3 c4 hsa
        have HA := hid hsa
        have i1 : (0 : Int) ≤ k := by omega
        have i2 : (k : Int) < q.length := by omega
        clear hsa hse
        go_wp2_with fail
        refine (takes_any s _).mono ?_
        rintro e w1 ⟨he1, hf1⟩
        obtain ⟨d0, d1, d2, d3, d4, _⟩ := five_cells hf1
        cases hr : rightB s with
        | false =>
          have HN : Hid (depthQ q = .error 10) := by show _ = _; rw [HQ.out, HS.out, HA.out, if_pos (.inl hr)]; rfl
          subst he1
          go_wp2_with fail
          refine (right_any s _).mono ?_
          rintro e w2 ⟨he2, hf2⟩
          rw [hr] at he2
          subst he2
          clear hr
          go_wp2_with fail
          go_ret2
          exact ⟨by rw [HN.out, depthV_err]; rfl, (((hf.alloc _).trans hf1).trans hf2)⟩
        | true =>
          have h0 := right_takes s hr
          obtain ⟨n, hn'⟩ := Int.eq_ofNat_of_zero_le h0
          rw [hn'] at he1
          subst he1
          by_cases hle : st.length < n
          · have HN : Hid (depthQ q = .error 10) := by show _ = _; rw [HQ.out, HS.out, HA.out, if_pos (.inr (by omega))]; rfl
            have hle' : (st.length : Int) < n := by omega
            clear hn' h0
            go_wp2_with fail
            refine (right_any s _).mono ?_
            rintro e w2 ⟨he2, hf2⟩
            rw [hr] at he2
            subst he2
            clear hr
            go_wp2_with fail
            go_ret2
            exact ⟨by rw [HN.out, depthV_err]; rfl, (((hf.alloc _).trans hf1).trans hf2)⟩
          · have HN : Hid (stacks [] q = stacks (pushD st n) (q.drop (k + 1))) := by show _ = _; rw [HS.out, HA.out, if_neg (by rintro (h | h); rw [hr] at h; cases h; omega), hn']; rfl
            have hle' : ¬ (st.length : Int) < n := by omega
            clear hn' h0
            go_wp2_with fail
            refine (right_any s _).mono ?_
            rintro e w2 ⟨he2, hf2⟩
            rw [hr] at he2
            subst he2
            clear hr
            have hf02 := ((hf.alloc _).trans hf1).trans hf2
            have hown2 := hown.fr ((((Fr.refl wr).alloc _).trans hf1).trans hf2)
            have hsee := hown2.see
            obtain ⟨pa, pc, hrun, hsee2⟩ := run_from eI 50 Tryd.underlying50 hsee (st.length - n) (by rw [ints_len]; omega)
            obtain ⟨hrun2, _⟩ := run_to eI 50 Tryd.underlying50 hsee (st.length - n) (by rw [ints_len]; omega)
            have hown3 := hown2.to (k := st.length - n) (by rw [ints_len]; omega)
            rw [ints_len, show st.length - (st.length - n) = n by omega, ints_drop] at hsee2
            rw [ints_len, show st.length - (st.length - n) = n by omega, show ((st.length - n : Nat) : Int) = (st.length : Int) - n by omega] at hrun
            rw [show ((st.length - n : Nat) : Int) = (st.length : Int) - n by omega] at hrun2
            rw [ints_take] at hown3
            have hw1 : IntKind.i64.wrap ((st.length : Int) - n) = (st.length : Int) - n := IntWalk.i64_in _ (by omega)
            generalize hdr : st.drop (st.length - n) = ds at *
            have hdl : ds.length = n := by rw [← hdr]; simp; omega
            have HD := hid hdr
            clear hdr hc1 hc2 hn d0 d1 d2 d3 d4 hsee hown hown2
            go_wp2_with fail
            go_loop [8, 38] (fun dv iv => ∃ j : Nat, j ≤ n ∧ iv = N j ∧ dv = N (maxL (ds.take j))) (fun _ iv => n - (intOf iv).toNat)
            case atStart => exact ⟨0, Nat.zero_le _, rfl, rfl⟩
            case round =>
              obtain ⟨j, hj, rfl, rfl⟩ := hrel
              by_cases hjt : j < n
              · obtain ⟨b2, off2, cap2, hv2, e0⟩ := hsee2.cell1 (fun (n : Int) => Value.int .i64 n) rfl j (by rw [ints_len]; omega)
                rw [ints_at _ _ (by omega)] at e0
                simp only [Value.slice.injEq] at hv2
                obtain ⟨rfl, _, rfl⟩ := hv2
                have hmx : Hid (((max (maxL (ds.take j)) (ds[j]'(by omega)) : Nat) : Int) = (maxL (ds.take (j + 1)) : Nat)) := by
                  show _ = _; rw [List.take_succ_eq_append_getElem (by omega), maxL_snoc]
                obtain ⟨x, hx⟩ : ∃ x, ds[j]'(by omega) = x := ⟨_, rfl⟩
                rw [hx] at e0 hmx
                clear hx
                generalize maxL (ds.take j) = m at *
                have j1 : (0 : Int) ≤ j := by omega
                have j2 : (j : Int) < n := by omega
                go_wp2_with fail
                go_round
                case rel => exact ⟨j + 1, by omega, by go_num, by have hm2 := hmx.out; show Value.int .i64 _ = Value.int .i64 _; congr 1; rw [← hm2]; split <;> omega⟩
                case measure => simp [intOf]; omega
              · rw [List.take_of_length_le (by omega)]
                have hml : maxL ds ≤ k := by rw [← HD.out]; exact maxL_le _ _ fun x hx => HX.out x (List.mem_of_mem_drop hx)
                have hP : Hid (ints (st.take (st.length - n)) ++ [((maxL ds + 1 : Nat) : Int)] = ints (pushD st n)) := by
                  show _ = _; rw [ints_snoc]; unfold pushD; rw [HD.out]
                have hPl := pushD_len st n
                have hX2 : Hid (∀ x ∈ pushD st n, x ≤ k + 1) := pushD_le st n k HX.out
                generalize maxL ds = m at *
                have hwm : IntKind.i64.wrap ((m : Int) + 1) = (m : Int) + 1 := IntWalk.i64_in _ (by omega)
                go_wp2_with (at_builtin; refine wpList_app1 eI rfl (.tmp 51) (.tmp 54) 50 rfl Tryd.underlying50 w.heap.size rfl hown3 [((m + 1 : Nat) : Int)] _ _ _ rfl rfl rfl ?c1 ?c2 ?_)
                case c1 => rw [ints_len, List.length_take]; simp; omega
                case c2 => exact hf02.size
                intro v' w4 hap
                go_wp2_with fail
                go_roundw
                case rel => exact ⟨k + 1, pushD st n, by omega, by go_num, by omega, hX2, by rw [← hP.out]; exact hap.own, HN, hap.below hown3 hf02 (Nat.le_refl _) hf02.size⟩
                case measure => simp [intOf]; omega
      · have HS2 : Hid (stacks [] q = some st) := by show _ = _; rw [HS.out, stacks_end st q k (by omega)]
        clear HS
        by_cases h1 : st.length = 1
        · obtain ⟨d, rfl⟩ : ∃ d, st = [d] := by match st, h1 with | [d], _ => exact ⟨d, rfl⟩
          have HN : Hid (depthQ q = .ok d) := by show _ = _; rw [HQ.out, HS2.out]; rfl
          obtain ⟨b2, off2, cap2, hv2, e0⟩ := hown.see.cell1 (fun (n : Int) => Value.int .i64 n) rfl 0 (by simp [ints])
          rw [ints_at _ _ (by simp)] at e0
          cases hv2
          simp only [List.getElem_cons_zero, Nat.add_zero] at e0
          go_wp2_with fail
          go_ret2
          exact ⟨by rw [HN.out, depthV_ok]; rfl, hf⟩
        · have HN : Hid (depthQ q = .error 10) := by
            show _ = _; rw [HQ.out, HS2.out]
            match st, h1 with
            | [], _ => rfl
            | [d], h => exact absurd rfl h
            | a :: b :: r, _ => rfl
          have h1' : ((st.length : Int) == 1) = false := by simp; omega
          clear h1
          go_wp2_with fail
          go_ret2
          exact ⟨by rw [HN.out, depthV_err]; rfl, hf⟩
end Go.Proofs.YtjepodlalcnecaaDoor
