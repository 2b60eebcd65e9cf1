/- Walks of text: the reference's Parse. -/
import Derived.Test.YtgckkemmabaffaaDoorW33q
set_option linter.unusedVariables false
namespace Go.Proofs.YtgckkemmabaffaaDoor
open Go.RowKit Go.Fk
set_option maxRecDepth 100000 in
set_option maxHeartbeats 4000000 in
theorem RParse_any (s : List UInt8) (w : World) (hlen : s.length ≤ 1000000) :
    Calls Tryd.prog 24 #[S s] w (ParseP w (parses s 0)) := by
  go_enter Tryd.func24, Tryd.ntmps24
  go_wp2_with fail
  go_loopw [5, 6] (fun ov iv wr => ∃ (i : Nat) (l : List Parts), iv = N i ∧ i ≤ s.length ∧ l.length ≤ i ∧ Own wr w.heap.size eR ov (l.map recP) ∧ Hid (parses s 0 = (parses (s.drop i) l.length).map fun x => l ++ x) ∧ Fr w wr) (fun _ iv _ => s.length - (intOf iv).toNat)
  case atStart => exact ⟨0, [], rfl, Nat.zero_le _, by simp, Own.nil, by show _ = _; rw [List.drop_zero]; cases parses s 0 <;> rfl, Fr.refl w⟩
  case round =>
    obtain ⟨i, l, rfl, hi, hl2, hown, HP, hf⟩ := hrel
    by_cases hlt : i < s.length
    · have hne : s.drop i ≠ [] := by intro h; have := congrArg List.length h; rw [List.length_drop] at this; simp at this; omega
      have hst := parses_step (s.drop i) l.length hne
      have HS := hid hst
      have hw1 : IntKind.i64.wrap ((l.length : Int) + 1) = (l.length : Int) + 1 := IntWalk.i64_in _ (by omega)
      obtain ⟨oa, oc, hov⟩ := hown.shape'
      have hovl : (l.map recP).length = l.length := List.length_map ..
      rw [hovl] at hov
      subst hov
      clear hst hne
      go_wp2_with fail
      go_loop [7] (fun tv => ∃ k : Nat, i ≤ k ∧ k ≤ s.length ∧ tv = N k ∧ (10 : UInt8) ∉ seg s i k) (fun tv => s.length - (intOf tv).toNat)
      case atStart => exact ⟨i, Nat.le_refl _, hi, rfl, by rw [seg_self]; simp⟩
      case round =>
        obtain ⟨k, hik, hk, rfl, h10⟩ := hrel
        have H10 := hid h10
        clear h10
        have hwk : IntKind.i64.wrap ((k : Int) + 1) = (k : Int) + 1 := IntWalk.i64_in _ (by omega)
        by_cases hkt : k < s.length
        · obtain ⟨c, hc⟩ : ∃ c, s[k] = c := ⟨_, rfl⟩
          have hcb : (⟨s.toArray⟩ : ByteArray)[k]'(by simp [ByteArray.size]; omega) = c := hc
          by_cases h : c = 10
          · have b10 : ((c.toNat : Int) == 10) = true := by rw [h]; rfl
            have hsd := seg_drop s i k hik hkt
            rw [hc, h] at hsd
            obtain ⟨e1, e2⟩ := bef_of 10 (seg s i k) (s.drop (k + 1)) H10.out
            rw [← hsd] at e1 e2
            have HS2 := HS.out
            rw [if_pos (by rw [hsd]; simp), e1, e2] at HS2
            have kq := neq_b k s.length (by omega)
            have xt : (⟨s.toArray⟩ : ByteArray).extract i k = ⟨(seg s i k).toArray⟩ := by rw [ByteArray.extract_mk]; simp [seg, List.drop_take]
            have sl := seg_len s i k hik hk
            have R2 := readL_iff (seg s i k)
            have C2 := RRead_any (seg s i k)
            generalize seg s i k = line at *
            generalize readL line = q at *
            clear hc h hsd e1 e2 HS
            cases q with
            | none =>
              simp only [partsV_none, partsE_none] at C2
              have HN : Hid (parses s 0 = .error (l.length + 1, false)) := by show _ = _; rw [HP.out, HS2]; rfl
              have D2 := hid C2
              clear C2 HS2 R2
              go_wp2_with fail
              refine (D2.out _ (by omega)).mono ?_
              rintro e w2 ⟨rfl, hf2⟩
              go_wp2_with fail
              go_ret3
              rw [HN.out]
              exact ⟨rfl, by first | exact (hf.trans hf2) | exact (hf.trans hf2).alloc _ | exact (hf.alloc _).trans hf2 | exact ((hf.alloc _).trans hf2).alloc _⟩
            | some q =>
              obtain ⟨t, lv, u, v⟩ := q
              obtain ⟨r1, r2, r3⟩ := (R2 t lv u v).1 rfl
              have HT := hid r1
              simp only [partsV_some, partsE_some] at C2
              have HN : Hid (parses s 0 = (parses (s.drop (k + 1)) (l ++ [(t, lv, u, v)]).length).map fun x => (l ++ [(t, lv, u, v)]) ++ x) := by
                show _ = _; rw [HP.out, HS2, List.length_append]; simp only [List.length_singleton]; cases parses (s.drop (k + 1)) (l.length + 1) <;> simp [Except.map]
              have D2 := hid C2
              clear C2 HS2 R2 r1 r3
              go_upto_region 9 with fail
              go_wp2_with fail
              refine (D2.out _ (by omega)).mono ?_
              rintro e w2 ⟨rfl, hf2⟩
              have hown2 := hown.fr hf2
              go_upto_region 12 with fail
              have k0 : (w2.alloc (.cells #[.int .u64 (t : Nat), .int .u8 (lv : Nat), S u, S v] 28)).cell? ⟨w2.heap.size, 0, none⟩ = some (.int .u64 (t : Nat)) := by rw [World.cell?_alloc_at _ _ _ _ rfl]; rfl
              have k1 : (w2.alloc (.cells #[.int .u64 (t : Nat), .int .u8 (lv : Nat), S u, S v] 28)).cell? ⟨w2.heap.size, 1, none⟩ = some (.int .u8 (lv : Nat)) := by rw [World.cell?_alloc_at _ _ _ _ rfl]; rfl
              have k2 : (w2.alloc (.cells #[.int .u64 (t : Nat), .int .u8 (lv : Nat), S u, S v] 28)).cell? ⟨w2.heap.size, 2, none⟩ = some (S u) := by rw [World.cell?_alloc_at _ _ _ _ rfl]; rfl
              have k3 : (w2.alloc (.cells #[.int .u64 (t : Nat), .int .u8 (lv : Nat), S u, S v] 28)).cell? ⟨w2.heap.size, 3, none⟩ = some (S v) := by rw [World.cell?_alloc_at _ _ _ _ rfl]; rfl
              have hown3 := hown2.fr ((Fr.refl w2).alloc (.cells #[.int .u64 (t : Nat), .int .u8 (lv : Nat), S u, S v] 28))
              have hf3 := (hf.trans hf2).alloc (.cells #[.int .u64 (t : Nat), .int .u8 (lv : Nat), S u, S v] 28)
              generalize w2.alloc (.cells #[.int .u64 (t : Nat), .int .u8 (lv : Nat), S u, S v] 28) = w3 at *
              have hsz3 := hf3.size
              go_wp2_with (at_builtin; refine wpList_app1 eR rfl (.tmp 48) (.tmp 50) 22 rfl Tryd.underlying22 w.heap.size rfl hown3 [recP (t, lv, u, v)] _ _ _ (recP_cells t lv u v HT.out r2) rfl rfl ?c1 ?c2 ?_)
              case c1 => rw [hovl]; simp; omega
              case c2 => omega
              intro v' w4 hap
              go_wp2_with fail
              go_roundw
              case rel => exact ⟨k + 1, l ++ [(t, lv, u, v)], by go_num, by omega, by simp; omega, by rw [List.map_append]; exact hap.own, HN, hap.below hown3 hf3 (Nat.le_refl _) hsz3⟩
              case measure => simp [intOf]; omega
          · have b10 := ne_b c 10 (by omega) h
            have HK : Hid ((10 : UInt8) ∉ seg s i (k + 1)) := by
              show ¬ _; rw [seg_snoc s i k hik hkt, hc]; simp only [List.mem_append, List.mem_singleton, not_or]; exact ⟨H10.out, fun e => h e.symm⟩
            clear hc h
            go_wp2_with fail
            go_round
            case rel => exact ⟨k + 1, by omega, by omega, by go_num, HK.out⟩
            case measure => simp [intOf]; omega
        · obtain rfl : k = s.length := by omega
          have h10 := H10.out
          rw [seg_end] at h10
          have HN : Hid (parses s 0 = .error (l.length + 1, true)) := by show _ = _; rw [HP.out, HS.out, if_neg h10]; rfl
          clear h10
          go_wp2_with fail
          go_ret3
          rw [HN.out]
          exact ⟨rfl, hf⟩
    · have HN : Hid (parses s 0 = .ok l) := by show _ = _; rw [HP.out, List.drop_eq_nil_of_le (by omega), parses_nil]; show Except.ok (l ++ []) = _; rw [List.append_nil]
      go_wp2_with fail
      go_ret3
      rw [HN.out]
      exact ⟨_, rfl, hown, hf⟩
end Go.Proofs.YtgckkemmabaffaaDoor
