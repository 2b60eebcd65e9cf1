/- Walks of mask: a text's rows. -/
import Derived.Test.YtgckkemmabaffaaW37b
set_option linter.unusedVariables false
namespace Go.Proofs.Ytgckkemmabaffaa
open Go.RowKit Go.Fk

/-- what one row does -/
theorem row_step (g : List UInt8 → Bool) (r : List UInt8) (k : Nat) (h1 : 1 ≤ k) (h0 : 0 < r.length) (hk : k ≤ r.length) (hall : (r.take k).all (fun c => isL c == isL r[0]) = true) (hend : ∀ h : k < r.length, (isL r[k] == isL r[0]) = false) :
    maskGo g [] r = (if isL r[0] then maskRow g (r.take k) else r.take k) ++ maskGo g [] (r.drop k) ∧
    maskNum g [] r = (if isL r[0] = true ∧ g (((r.take k).map sm).take 24) = true then 1 else 0) + maskNum g [] (r.drop k) := by
  have e : r = r.take k ++ r.drop k := (List.take_append_drop k r).symm
  have hne : r.take k ≠ [] := by intro e; have := congrArg List.length e; rw [List.length_take, List.length_nil] at this; omega
  have hd : ∀ h : 0 < (r.drop k).length, (isL (r.drop k)[0] == isL r[0]) = false := by
    intro h; simp at h ⊢; have := hend (by omega); simpa using this
  cases hc : isL r[0] with
  | true =>
    have ha : (r.take k).all isL = true := by
      rw [List.all_eq_true] at hall ⊢
      intro x hx; have := hall x hx; rw [hc] at this; simpa using this
    have hd' : ∀ h : 0 < (r.drop k).length, isL (r.drop k)[0] = false := by intro h; have := hd h; rw [hc] at this; simpa using this
    have e1 := maskGo_letters g (r.take k) (r.drop k) ha hd'
    have e2 := maskNum_letters g (r.take k) (r.drop k) ha hne hd'
    rw [← e] at e1 e2
    exact ⟨by rw [e1]; simp, by rw [e2]; simp⟩
  | false =>
    have ha : (r.take k).all (fun c => !isL c) = true := by
      rw [List.all_eq_true] at hall ⊢
      intro x hx; have := hall x hx; rw [hc] at this; simpa using this
    have e1 := maskGo_others g (r.take k) (r.drop k) ha
    have e2 := maskNum_others g (r.take k) (r.drop k) ha
    rw [← e] at e1 e2
    exact ⟨by rw [e1]; simp, by rw [e2]; simp⟩
set_option maxHeartbeats 1000000 in
theorem rows_any (W mb : Nat) (ws : List (List UInt8)) (n0 : Nat) (o0 s : List UInt8) (w : World) (h : TI W mb ws n0 o0 w) (hlen : o0.length + s.length ≤ 2147483648) (hn : n0 + s.length ≤ 2147483648) :
    Calls Try.prog 22 #[S s, .func (.func 23) #[] #[.pointer (some ⟨W, 0, none⟩), .pointer (some ⟨W + 2, 0, none⟩), .pointer (some ⟨W + 1, 0, none⟩)]] w fun e w' => e = .returned (.tuple #[]) ∧
      TI W mb ws (n0 + maskNum (gone ws) [] s) (o0 ++ maskGo (gone ws) [] s) w' ∧ Below W w w' := by
  have HT0 := hid h
  clear h
  go_enter Try.func22, Try.ntmps22
  go_wp2_with fail
  go_loopw [0] (fun v wr => ∃ (r o : List UInt8) (n : Nat), v = S r ∧ TI W mb ws n o wr ∧ Hid (o0 ++ maskGo (gone ws) [] s = o ++ maskGo (gone ws) [] r) ∧ Hid (n0 + maskNum (gone ws) [] s = n + maskNum (gone ws) [] r) ∧ o.length + r.length ≤ 2147483648 ∧ n + r.length ≤ 2147483648 ∧ Below W w wr)
    (fun v _ => strLen v)
  case atStart => exact ⟨s, o0, n0, rfl, HT0.out, hid rfl, hid rfl, hlen, hn, Below.refl _ _⟩
  case round =>
    obtain ⟨r, o, n, rfl, hT, ho, hm, hl, hn2, hb⟩ := hrel
    have HT := hid hT
    clear hT
    by_cases h0 : 0 < r.length
    · go_wp2_with fail
      refine (mletter_any r[0] _).mono ?_
      rintro e w1 ⟨rfl, rfl⟩
      go_wp2_with fail
      go_loop [5] (fun i => ∃ k : Nat, 1 ≤ k ∧ k ≤ r.length ∧ i = N k ∧ Hid ((r.take k).all (fun c => isL c == isL r[0]) = true)) (fun i => r.length - (intOf i).toNat)
      case atStart => exact ⟨1, Nat.le_refl _, h0, rfl, hid (by rw [List.take_one]; cases r <;> simp_all)⟩
      case round =>
        obtain ⟨k, hk1, hk, rfl, hall⟩ := hrel
        by_cases hc : ∃ h : k < r.length, (isL r[k] == isL r[0]) = true
        · obtain ⟨hlt, hc⟩ := hc
          have HC := hid hc
          go_wp2_with fail
          refine (mletter_any r[k] _).mono ?_
          rintro e w1 ⟨rfl, rfl⟩
          go_wp2_with fail
          go_round
          case rel => exact ⟨k + 1, by omega, by omega, by go_num, hid (all_take_snoc _ _ _ hlt hall.out HC.out)⟩
          case measure => simp [intOf]; omega
        · have hend : ∀ h : k < r.length, (isL r[k] == isL r[0]) = false := by
            intro h; cases h2 : (isL r[k] == isL r[0]) with
            | false => rfl
            | true => exact absurd ⟨h, h2⟩ hc
          have HS := hid (row_step (gone ws) r k hk1 h0 hk hall.out hend)
          have HE := hid hend
          have HA := hid hall.out
          clear hc hend
          have key : ∀ wr', wr = wr' → Calls Try.prog 23 #[S (r.take k), .bool (isL r[0]), .pointer (some ⟨W, 0, none⟩), .pointer (some ⟨W + 2, 0, none⟩), .pointer (some ⟨W + 1, 0, none⟩)] wr' fun e w' => e = .returned (.tuple #[]) ∧
              ∃ o' n', TI W mb ws n' o' w' ∧ Below W wr w' ∧ o0 ++ maskGo (gone ws) [] s = o' ++ maskGo (gone ws) [] (r.drop k) ∧ n0 + maskNum (gone ws) [] s = n' + maskNum (gone ws) [] (r.drop k) ∧ o'.length = o.length + k ∧ n' ≤ n + 1 := by
            rintro _ rfl
            obtain ⟨e1, e2⟩ := HS.out
            have ho' := ho.out
            have hm' := hm.out
            rw [e1] at ho'
            rw [e2] at hm'
            have hne : r.take k ≠ [] := by intro e; have := congrArg List.length e; rw [List.length_take, List.length_nil] at this; omega
            by_cases hg : isL r[0] = true ∧ gone ws (((r.take k).map sm).take 24) = true
            · obtain ⟨hg1, hg2⟩ := hg
              have ha : (r.take k).all isL = true := by
                have hall := HA.out
                rw [List.all_eq_true] at hall ⊢
                intro x hx; have := hall x hx; rw [hg1] at this; simpa using this
              rw [hg1]
              refine (tx1_gone W mb ws n o (r.take k) wr HT.out (by simp; omega) (by omega) hne ha hg2).mono ?_
              rintro e w' ⟨he, h3, h4⟩
              refine ⟨he, _, _, h3, h4, ?_, ?_, by simp; omega, by omega⟩
              · rw [ho', if_pos hg1]; unfold maskRow; rw [if_pos hg2]; simp
              · rw [hm', if_pos ⟨hg1, hg2⟩]; omega
            · refine (tx1_plain W mb ws n o (r.take k) (isL r[0]) wr HT.out (by simp; omega) ?_).mono ?_
              · intro hl1
                refine ⟨hne, ?_, ?_⟩
                · have hall := HA.out
                  rw [List.all_eq_true] at hall ⊢
                  intro x hx; have := hall x hx; rw [hl1] at this; simpa using this
                · cases h : gone ws (((r.take k).map sm).take 24) with
                  | false => rfl
                  | true => exact absurd ⟨hl1, h⟩ hg
              · rintro e w' ⟨he, h3, h4⟩
                refine ⟨he, _, _, h3, h4, ?_, ?_, by simp; omega, by omega⟩
                · rw [ho']
                  by_cases hl1 : isL r[0] = true
                  · rw [if_pos hl1]; unfold maskRow; rw [if_neg (fun h => hg ⟨hl1, h⟩)]; simp
                  · rw [if_neg hl1]; simp
                · rw [hm', if_neg hg]; omega
          have KEY := hid key
          clear key
          by_cases hlt : k < r.length
          · have HC : Hid ((isL r[k] == isL r[0]) = false) := hid (HE.out hlt)
            have hc := HC.out
            go_wp2_with fail
            refine (mletter_any r[k] _).mono ?_
            rintro e w1 ⟨rfl, rfl⟩
            go_wp2_with fail
            rw [show (⟨r.toArray⟩ : ByteArray).extract 0 k = ⟨(r.take k).toArray⟩ from extract_head r k]
            refine (KEY.out _ rfl).mono ?_
            rintro e w2 ⟨rfl, o', n', h3, h4, h5, h6, h7, h8⟩
            have H3 := hid h3
            have H5 := hid h5
            have H6 := hid h6
            have H7 := hid h7
            clear h3 h5 h6 h7
            go_wp2_with fail
            go_roundw
            case rel => exact ⟨r.drop k, o', n', congrArg Value.string (extract_from _ _ _ (by omega)), H3.out, hid H5.out, hid H6.out, by rw [H7.out]; simp; omega, by simp; omega, hb.trans h4⟩
            case measure => simp [strLen, ByteArray.size]; omega
          · go_wp2_with fail
            rw [show (⟨r.toArray⟩ : ByteArray).extract 0 k = ⟨(r.take k).toArray⟩ from extract_head r k]
            refine (KEY.out _ rfl).mono ?_
            rintro e w2 ⟨rfl, o', n', h3, h4, h5, h6, h7, h8⟩
            have H3 := hid h3
            have H5 := hid h5
            have H6 := hid h6
            have H7 := hid h7
            clear h3 h5 h6 h7
            go_wp2_with fail
            go_roundw
            case rel => exact ⟨r.drop k, o', n', congrArg Value.string (extract_from _ _ _ (by omega)), H3.out, hid H5.out, hid H6.out, by rw [H7.out]; simp; omega, by simp; omega, hb.trans h4⟩
            case measure => simp [strLen, ByteArray.size]; omega
    · obtain rfl : r = [] := by cases r <;> simp_all
      go_wp2_with fail
      go_end0
      refine ⟨rfl, ?_, hb⟩
      have h1 := ho.out
      have h2 := hm.out
      rw [maskGo_nil, List.append_nil] at h1
      rw [maskNum_nil] at h2
      rw [h1, h2]
      exact HT.out

theorem text_any (mb : Nat) (ws : List (List UInt8)) (s : List UInt8) (w : World) (hset : SetAt Try.prog 9 w mb ws) (hn : s.length ≤ 1073741824) :
    Calls Try.prog 16 #[.map (some mb), S s] w fun e w' => e = .returned (.tuple #[S (maskGo (gone ws) [] s), N (maskNum (gone ws) [] s)]) ∧ Fr w w' := by
  have hmf : ∀ (fn : Fn) (first cap : Array Value) (w : World), (Instr.makeFunc fn first cap).run Try.prog w = .ok (.func fn first cap) w := fun _ _ _ _ => rfl
  go_enter Try.func16, Try.ntmps16
  go_wp2_with fail
  refine (rows_any w.heap.size mb ws 0 [] s _ ?hT (by simp; omega) (by omega)).mono ?_
  case hT =>
    refine ⟨?_, ⟨.pointer none, .slice none 0 0, ?_, .inl rfl, Own.nil⟩, ?_, ?_, hset.lt⟩
    · rw [heap_old _ _ _ (by simp; omega), heap_old _ _ _ (by simp), heap_new _ _ _ rfl]
    · rw [heap_old _ _ _ (by simp), heap_new _ _ _ (by simp)]
    · rw [heap_new _ _ _ (by simp)]; rfl
    · exact hset.fr ((((Fr.refl w).alloc _).alloc _).alloc _)
  rintro e w1 ⟨rfl, hT, hb⟩
  rw [Nat.zero_add, List.nil_append] at hT
  have hb1 : Fr w w1 := Below.trans ((((Fr.refl w).alloc _).alloc _).alloc _) hb
  have HT := hid hT
  clear hT
  go_wp2_with fail
  obtain ⟨p, v, h2, h3, h4⟩ := HT.out.2.1
  have h5 := HT.out.2.2.1
  have c2 : w1.cell? ⟨w.heap.size + 1 + 1, 0, none⟩ = some (N (maskNum (gone ws) [] s)) := by rw [cell_of_heap h5]; rfl
  have call : Calls Try.prog 27 #[.pointer (some ⟨w.heap.size + 1, 0, none⟩)] w1.drew fun e w' => e = .returned (S (maskGo (gone ws) [] s)) ∧ Fr w w' ∧ w'.cell? ⟨w.heap.size + 1 + 1, 0, none⟩ = some (N (maskNum (gone ws) [] s)) := by
    refine (bstr_any (w.heap.size + 1) (w.heap.size + 3) p v _ w1.drew h2 h3 h4.drew (by omega)).mono ?_
    rintro e' w3 ⟨he, hbb, ho⟩
    refine ⟨he, Below.trans hb1 (Below.mono (Below.trans (Below.drew (Below.refl _ _)) hbb) (by omega)), ?_⟩
    have := ho (w.heap.size + 2) (.cells #[N (maskNum (gone ws) [] s)] 3 (0, 0)) h5 (by simp) (by intro c fz; simp)
    rw [cell_of_heap this]; rfl
  have CALL := hid call
  clear call h2 h3 h4 h5
  go_region_with (go_at_call 27; refine (CALL.out).mono ?_; rintro e w3 ⟨rfl, hf3, hc3⟩)
  all_goals (try go_wp2_with fail)
  all_goals go_ret2
  all_goals exact ⟨rfl, hf3⟩
end Go.Proofs.Ytgckkemmabaffaa
