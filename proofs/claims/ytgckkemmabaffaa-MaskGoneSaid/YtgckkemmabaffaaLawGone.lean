/- Walk of the law MaskGone. -/
import Derived.Test.YtgckkemmabaffaaLaw37
import Derived.Test.YtgckkemmabaffaaW15c
import Derived.Test.YtgckkemmabaffaaW15d
set_option linter.unusedVariables false
namespace Go.Proofs.Ytgckkemmabaffaa
open Go.RowKit Go.Fk

/-- the words that stay -/
def kept (sw : List (List UInt8)) (l : List (List UInt8)) : List (List UInt8) := l.filter fun w => !gone sw w
theorem kept_snoc (sw l : List (List UInt8)) (k : Nat) (h : k < l.length) (hg : gone sw l[k] = false) : kept sw (l.take (k + 1)) = kept sw (l.take k) ++ [l[k]] := by
  unfold kept; rw [List.take_succ_eq_append_getElem h, List.filter_append]; simp [hg]
theorem kept_skip (sw l : List (List UInt8)) (k : Nat) (h : k < l.length) (hg : gone sw l[k] = true) : kept sw (l.take (k + 1)) = kept sw (l.take k) := by
  unfold kept; rw [List.take_succ_eq_append_getElem h, List.filter_append]; simp [hg]
theorem kept_le (sw l : List (List UInt8)) : (kept sw l).length ≤ l.length := List.length_filter_le _ _
theorem wordsGo_le : ∀ (s row : List UInt8), (wordsGo row s).length ≤ s.length + 1 := by
  intro s
  induction s with
  | nil => intro row; unfold wordsGo; split <;> simp
  | cons c s ih =>
    intro row; unfold wordsGo; split
    · have := ih (row ++ [c]); simp; omega
    · have := ih []; split <;> simp <;> omega
set_option maxHeartbeats 1000000 in
theorem MaskGone_any (v : Value) (ws : List (List UInt8)) (s : List UInt8) (w : World) (hs : See w eS v ws) (hlen : s.length ≤ maxLen) :
    Calls Try.prog 5 #[S s, v] w fun e w' => e = .returned (.bool true) ∧ Fr w w' := by
  unfold maxLen at hlen
  by_cases h1 : 1000 < s.length
  · go_enter Try.func5, Try.ntmps5
    go_wp2_with fail
    refine (alive37 _).mono ?_
    rintro e w1 ⟨rfl, hf⟩
    go_wp2_with fail
    go_ret
    exact ⟨rfl, hf⟩
  by_cases h2 : 20 < ws.length
  · have H2 : Hid (decide (20 < ws.length) = true) := hid (decide_eq_true h2)
    go_enter Try.func5, Try.ntmps5
    go_wp2_with fail
    refine (alive37 _).mono ?_
    rintro e w1 ⟨rfl, hf⟩
    go_wp2_with fail
    refine (Great_any v ws _ (hs.fr hf)).mono ?_
    rintro e w1 ⟨he, rfl⟩
    rw [H2.out] at he
    subst he
    go_wp2_with fail
    go_ret
    exact ⟨rfl, hf⟩
  have H2 : Hid (decide (20 < ws.length) = false) := hid (decide_eq_false h2)
  cases ho : smalls ws with
  | none =>
    have HO := hid ho
    clear ho
    go_enter Try.func5, Try.ntmps5
    go_wp2_with fail
    refine (alive37 _).mono ?_
    rintro e w1 ⟨rfl, hf⟩
    go_wp2_with fail
    refine (Great_any v ws _ (hs.fr hf)).mono ?_
    rintro e w1 ⟨he, rfl⟩
    rw [H2.out] at he
    subst he
    go_wp2_with fail
    refine (Text_any v ws s _ (hs.fr hf) (by omega) (by omega)).mono ?_
    rintro e w2 ⟨he, hf2⟩
    rw [HO.out] at he
    subst he
    unfold TextV
    go_wp2_with fail
    go_ret
    exact ⟨rfl, hf.trans hf2⟩
  | some sw =>
    have HO := hid ho
    clear ho
    have hx := maskGo_length (gone sw) s []
    rw [List.length_nil, Nat.zero_add] at hx
    have HW : Hid (wordsOf (maskGo (gone sw) [] s) = kept sw (wordsOf s)) := words_mask (gone sw) s [] rfl
    have HN : Hid (((maskNum (gone sw) [] s : Nat) : Int) = ((wordsOf s).length : Int) - (kept sw (wordsOf s)).length) := by
      have h3 := maskNum_words (gone sw) s []
      have h4 := filter_both (gone sw) (wordsOf s)
      show _ = _
      unfold kept
      rw [h3]
      unfold wordsOf at h4 ⊢
      omega
    obtain ⟨x, hxs⟩ : ∃ x, maskGo (gone sw) [] s = x := ⟨_, rfl⟩
    have HTV : Hid (TextV s (some sw) = .tuple #[S x, N 0]) := by show _ = _; rw [← hxs]; rfl
    have HTV2 : Hid (TextV x (some sw) = .tuple #[S x, N 0]) := by
      show Value.tuple #[S (maskGo (gone sw) [] x), N 0] = _
      rw [← hxs, mask_again]
    rw [hxs] at HW hx
    clear hxs
    have hwl : (wordsOf s).length ≤ 1001 := by have := wordsGo_le s []; unfold wordsOf; omega
    go_enter Try.func5, Try.ntmps5
    go_wp2_with fail
    refine (alive37 _).mono ?_
    rintro e w1 ⟨rfl, hf⟩
    go_wp2_with fail
    refine (Great_any v ws _ (hs.fr hf)).mono ?_
    rintro e w1 ⟨he, rfl⟩
    rw [H2.out] at he
    subst he
    go_wp2_with fail
    refine (Text_any v ws s _ (hs.fr hf) (by omega) (by omega)).mono ?_
    rintro e w2 ⟨he, hf2⟩
    rw [HO.out, HTV.out] at he
    subst he
    have hf02 := hf.trans hf2
    go_wp2_with fail
    refine (rSmall_any v ws _ (hs.fr hf02) (by omega)).mono ?_
    rintro e w3 he
    rw [HO.out] at he
    obtain ⟨hf3, sv, rfl, hown⟩ := he
    have hf03 := hf02.trans hf3
    go_wp2_with fail
    refine (Words_any s _ (by omega)).mono ?_
    rintro e w4 ⟨wv, rfl, hwas, hf4⟩
    have hf04 := hf03.trans hf4
    go_wp2_with fail
    refine (Words_any x _ (by omega)).mono ?_
    rintro e w5 ⟨nv, rfl, hnow, hf5⟩
    rw [HW.out] at hnow
    have hf05 := hf04.trans hf5
    have hsv := ((hown.fr hf4).fr hf5).see
    have hwas5 := (hwas.fr hf5).see
    obtain ⟨a9, cap9, rfl, hc9, hm9, _⟩ := hwas5.shape
    unfold maxLen at hm9
    go_wp2_with fail
    go_loopw [11, 12] (fun ov iv wr => ∃ k : Nat, k ≤ (wordsOf s).length ∧ iv = N k ∧ Own wr w5.heap.size eS ov (kept sw ((wordsOf s).take k)) ∧ Fr w5 wr) (fun _ iv _ => (wordsOf s).length - (intOf iv).toNat)
    case atStart => exact ⟨0, Nat.zero_le _, rfl, Own.nil, Fr.refl _⟩
    case round =>
      obtain ⟨k, hk, rfl, hwant, hfr⟩ := hrel
      by_cases hlt : k < (wordsOf s).length
      · obtain ⟨b, off, cap', hv, _, _, hc⟩ := (hwas5.fr hfr).at1 S rfl (by intro e; simp [e] at hlt)
        simp only [Value.slice.injEq] at hv
        obtain ⟨rfl, _, rfl⟩ := hv
        have hck := hc k hlt
        clear hc
        obtain ⟨y, hy⟩ : ∃ y, (wordsOf s)[k] = y := ⟨_, rfl⟩
        rw [hy] at hck
        have HY := hid hy
        clear hy
        cases hg : gone sw y with
        | true =>
          have HG : Hid (decide (y ∈ sw) = true) := hg
          have HS := hid (kept_skip sw (wordsOf s) k hlt (by rw [HY.out]; exact hg))
          clear hg
          go_wp2_with fail
          refine (rHas_any sv sw y _ (hsv.fr hfr)).mono ?_
          rintro e w6 ⟨he, rfl⟩
          rw [HG.out] at he
          subst he
          go_wp2_with fail
          go_roundw
          case rel => exact ⟨k + 1, by omega, by go_num, by rw [HS.out]; exact hwant, hfr⟩
          case measure => simp [intOf]; omega
        | false =>
          have HG : Hid (decide (y ∈ sw) = false) := hg
          have HS := hid (kept_snoc sw (wordsOf s) k hlt (by rw [HY.out]; exact hg))
          have hkl := kept_le sw ((wordsOf s).take k)
          clear hg
          go_wp2_with fail
          refine (rHas_any sv sw y _ (hsv.fr hfr)).mono ?_
          rintro e w6 ⟨he, rfl⟩
          rw [HG.out] at he
          subst he
          go_wp2_with (at_builtin; refine wpList_app1 eS rfl (.tmp 58) (.tmp 63) 22 rfl Try.underlying22 w5.heap.size rfl hwant [y] _ _ _ rfl rfl rfl ?c1 ?c2 ?_)
          case c1 => simp at hkl ⊢; omega
          case c2 => exact hfr.size
          intro v' w7 ha
          go_wp2_with fail
          go_roundw
          case rel => exact ⟨k + 1, by omega, by go_num, by rw [HS.out, HY.out]; exact ha.own, ha.below hwant hfr (Nat.le_refl _) hfr.size⟩
          case measure => simp [intOf]; omega
      · have e1 : (wordsOf s).take k = wordsOf s := List.take_of_length_le (by omega)
        rw [e1] at hwant
        have hf06 := hf05.trans hfr
        obtain ⟨a11, cap11, rfl⟩ := hwant.shape'
        have hkl := kept_le sw (wordsOf s)
        go_wp2_with fail
        refine (Text_any v ws x _ (hs.fr hf06) (by omega) (by omega)).mono ?_
        rintro e w6 ⟨he, hf6⟩
        rw [HO.out, HTV2.out] at he
        subst he
        have hf07 := hf06.trans hf6
        go_wp2_with fail
        refine (Count_any v ws s _ (hs.fr hf07) (by omega) (by omega)).mono ?_
        rintro e w7 ⟨he, hf7⟩
        rw [HO.out] at he
        subst he
        unfold CountV
        have hf08 := hf07.trans hf7
        have hnow7 := ((hnow.fr hfr).fr hf6).fr hf7
        have hwant7 := (hwant.fr hf6).fr hf7
        have HT : Hid ((((maskNum (gone sw) [] s : Nat) : Int) == ((wordsOf s).length : Int) - (kept sw (wordsOf s)).length) = true) := by show _ = _; rw [HN.out]; simp
        have ht := HT.out
        go_wp2_with fail
        refine (rSame15_any nv _ _ _ _ hnow7.see hwant7.see).mono ?_
        rintro e w8 ⟨he, hq8⟩
        rw [decide_eq_true rfl] at he
        subst he
        go_wp2_with fail
        go_ret
        exact ⟨rfl, hf08.trans hq8.fr⟩
end Go.Proofs.Ytgckkemmabaffaa
