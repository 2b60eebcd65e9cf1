/- Walks of the laws of mask. -/
import Derived.Test.YtgckkemmabaffaaW37e
set_option linter.unusedVariables false
namespace Go.Proofs.Ytgckkemmabaffaa
open Go.RowKit Go.Fk

/-- the example's text, its word, what it is masked to -/
def exText : List UInt8 := [117, 115, 101, 114, 32, 98, 111, 98, 44, 32, 66, 111, 98, 50, 58, 32, 66, 79, 66]
def exWord : List UInt8 := [98, 111, 98]
def exOut : List UInt8 := [117, 115, 101, 114, 32, 42, 42, 42, 44, 32, 66, 111, 98, 50, 58, 32, 42, 42, 42]
theorem ex_masks : TextV exText (smalls [exWord]) = .tuple #[S exOut, N 0] := by kernel_rfl
theorem alive37 (w : World) : Calls Try.prog 6 #[] w fun e w' => e = .returned (.bool true) ∧ Fr w w' := by
  have hsee : See (w.alloc (.cells #[S exWord] 9)) eS (.slice (some ⟨w.heap.size, 0, none⟩) 1 1) [exWord] := see_new eS w [exWord] _ _ 1 rfl rfl (by unfold maxLen; decide)
  go_enter Try.func6, Try.ntmps6
  go_wp2_with fail
  refine (Text_any _ [exWord] exText _ hsee (by decide) (by decide)).mono ?_
  rintro e w1 ⟨he, hf⟩
  rw [ex_masks] at he
  subst he
  go_wp2_with fail
  go_ret
  exact ⟨rfl, ((Fr.refl w).alloc _).trans hf⟩
theorem MaskTexts_any (v : Value) (ws : List (List UInt8)) (s : List UInt8) (w : World) (hs : See w eS v ws) (hlen : s.length ≤ maxLen) :
    Calls Try.prog 4 #[S s, v] w fun e w' => e = .returned (.bool true) ∧ Fr w w' := by
  unfold maxLen at hlen
  by_cases h1 : 1000 < s.length
  · go_enter Try.func4, Try.ntmps4
    go_wp2_with fail
    refine (alive37 _).mono ?_
    rintro e w1 ⟨rfl, hf⟩
    go_wp2_with fail
    go_ret
    exact ⟨rfl, hf⟩
  by_cases h2 : 20 < ws.length
  · have H2 : Hid (decide (20 < ws.length) = true) := hid (decide_eq_true h2)
    go_enter Try.func4, Try.ntmps4
    go_wp2_with fail
    refine (alive37 _).mono ?_
    rintro e w1 ⟨rfl, hf⟩
    go_wp2_with fail
    refine (Great_any v ws _ (hs.fr hf)).mono ?_
    rintro e w1 ⟨he, rfl⟩
    rw [H2.out] at he
    subst he
    go_wp2_with fail
    go_ret
    exact ⟨rfl, hf⟩
  have H2 : Hid (decide (20 < ws.length) = false) := hid (decide_eq_false h2)
  cases ho : smalls ws with
  | none =>
    have HO := hid ho
    clear ho
    go_enter Try.func4, Try.ntmps4
    go_wp2_with fail
    refine (alive37 _).mono ?_
    rintro e w1 ⟨rfl, hf⟩
    go_wp2_with fail
    refine (Great_any v ws _ (hs.fr hf)).mono ?_
    rintro e w1 ⟨he, rfl⟩
    rw [H2.out] at he
    subst he
    go_wp2_with fail
    refine (Text_any v ws s _ (hs.fr hf) (by omega) (by omega)).mono ?_
    rintro e w2 ⟨he, hf2⟩
    rw [HO.out] at he
    subst he
    unfold TextV
    go_wp2_with fail
    refine (Count_any v ws s _ (hs.fr (hf.trans hf2)) (by omega) (by omega)).mono ?_
    rintro e w3 ⟨he, hf3⟩
    rw [HO.out] at he
    subst he
    unfold CountV
    go_wp2_with fail
    refine (rSmall_any v ws _ (hs.fr ((hf.trans hf2).trans hf3)) (by omega)).mono ?_
    rintro e w4 he
    rw [HO.out] at he
    obtain ⟨hf4, rfl⟩ := he
    go_wp2_with fail
    go_ret
    exact ⟨rfl, ((hf.trans hf2).trans hf3).trans hf4⟩
  | some sw =>
    have HO := hid ho
    clear ho
    go_enter Try.func4, Try.ntmps4
    go_wp2_with fail
    refine (alive37 _).mono ?_
    rintro e w1 ⟨rfl, hf⟩
    go_wp2_with fail
    refine (Great_any v ws _ (hs.fr hf)).mono ?_
    rintro e w1 ⟨he, rfl⟩
    rw [H2.out] at he
    subst he
    go_wp2_with fail
    refine (Text_any v ws s _ (hs.fr hf) (by omega) (by omega)).mono ?_
    rintro e w2 ⟨he, hf2⟩
    rw [HO.out] at he
    subst he
    unfold TextV
    go_wp2_with fail
    refine (Count_any v ws s _ (hs.fr (hf.trans hf2)) (by omega) (by omega)).mono ?_
    rintro e w3 ⟨he, hf3⟩
    rw [HO.out] at he
    subst he
    unfold CountV
    go_wp2_with fail
    refine (rSmall_any v ws _ (hs.fr ((hf.trans hf2).trans hf3)) (by omega)).mono ?_
    rintro e w4 he
    rw [HO.out] at he
    obtain ⟨hf4, sv, rfl, hown⟩ := he
    go_wp2_with fail
    refine (rText_any sv sw s _ hown.see (by omega)).mono ?_
    rintro e w5 ⟨rfl, hf5⟩
    go_wp2_with fail
    go_ret
    exact ⟨rfl, (((hf.trans hf2).trans hf3).trans hf4).trans hf5⟩

theorem smalls_append (a b sa : List (List UInt8)) (ha : smalls a = some sa) : smalls (b ++ a) = (smalls b).map (· ++ sa) := by
  unfold smalls at *
  split at ha
  · next h =>
    have := Option.some.inj ha; subst this
    by_cases hb : b.all (fun s => (oneOf s).isSome) = true
    · rw [if_pos (by rw [List.all_append, hb, h]; rfl), if_pos hb]; simp
    · rw [if_neg (by rw [List.all_append, h]; simpa using hb), if_neg hb]; rfl
  · cases ha
theorem parts_eq (a b sa : List (List UInt8)) (s : List UInt8) (ha : smalls a = some sa) : TextV (maskGo (gone sa) [] s) (smalls b) = TextV s (smalls (b ++ a)) := by
  rw [smalls_append a b sa ha]
  cases smalls b with
  | none => rfl
  | some sb =>
    show Value.tuple #[S (maskGo (gone sb) [] (maskGo (gone sa) [] s)), N 0] = Value.tuple #[S (maskGo (gone (sb ++ sa)) [] s), N 0]
    rw [mask_mask _ _ s [] rfl]
    have : (fun w => gone sb w || gone sa w) = gone (sb ++ sa) := by funext w; simp [gone]
    rw [this]
theorem TextV_shape (s : List UInt8) (o : Option (List (List UInt8))) : ∃ r k, TextV s o = .tuple #[S r, N k] := by
  cases o with
  | none => exact ⟨_, _, rfl⟩
  | some sw => exact ⟨_, _, rfl⟩
theorem maskGo_length (g : List UInt8 → Bool) : ∀ (s row : List UInt8), (maskGo g row s).length = row.length + s.length := by
  intro s
  induction s with
  | nil => intro row; rw [maskGo, maskRow_length]; simp
  | cons c r ih =>
    intro row
    rw [maskGo]
    split
    · rw [ih]; simp; omega
    · rw [List.length_append, maskRow_length, List.length_cons, ih]; simp
theorem MaskParts_any (va vb : Value) (a b : List (List UInt8)) (s : List UInt8) (w : World) (hsa : See w eS va a) (hsb : See w eS vb b) (hlen : s.length ≤ maxLen) :
    Calls Try.prog 3 #[S s, va, vb] w fun e w' => e = .returned (.bool true) ∧ Fr w w' := by
  unfold maxLen at hlen
  by_cases h1 : 1000 < s.length
  · go_enter Try.func3, Try.ntmps3
    go_wp2_with fail
    refine (alive37 _).mono ?_
    rintro e w1 ⟨rfl, hf⟩
    go_wp2_with fail
    go_ret
    exact ⟨rfl, hf⟩
  by_cases h2 : 20 < a.length
  · have H2 : Hid (decide (20 < a.length) = true) := hid (decide_eq_true h2)
    go_enter Try.func3, Try.ntmps3
    go_wp2_with fail
    refine (alive37 _).mono ?_
    rintro e w1 ⟨rfl, hf⟩
    go_wp2_with fail
    refine (Great_any va a _ (hsa.fr hf)).mono ?_
    rintro e w1 ⟨he, rfl⟩
    rw [H2.out] at he
    subst he
    go_wp2_with fail
    go_ret
    exact ⟨rfl, hf⟩
  have H2 : Hid (decide (20 < a.length) = false) := hid (decide_eq_false h2)
  by_cases h3 : 20 < b.length
  · have H3 : Hid (decide (20 < b.length) = true) := hid (decide_eq_true h3)
    go_enter Try.func3, Try.ntmps3
    go_wp2_with fail
    refine (alive37 _).mono ?_
    rintro e w1 ⟨rfl, hf⟩
    go_wp2_with fail
    refine (Great_any va a _ (hsa.fr hf)).mono ?_
    rintro e w1 ⟨he, rfl⟩
    rw [H2.out] at he
    subst he
    go_wp2_with fail
    refine (Great_any vb b _ (hsb.fr hf)).mono ?_
    rintro e w1 ⟨he, rfl⟩
    rw [H3.out] at he
    subst he
    go_wp2_with fail
    go_ret
    exact ⟨rfl, hf⟩
  have H3 : Hid (decide (20 < b.length) = false) := hid (decide_eq_false h3)
  cases ho : smalls a with
  | none =>
    have HO := hid ho
    clear ho
    go_enter Try.func3, Try.ntmps3
    go_wp2_with fail
    refine (alive37 _).mono ?_
    rintro e w1 ⟨rfl, hf⟩
    go_wp2_with fail
    refine (Great_any va a _ (hsa.fr hf)).mono ?_
    rintro e w1 ⟨he, rfl⟩
    rw [H2.out] at he
    subst he
    go_wp2_with fail
    refine (Great_any vb b _ (hsb.fr hf)).mono ?_
    rintro e w1 ⟨he, rfl⟩
    rw [H3.out] at he
    subst he
    go_wp2_with fail
    refine (Text_any va a s _ (hsa.fr hf) (by omega) (by omega)).mono ?_
    rintro e w2 ⟨he, hf2⟩
    rw [HO.out] at he
    subst he
    unfold TextV
    go_wp2_with fail
    go_ret
    exact ⟨rfl, hf.trans hf2⟩
  | some sa =>
    have HO := hid ho
    have HE := hid (parts_eq a b sa s ho)
    clear ho
    go_enter Try.func3, Try.ntmps3
    go_wp2_with fail
    refine (alive37 _).mono ?_
    rintro e w1 ⟨rfl, hf⟩
    go_wp2_with fail
    refine (Great_any va a _ (hsa.fr hf)).mono ?_
    rintro e w1 ⟨he, rfl⟩
    rw [H2.out] at he
    subst he
    go_wp2_with fail
    refine (Great_any vb b _ (hsb.fr hf)).mono ?_
    rintro e w1 ⟨he, rfl⟩
    rw [H3.out] at he
    subst he
    go_wp2_with fail
    refine (Text_any va a s _ (hsa.fr hf) (by omega) (by omega)).mono ?_
    rintro e w2 ⟨he, hf2⟩
    rw [HO.out] at he
    subst he
    unfold TextV
    have hf02 := hf.trans hf2
    go_wp2_with fail
    refine (Text_any vb b (maskGo (gone sa) [] s) _ (hsb.fr hf02) (by omega) (by rw [maskGo_length]; simp; omega)).mono ?_
    rintro e w3 ⟨he, hf3⟩
    obtain ⟨r, k, hrk⟩ := TextV_shape (maskGo (gone sa) [] s) (smalls b)
    have HRK : Hid (TextV s (smalls (b ++ a)) = .tuple #[S r, N k]) := by show _ = _; rw [← HE.out, hrk]
    rw [hrk] at he
    clear hrk
    subst he
    have hf03 := hf02.trans hf3
    go_wp2_with (at_builtin; refine wpList_app eS rfl (.tmp 41) (.tmp 42) 22 rfl Try.underlying22 w3.heap.size rfl Own.nil _ b rfl (hsb.fr hf03) ?c1 ?c2 ?_)
    case c1 => simp only [List.length_nil]; omega
    case c2 => exact Nat.le_refl _
    intro v1 w4 ha4
    have hf4 : Fr w3 w4 := ha4.below Own.nil (Below.refl _ _) (Nat.le_refl _) (Nat.le_refl _)
    have hf04 := hf03.trans hf4
    go_wp2_with (at_builtin; refine wpList_app eS rfl (.tmp 43) (.tmp 44) 22 rfl Try.underlying22 w3.heap.size rfl ha4.own _ a rfl (hsa.fr hf04) ?c3 ?c4 ?_)
    case c3 => omega
    case c4 => exact hf4.size
    intro v2 w5 ha5
    have hf5 : Fr w3 w5 := ha5.below ha4.own hf4 (Nat.le_refl _) hf4.size
    have hf05 := hf03.trans hf5
    go_wp2_with fail
    refine (Text_any v2 (b ++ a) s _ ha5.own.see (by simp; omega) (by omega)).mono ?_
    rintro e w6 ⟨he, hf6⟩
    rw [HRK.out] at he
    subst he
    go_wp2_with fail
    go_ret
    exact ⟨rfl, hf05.trans hf6⟩
end Go.Proofs.Ytgckkemmabaffaa
