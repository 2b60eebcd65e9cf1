/- Plain words of layer 15 and 37: letters, words, texts masked. No program. -/
import Derived.WalkKit
set_option linter.unusedVariables false
namespace Go.Fk

/-- a letter -/
def isL (c : UInt8) : Bool := decide (65 ≤ c.toNat ∧ c.toNat ≤ 90) || decide (97 ≤ c.toNat ∧ c.toNat ≤ 122) || decide (48 ≤ c.toNat ∧ c.toNat ≤ 57)
/-- a letter made small -/
def sm (c : UInt8) : UInt8 := if 65 ≤ c.toNat ∧ c.toNat ≤ 90 then c + 32 else c
/-- small, or 0 -/
def sml (c : UInt8) : UInt8 := if isL c then sm c else 0
/-- one word by itself -/
def oneOf (l : List UInt8) : Option (List UInt8) := if l ≠ [] ∧ l.length ≤ 24 ∧ l.all isL = true then some (l.map sm) else none

theorem isL_iff (c : UInt8) : isL c = true ↔ (65 ≤ c.toNat ∧ c.toNat ≤ 90) ∨ (97 ≤ c.toNat ∧ c.toNat ≤ 122) ∨ (48 ≤ c.toNat ∧ c.toNat ≤ 57) := by
  simp only [isL, Bool.or_eq_true, decide_eq_true_eq]; omega
theorem isL_not (c : UInt8) : isL c = false ↔ ¬ ((65 ≤ c.toNat ∧ c.toNat ≤ 90) ∨ (97 ≤ c.toNat ∧ c.toNat ≤ 122) ∨ (48 ≤ c.toNat ∧ c.toNat ≤ 57)) := by
  rw [← isL_iff]; simp
theorem sm_toNat (c : UInt8) : (sm c).toNat = if 65 ≤ c.toNat ∧ c.toNat ≤ 90 then c.toNat + 32 else c.toNat := by
  unfold sm; split
  · rw [UInt8.toNat_add]; have : (32 : UInt8).toNat = 32 := rfl; rw [this]; omega
  · rfl
theorem isL_sm (c : UInt8) (h : isL c = true) : isL (sm c) = true := by
  rw [isL_iff] at h ⊢; rw [sm_toNat]; split <;> omega
theorem sm_sm (c : UInt8) : sm (sm c) = sm c := by
  have h1 := sm_toNat (sm c)
  have h2 := sm_toNat c
  apply UInt8.toNat_inj.1
  rw [h1]; split
  · next h => rw [h2] at h; split at h <;> omega
  · rfl
theorem sm_ne_zero (c : UInt8) (h : isL c = true) : sm c ≠ 0 := by
  intro e
  have := congrArg UInt8.toNat e
  rw [sm_toNat] at this
  rw [isL_iff] at h
  have z : (0 : UInt8).toNat = 0 := rfl
  split at this <;> omega
theorem sml_eq_zero (c : UInt8) : sml c = 0 ↔ isL c = false := by
  unfold sml; constructor
  · intro h
    cases h2 : isL c with
    | false => rfl
    | true => rw [h2, if_pos rfl] at h; exact absurd h (sm_ne_zero c h2)
  · intro h; simp [h]

/-- a row of letters, masked where its word is one that goes -/
def maskRow (g : List UInt8 → Bool) (row : List UInt8) : List UInt8 := if g ((row.map sm).take 24) then List.replicate row.length 42 else row
/-- a text masked; row: the letters that stand ahead -/
def maskGo (g : List UInt8 → Bool) : List UInt8 → List UInt8 → List UInt8
  | row, [] => maskRow g row
  | row, c :: r => if isL c then maskGo g (row ++ [c]) r else maskRow g row ++ c :: maskGo g [] r
/-- how many rows are masked -/
def maskNum (g : List UInt8 → Bool) : List UInt8 → List UInt8 → Nat
  | row, [] => if row ≠ [] ∧ g ((row.map sm).take 24) = true then 1 else 0
  | row, c :: r => if isL c then maskNum g (row ++ [c]) r else (if row ≠ [] ∧ g ((row.map sm).take 24) = true then 1 else 0) + maskNum g [] r
/-- words of a text -/
def wordsGo : List UInt8 → List UInt8 → List (List UInt8)
  | row, [] => if row = [] then [] else [(row.map sm).take 24]
  | row, c :: r => if isL c then wordsGo (row ++ [c]) r else (if row = [] then [] else [(row.map sm).take 24]) ++ wordsGo [] r
def wordsOf (l : List UInt8) : List (List UInt8) := wordsGo [] l

theorem maskGo_row (g : List UInt8 → Bool) : ∀ (p row r : List UInt8), p.all isL = true → maskGo g row (p ++ r) = maskGo g (row ++ p) r := by
  intro p
  induction p with
  | nil => intro row r _; simp
  | cons c p ih =>
    intro row r h
    rw [List.all_cons, Bool.and_eq_true] at h
    rw [List.cons_append, maskGo, if_pos h.1, ih _ _ h.2]
    simp
theorem maskNum_row (g : List UInt8 → Bool) : ∀ (p row r : List UInt8), p.all isL = true → maskNum g row (p ++ r) = maskNum g (row ++ p) r := by
  intro p
  induction p with
  | nil => intro row r _; simp
  | cons c p ih =>
    intro row r h
    rw [List.all_cons, Bool.and_eq_true] at h
    rw [List.cons_append, maskNum, if_pos h.1, ih _ _ h.2]
    simp
theorem maskRow_nil (g : List UInt8 → Bool) : maskRow g [] = [] := by unfold maskRow; split <;> rfl
theorem maskGo_nil (g : List UInt8 → Bool) : maskGo g [] [] = [] := maskRow_nil g
theorem maskNum_nil (g : List UInt8 → Bool) : maskNum g [] [] = 0 := by simp [maskNum]
/-- behind a row of letters -/
theorem maskGo_letters (g : List UInt8 → Bool) (p r : List UInt8) (hp : p.all isL = true) (hr : ∀ h : 0 < r.length, isL r[0] = false) : maskGo g [] (p ++ r) = maskRow g p ++ maskGo g [] r := by
  rw [maskGo_row g p [] r hp]
  cases r with
  | nil => simp [maskGo, maskRow_nil]
  | cons c r =>
    have := hr (by simp)
    rw [List.getElem_cons_zero] at this
    simp [maskGo, this, maskRow_nil]
theorem maskNum_letters (g : List UInt8 → Bool) (p r : List UInt8) (hp : p.all isL = true) (h0 : p ≠ []) (hr : ∀ h : 0 < r.length, isL r[0] = false) : maskNum g [] (p ++ r) = (if g ((p.map sm).take 24) = true then 1 else 0) + maskNum g [] r := by
  rw [maskNum_row g p [] r hp]
  cases r with
  | nil => simp [maskNum, h0]
  | cons c r =>
    have := hr (by simp)
    rw [List.getElem_cons_zero] at this
    simp [maskNum, this, h0]
/-- what stands between stays -/
theorem maskGo_others (g : List UInt8 → Bool) : ∀ (p r : List UInt8), p.all (fun c => !isL c) = true → maskGo g [] (p ++ r) = p ++ maskGo g [] r := by
  intro p
  induction p with
  | nil => intro r _; rfl
  | cons c p ih =>
    intro r h
    rw [List.all_cons, Bool.and_eq_true] at h
    have hc : isL c = false := by simpa using h.1
    rw [List.cons_append, maskGo, hc, ih _ h.2, maskRow_nil]
    rfl
theorem maskNum_others (g : List UInt8 → Bool) : ∀ (p r : List UInt8), p.all (fun c => !isL c) = true → maskNum g [] (p ++ r) = maskNum g [] r := by
  intro p
  induction p with
  | nil => intro r _; rfl
  | cons c p ih =>
    intro r h
    rw [List.all_cons, Bool.and_eq_true] at h
    have hc : isL c = false := by simpa using h.1
    rw [List.cons_append, maskNum, hc, ih _ h.2]
    simp
theorem maskRow_length (g : List UInt8 → Bool) (p : List UInt8) : (maskRow g p).length = p.length := by unfold maskRow; split <;> simp
theorem maskNum_le (g : List UInt8 → Bool) : ∀ (l row : List UInt8), maskNum g row l ≤ row.length + l.length := by
  intro l
  induction l with
  | nil =>
    intro row; unfold maskNum; split
    · next h => have := List.length_pos_iff.2 h.1; simp; omega
    · omega
  | cons c l ih =>
    intro row; unfold maskNum; split
    · have := ih (row ++ [c]); simp at this ⊢; omega
    · have := ih []; simp at this ⊢
      split
      · next h => have := List.length_pos_iff.2 h.1; omega
      · omega

theorem star_not : isL 42 = false := by decide
/-- masked for words one behind the other -/
theorem mask_mask (gA gB : List UInt8 → Bool) : ∀ (s row : List UInt8), row.all isL = true → maskGo gB [] (maskGo gA row s) = maskGo (fun w => gB w || gA w) row s := by
  have key : ∀ (row t : List UInt8), row.all isL = true → (∀ h : 0 < t.length, isL t[0] = false) → maskGo gB [] (maskRow gA row ++ t) = maskRow (fun w => gB w || gA w) row ++ maskGo gB [] t := by
    intro row t hr ht
    unfold maskRow
    by_cases h : gA ((row.map sm).take 24) = true
    · rw [if_pos h, if_pos (by simp [h]), maskGo_others _ _ _ (by rw [List.all_eq_true]; intro x hx; rw [(List.mem_replicate.1 hx).2]; rfl)]
    · rw [if_neg h, maskGo_letters _ _ _ hr ht]
      unfold maskRow
      simp [h]
  intro s
  induction s with
  | nil =>
    intro row hr
    have := key row [] hr (by intro h; simp at h)
    rw [List.append_nil, maskGo_nil, List.append_nil] at this
    rw [maskGo, this]; rfl
  | cons c r ih =>
    intro row hr
    cases hc : isL c with
    | true =>
      rw [maskGo, if_pos hc, maskGo, if_pos hc]
      exact ih _ (by rw [List.all_append, hr]; simp [hc])
    | false =>
      rw [maskGo, hc, maskGo, hc]
      simp only [Bool.false_eq_true, if_false]
      rw [key row _ hr (by intro _; simpa using hc), maskGo, hc, maskRow_nil]
      simp only [Bool.false_eq_true, if_false]
      rw [ih [] rfl]; rfl

/-- the words of a row of letters, as they go -/
def rowWs (row : List UInt8) : List (List UInt8) := if row = [] then [] else [(row.map sm).take 24]
theorem wordsGo_stars (n : Nat) (t : List UInt8) (ht : ∀ h : 0 < t.length, isL t[0] = false) : wordsGo [] (List.replicate n 42 ++ t) = wordsGo [] t := by
  induction n with
  | zero => rfl
  | succ n ih => rw [List.replicate_succ, List.cons_append, wordsGo, show isL 42 = false from rfl]; simpa using ih
theorem wordsGo_letters : ∀ (p row t : List UInt8), p.all isL = true → wordsGo row (p ++ t) = wordsGo (row ++ p) t := by
  intro p
  induction p with
  | nil => intro row t _; simp
  | cons c p ih =>
    intro row t h
    rw [List.all_cons, Bool.and_eq_true] at h
    rw [List.cons_append, wordsGo, if_pos h.1, ih _ _ h.2]
    simp
theorem wordsGo_stop (row t : List UInt8) (ht : ∀ h : 0 < t.length, isL t[0] = false) : wordsGo row t = rowWs row ++ wordsGo [] t := by
  cases t with
  | nil => simp [wordsGo, rowWs]
  | cons c t =>
    have := ht (by simp)
    rw [List.getElem_cons_zero] at this
    simp [wordsGo, this, rowWs]
/-- the words of what was masked -/
theorem words_mask (g : List UInt8 → Bool) : ∀ (s row : List UInt8), row.all isL = true → wordsGo [] (maskGo g row s) = (wordsGo row s).filter (fun w => !g w) := by
  have key : ∀ (row t : List UInt8), row.all isL = true → (∀ h : 0 < t.length, isL t[0] = false) → wordsGo [] (maskRow g row ++ t) = (rowWs row).filter (fun w => !g w) ++ wordsGo [] t := by
    intro row t hr ht
    unfold maskRow
    by_cases h0 : row = []
    · subst h0; simp [rowWs]
    by_cases h : g ((row.map sm).take 24) = true
    · rw [if_pos h, wordsGo_stars _ _ ht]; simp [rowWs, h0, h]
    · rw [if_neg h, wordsGo_letters _ _ _ hr, List.nil_append, wordsGo_stop _ _ ht]; simp [rowWs, h0, h]
  intro s
  induction s with
  | nil =>
    intro row hr
    have := key row [] hr (by intro h; simp at h)
    rw [List.append_nil] at this
    rw [maskGo, this, wordsGo_stop row [] (by intro h; simp at h)]
    simp [wordsGo]
  | cons c r ih =>
    intro row hr
    cases hc : isL c with
    | true =>
      rw [maskGo, if_pos hc, wordsGo, if_pos hc]
      exact ih _ (by rw [List.all_append, hr]; simp [hc])
    | false =>
      rw [maskGo, hc]
      simp only [Bool.false_eq_true, if_false]
      rw [key row _ hr (by intro _; simpa using hc), wordsGo_stop row (c :: r) (by intro _; simpa using hc), List.filter_append]
      congr 1
      rw [wordsGo, hc, wordsGo, hc]
      simp only [Bool.false_eq_true, if_false, if_pos, List.nil_append]
      exact ih [] rfl
theorem maskNum_words (g : List UInt8 → Bool) : ∀ (s row : List UInt8), maskNum g row s = ((wordsGo row s).filter g).length := by
  intro s
  induction s with
  | nil =>
    intro row
    unfold maskNum wordsGo
    by_cases h0 : row = []
    · simp [h0]
    · by_cases h : g ((row.map sm).take 24) = true <;> simp [h0, h]
  | cons c r ih =>
    intro row
    unfold maskNum wordsGo
    split
    · exact ih _
    · rw [ih]
      by_cases h0 : row = []
      · simp [h0]
      · by_cases h : g ((row.map sm).take 24) = true <;> simp [h0, h]
        omega
theorem filter_both {α : Type} (g : α → Bool) (l : List α) : (l.filter g).length + (l.filter fun x => !g x).length = l.length := by
  induction l with
  | nil => rfl
  | cons x l ih => by_cases h : g x = true <;> simp [h] <;> omega
theorem mask_again (g : List UInt8 → Bool) (s : List UInt8) : maskGo g [] (maskGo g [] s) = maskGo g [] s := by
  rw [mask_mask g g s [] rfl]
  congr 1
  funext w; simp
end Go.Fk
