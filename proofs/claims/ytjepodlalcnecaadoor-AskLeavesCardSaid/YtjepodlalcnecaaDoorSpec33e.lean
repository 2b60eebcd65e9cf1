/- Plain words of layer 33: a line read. No program. -/
import Derived.Test.YtjepodlalcnecaaDoorSpec33c
import Derived.Test.YtjepodlalcnecaaDoorSpec33d
import Derived.Lib.IndexMore
import Derived.Lib.Strings
set_option linter.unusedVariables false
namespace Go.Fk
/-- what stands ahead of the first c -/
def bef (c : UInt8) (l : List UInt8) : List UInt8 := l.takeWhile (· != c)
/-- what stands behind the first c -/
def aft (c : UInt8) (l : List UInt8) : List UInt8 := (l.dropWhile (· != c)).drop 1
theorem bef_of (c : UInt8) : ∀ (a r : List UInt8), c ∉ a → bef c (a ++ c :: r) = a ∧ aft c (a ++ c :: r) = r := by
  intro a r h
  induction a with
  | nil => simp [bef, aft]
  | cons x a ih =>
    have hx : (x != c) = true := by simp; rintro rfl; exact h (by simp)
    have := ih (fun hm => h (by simp [hm]))
    unfold bef aft at *
    rw [List.cons_append, List.takeWhile_cons, List.dropWhile_cons, if_pos hx, if_pos hx]
    exact ⟨by rw [this.1], this.2⟩
theorem bef_none (c : UInt8) (l : List UInt8) (h : c ∉ l) : bef c l = l ∧ aft c l = [] := by
  induction l with
  | nil => simp [bef, aft]
  | cons x a ih =>
    have hx : (x != c) = true := by simp; rintro rfl; exact h (by simp)
    have := ih (fun hm => h (by simp [hm]))
    unfold bef aft at *
    rw [List.takeWhile_cons, List.dropWhile_cons, if_pos hx, if_pos hx]
    exact ⟨by rw [this.1], this.2⟩
theorem split_at (c : UInt8) : ∀ (l : List UInt8), c ∈ l → ∃ a r, l = a ++ c :: r ∧ c ∉ a := by
  intro l
  induction l with
  | nil => intro h; simp at h
  | cons x l ih =>
    intro h
    by_cases e : x = c
    · exact ⟨[], l, by rw [e]; rfl, by simp⟩
    · obtain ⟨a, r, rfl, ha⟩ := ih (by rcases List.mem_cons.1 h with h | h; exact absurd h.symm e; exact h)
      exact ⟨x :: a, r, rfl, fun hm => by rcases List.mem_cons.1 hm with h | h; exact e h.symm; exact ha h⟩
theorem bef_aft (c : UInt8) (l : List UInt8) : (c ∈ l → l = bef c l ++ c :: aft c l) ∧ c ∉ bef c l := by
  by_cases h : c ∈ l
  · obtain ⟨a, r, rfl, ha⟩ := split_at c l h
    obtain ⟨h1, h2⟩ := bef_of c a r ha
    rw [h1, h2]; exact ⟨fun _ => rfl, ha⟩
  · rw [(bef_none c l h).1]; exact ⟨fun hc => absurd hc h, h⟩
theorem aft_ne (c : UInt8) (l : List UInt8) (h : aft c l ≠ []) : l = bef c l ++ c :: aft c l := by
  by_cases hc : c ∈ l
  · exact (bef_aft c l).1 hc
  · exact absurd (bef_none c l hc).2 h
theorem bef_len (c : UInt8) (l : List UInt8) : (bef c l).length + (aft c l).length ≤ l.length := by
  by_cases hc : c ∈ l
  · have := congrArg List.length ((bef_aft c l).1 hc); simp at this; omega
  · obtain ⟨h1, h2⟩ := bef_none c l hc; rw [h1, h2]; simp
theorem index_one (c : UInt8) : ∀ (a r : List UInt8), c ∉ a → Lib.index (a ++ c :: r) [c] = a.length := by
  intro a r h
  induction a with
  | nil => simp [Lib.index, List.isPrefixOf]
  | cons x a ih =>
    have hx : ¬ c = x := by rintro rfl; exact h (by simp)
    have := ih (fun hm => h (by simp [hm]))
    rw [List.cons_append, Lib.index, this]
    have e : [c].isPrefixOf (x :: (a ++ c :: r)) = false := by simp [List.isPrefixOf, hx]
    rw [e]
    have e2 : ((a.length : Int) == -1) = false := by simp
    simp [e2]
theorem index_none (c : UInt8) : ∀ (l : List UInt8), c ∉ l → Lib.index l [c] = -1 := by
  intro l h
  induction l with
  | nil => simp [Lib.index]
  | cons x a ih =>
    have hx : ¬ c = x := by rintro rfl; exact h (by simp)
    have := ih (fun hm => h (by simp [hm]))
    rw [Lib.index, this]
    have e : [c].isPrefixOf (x :: a) = false := by simp [List.isPrefixOf, hx]
    rw [e]; simp
theorem cut_one (c : UInt8) (l : List UInt8) : Lib.cut l [c] = (bef c l, aft c l, decide (c ∈ l)) := by
  unfold Lib.cut
  by_cases h : c ∈ l
  · obtain ⟨a, r, rfl, ha⟩ := split_at c l h
    rw [index_one c a r ha, if_pos (by omega), (bef_of c a r ha).1, (bef_of c a r ha).2]
    simp [← List.drop_drop]
  · rw [index_none c l h, if_neg (by omega), (bef_none c l h).1, (bef_none c l h).2]
    simp [h]
/-- the line of a record, of its parts -/
def lineP (t l : Nat) (u v : List UInt8) : List UInt8 := Lib.decDigits t ++ 32 :: (Lib.decDigits l ++ 32 :: (quote u ++ 32 :: quote v))
/-- a record's parts -/
abbrev Parts := Nat × Nat × List UInt8 × List UInt8
/-- the record of a line, as the program reads it -/
def readL (s : List UInt8) : Option Parts :=
  match numL (bef 32 s), numL (bef 32 (aft 32 s)) with
  | some t, some l =>
    if 255 < l then none else
    if (quotedOf (aft 32 (aft 32 s))).2 = 0 then none else
    match (aft 32 (aft 32 s)).drop (quotedOf (aft 32 (aft 32 s))).2 with
    | [] => none
    | c :: r => if c = 32 then (unq r).map fun v => (t, l, (quotedOf (aft 32 (aft 32 s))).1, v) else none
  | _, _ => none
theorem dec_no (u : Nat) (c : UInt8) (h : ¬ isDg c) : c ∉ Lib.decDigits u := by
  induction u using Nat.strongRecOn with
  | ind u ih =>
    by_cases h10 : u < 10
    · rw [Lib.decDigits_one h10]
      simp only [List.mem_singleton]
      rintro rfl
      apply h
      unfold isDg
      rw [UInt8.toNat_ofNat']; omega
    · have e := dec_step (u / 10) (u % 10) (by omega) (by omega)
      rw [show u / 10 * 10 + u % 10 = u by omega] at e
      rw [e]
      simp only [List.mem_append, List.mem_singleton, not_or]
      refine ⟨ih _ (by omega), ?_⟩
      rintro rfl
      apply h
      unfold isDg
      rw [UInt8.toNat_ofNat']; omega
theorem quotedOf_quote (u r : List UInt8) : quotedOf (quote u ++ r) = (u, (quote u).length) := by
  have e : quote u ++ r = 34 :: (quoteL u ++ 34 :: r) := by simp [quote]
  rw [e, quotedOf_cons, scan_quote]
  simp [quote]
theorem quotedOf_take (l : List UInt8) (h : (quotedOf l).2 ≠ 0) : l.take (quotedOf l).2 = quote (quotedOf l).1 := by
  match l with
  | [] => simp [quotedOf] at h
  | c :: rest =>
    by_cases hc : c = 34
    · subst hc
      rw [quotedOf_cons] at h ⊢
      cases hs : scan rest with
      | none => rw [hs] at h; simp at h
      | some x =>
        obtain ⟨t, n⟩ := x
        obtain ⟨i1, i2, i3⟩ := scan_le _ rest (Nat.le_refl _) t n hs
        simp only [List.take_succ_cons]
        rw [i3]; rfl
    · rw [quotedOf, if_neg hc] at h; simp at h
theorem readL_iff (s : List UInt8) (t l : Nat) (u v : List UInt8) : readL s = some (t, l, u, v) ↔ t < 18446744073709551616 ∧ l ≤ 255 ∧ lineP t l u v = s := by
  constructor
  · intro h
    unfold readL at h
    cases ht : numL (bef 32 s) with
    | none => rw [ht] at h; cases h
    | some t' =>
      cases hl : numL (bef 32 (aft 32 s)) with
      | none => rw [ht, hl] at h; cases h
      | some l' =>
        rw [ht, hl] at h
        simp only at h
        obtain ⟨t1, t2⟩ := (numL_iff _ _).1 ht
        obtain ⟨l1, l2⟩ := (numL_iff _ _).1 hl
        split at h
        · cases h
        · rename_i h255
          split at h
          · cases h
          · rename_i hn
            have hq := quotedOf_take _ hn
            split at h
            · cases h
            · rename_i c r hd
              split at h
              · rename_i hc
                subst hc
                cases hu : unq r with
                | none => rw [hu] at h; cases h
                | some w =>
                  rw [hu] at h
                  simp only [Option.map_some, Option.some.injEq, Prod.mk.injEq] at h
                  obtain ⟨rfl, rfl, rfl, rfl⟩ := h
                  have hr := unq_some r _ hu
                  have h3 : aft 32 (aft 32 s) = quote (quotedOf (aft 32 (aft 32 s))).1 ++ 32 :: quote w := by
                    rw [hr, ← hq, ← hd, List.take_append_drop]
                  have ne3 : aft 32 (aft 32 s) ≠ [] := by
                    intro e; rw [e] at hn; exact hn (by simp [quotedOf])
                  have h2 := aft_ne 32 _ ne3
                  have ne2 : aft 32 s ≠ [] := by
                    intro e; rw [e] at ne3; exact ne3 rfl
                  have h1 := aft_ne 32 _ ne2
                  refine ⟨t1, by omega, ?_⟩
                  unfold lineP
                  rw [t2, l2, ← h3, ← h2, ← h1]
              · cases h
  · rintro ⟨h1, h2, rfl⟩
    have n32 : ¬ isDg 32 := by decide
    unfold lineP
    obtain ⟨e1, e2⟩ := bef_of 32 (Lib.decDigits t) (Lib.decDigits l ++ 32 :: (quote u ++ 32 :: quote v)) (dec_no t 32 n32)
    obtain ⟨e3, e4⟩ := bef_of 32 (Lib.decDigits l) (quote u ++ 32 :: quote v) (dec_no l 32 n32)
    unfold readL
    rw [e1, e2, e3, e4, (numL_iff _ t).2 ⟨h1, rfl⟩, (numL_iff _ l).2 ⟨by omega, rfl⟩, quotedOf_quote]
    simp only
    rw [if_neg (by omega), if_neg (by simp [quote]), List.drop_left]
    simp only [if_true]
    rw [unq_quote]
    rfl
/-- how many bytes stand ahead of the first blank outside of quotes -/
def blk : Bool → List UInt8 → Nat
  | _, [] => 0
  | q, c :: r => if q = false ∧ c = 32 then 0 else blk (if c = 34 then !q else q) r + 1
theorem blk_le : ∀ (l : List UInt8) (q : Bool), blk q l ≤ l.length := by
  intro l
  induction l with
  | nil => intro q; simp [blk]
  | cons c r ih => intro q; rw [blk]; split; simp; have := ih (if c = 34 then !q else q); simp; omega
/-- the place of the first blank from a place on -/
def blankAt (s : List UInt8) (i : Nat) : Nat := i + blk false (s.drop i)
theorem blank_le (s : List UInt8) (i : Nat) (h : i ≤ s.length) : blankAt s i ≤ s.length := by
  unfold blankAt; have := blk_le (s.drop i) false; rw [List.length_drop] at this; omega
theorem blank_ge (s : List UInt8) (i : Nat) : i ≤ blankAt s i := by unfold blankAt; omega
theorem blk_plain : ∀ (a r : List UInt8), (∀ c ∈ a, c ≠ 32 ∧ c ≠ 34) → blk false (a ++ 32 :: r) = a.length := by
  intro a r h
  induction a with
  | nil => simp [blk]
  | cons c a ih =>
    rw [List.cons_append, blk, if_neg (fun hh => (h c (by simp)).1 hh.2), if_neg (h c (by simp)).2, ih (fun x hx => h x (by simp [hx]))]
    simp
theorem blk_in : ∀ (a r : List UInt8), (∀ c ∈ a, c ≠ 34) → blk true (a ++ 34 :: 32 :: r) = a.length + 1 := by
  intro a r h
  induction a with
  | nil => simp [blk]
  | cons c a ih =>
    rw [List.cons_append, blk, if_neg (by simp), if_neg (h c (by simp)), ih (fun x hx => h x (by simp [hx]))]
    simp
theorem quoteL_no (u : List UInt8) : ∀ c ∈ quoteL u, c ≠ 34 := by
  have hh : ∀ k : Fin 16, hexd k ≠ 34 := by decide +kernel
  intro x hx
  unfold quoteL at hx
  obtain ⟨l, hl, hx⟩ := List.mem_flatten.1 hx
  obtain ⟨c, _, rfl⟩ := List.mem_map.1 hl
  have hc := c.toNat_lt
  unfold quoteC at hx
  split at hx
  · rename_i hp
    obtain rfl : x = c := by simpa using hx
    exact (plain_ne x hp).1
  · simp only [List.mem_cons, List.not_mem_nil, or_false] at hx
    rcases hx with rfl | rfl | rfl
    · decide
    · exact hh ⟨c.toNat / 16, by omega⟩
    · exact hh ⟨c.toNat % 16, by omega⟩
theorem blk_quote (u r : List UInt8) : blk false (quote u ++ 32 :: r) = (quote u).length := by
  have e : quote u ++ 32 :: r = 34 :: (quoteL u ++ 34 :: 32 :: r) := by simp [quote]
  rw [e, blk, if_neg (by simp), if_pos rfl, Bool.not_false, blk_in _ _ (quoteL_no u)]
  simp [quote]
theorem dec_ne2 (u : Nat) : ∀ c ∈ Lib.decDigits u, c ≠ 32 ∧ c ≠ 34 := by
  intro c hc
  constructor
  · rintro rfl; exact dec_no u 32 (by decide) hc
  · rintro rfl; exact dec_no u 34 (by decide) hc
/-- the record of a line, as the reference reads it -/
def readR (s : List UInt8) : Option Parts :=
  let a := blankAt s 0
  let b := blankAt s (a + 1)
  let c := blankAt s (b + 1)
  if a = s.length then none else if b = s.length then none else if c = s.length then none else
  match numL (s.take a), numL ((s.take b).drop (a + 1)), unq ((s.take c).drop (b + 1)), unq (s.drop (c + 1)) with
  | some t, some l, some u, some v => if 255 < l then none else if lineP t l u v = s then some (t, l, u, v) else none
  | _, _, _, _ => none
theorem readR_eq (s : List UInt8) : readR s = readL s := by
  have h1 : ∀ q, readR s = some q → readL s = some q := by
    intro q h
    unfold readR at h
    simp only at h
    split at h
    · cases h
    · split at h
      · cases h
      · split at h
        · cases h
        · split at h
          · rename_i t l u v ht hl hu hv
            split at h
            · cases h
            · split at h
              · rename_i he
                simp only [Option.some.injEq] at h
                subst h
                exact (readL_iff s t l u v).2 ⟨((numL_iff _ _).1 ht).1, by omega, he⟩
              · cases h
          · cases h
  have h2 : ∀ q, readL s = some q → readR s = some q := by
    rintro ⟨t, l, u, v⟩ h
    obtain ⟨g1, g2, rfl⟩ := (readL_iff s t l u v).1 h
    clear h1
    generalize hA : Lib.decDigits t = A at *
    generalize hB : Lib.decDigits l = B at *
    have bA : ∀ c ∈ A, c ≠ 32 ∧ c ≠ 34 := by rw [← hA]; exact dec_ne2 t
    have bB : ∀ c ∈ B, c ≠ 32 ∧ c ≠ 34 := by rw [← hB]; exact dec_ne2 l
    have nA : numL A = some t := (numL_iff _ _).2 ⟨g1, hA⟩
    have nB : numL B = some l := (numL_iff _ _).2 ⟨by omega, hB⟩
    have hs : lineP t l u v = A ++ 32 :: (B ++ 32 :: (quote u ++ 32 :: quote v)) := by unfold lineP; rw [hA, hB]
    have uq1 := unq_quote u
    have uq2 := unq_quote v
    have kq := blk_quote u (quote v)
    generalize quote u = U at *
    generalize quote v = V at *
    have e1 : blankAt (lineP t l u v) 0 = A.length := by
      unfold blankAt; rw [List.drop_zero, hs, blk_plain _ _ bA]; omega
    have d2 : (lineP t l u v).drop (A.length + 1) = B ++ 32 :: (U ++ 32 :: V) := by
      rw [hs, ← List.drop_drop, List.drop_left]; rfl
    have e2 : blankAt (lineP t l u v) (A.length + 1) = A.length + 1 + B.length := by
      unfold blankAt; rw [d2, blk_plain _ _ bB]
    have d3 : (lineP t l u v).drop (A.length + 1 + B.length + 1) = U ++ 32 :: V := by
      rw [show A.length + 1 + B.length + 1 = (A.length + 1) + (B.length + 1) by omega, ← List.drop_drop, d2]
      rw [show B.length + 1 = B.length + 1 from rfl, ← List.drop_drop, List.drop_left]; rfl
    have e3 : blankAt (lineP t l u v) (A.length + 1 + B.length + 1) = A.length + 1 + B.length + 1 + U.length := by
      unfold blankAt; rw [d3, kq]
    have hlen : (lineP t l u v).length = A.length + 1 + B.length + 1 + U.length + 1 + V.length := by rw [hs]; simp; omega
    have d4 : (lineP t l u v).drop (A.length + 1 + B.length + 1 + U.length + 1) = V := by
      rw [show A.length + 1 + B.length + 1 + U.length + 1 = (A.length + 1 + B.length + 1) + (U.length + 1) by omega, ← List.drop_drop, d3, ← List.drop_drop, List.drop_left]; rfl
    have t1 : (lineP t l u v).take A.length = A := by rw [hs, List.take_left]
    have t2 : ((lineP t l u v).take (A.length + 1 + B.length)).drop (A.length + 1) = B := by
      rw [List.drop_take, d2, show A.length + 1 + B.length - (A.length + 1) = B.length by omega, List.take_left]
    have t3 : ((lineP t l u v).take (A.length + 1 + B.length + 1 + U.length)).drop (A.length + 1 + B.length + 1) = U := by
      rw [List.drop_take, d3, show A.length + 1 + B.length + 1 + U.length - (A.length + 1 + B.length + 1) = U.length by omega, List.take_left]
    unfold readR
    simp only [e1, e2, e3, t1, t2, t3, d4, nA, nB, uq1, uq2]
    rw [if_neg (by omega), if_neg (by omega), if_neg (by omega), if_neg (by omega)]
    simp
  cases hr : readR s with
  | some q => rw [h1 q hr]
  | none =>
    cases hl : readL s with
    | some q => rw [h2 q hl] at hr; cases hr
    | none => rfl
theorem quoteL_ge (l : List UInt8) : l.length ≤ (quoteL l).length := by
  induction l with
  | nil => simp
  | cons x l ih =>
    rw [quoteL_cons]
    have : 1 ≤ (quoteC x).length := by unfold quoteC; split <;> simp
    simp; omega
theorem unq_le (l t : List UInt8) (h : unq l = some t) : t.length ≤ l.length := by
  have h1 := quoteL_ge t
  rw [← unq_some l t h]; simp [quote]; omega
theorem numL_lt (l : List UInt8) (u : Nat) (h : numL l = some u) : u < 18446744073709551616 := ((numL_iff l u).1 h).1
end Go.Fk
