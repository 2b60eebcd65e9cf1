/- Plain words of layer 28: a query's text is read as the query, all of it. No program. -/
import Derived.Test.YtjepodlalcnecaaDoorSpec28g
set_option linter.unusedVariables false
namespace Go.Fk
theorem Hdt.app {t : List UInt8} (h : Hdt t) (r : List UInt8) : Hdt (t ++ r) := by
  obtain ⟨c, u, rfl, hc⟩ := h
  exact ⟨c, u ++ r, rfl, hc⟩
theorem Hdt.len {t : List UInt8} (h : Hdt t) : 1 ≤ t.length := by
  obtain ⟨c, u, rfl, _⟩ := h; simp
theorem takeB_skip (c : UInt8) (l : List UInt8) : takeB c (skipB l) = takeB c l := by unfold takeB; rw [skip_skip]
theorem takeB_of (c : UInt8) (l l' : List UInt8) (h : skipB l = skipB l') : takeB c l = takeB c l' := by unfold takeB; rw [h]
theorem row_text (part : List UInt8 → Rd) (bad : UInt8 → Prop) (c : UInt8) (hc : ¬ bad c) (hc32 : c ≠ 32) : ∀ (ts : List (List UInt8 × List Stp)), ts ≠ [] →
    (∀ t ∈ ts, Hdt t.1 ∧ ∀ l rest, skipB l = t.1 ++ rest → okR rest → (∀ b, (skipB rest).head? = some b → ¬ bad b) → ∃ r, part l = .ok (t.2, r) ∧ skipB r = skipB rest) →
    ∀ (f : Nat) (l rest : List UInt8), ts.length ≤ f → skipB l = sepL [32, c, 32] (ts.map (·.1)) ++ rest → okR rest → (∀ b, (skipB rest).head? = some b → ¬ bad b ∧ b ≠ c) →
      rowP part c f l = .ok (ts.map (·.2), skipB rest) := by
  intro ts
  induction ts with
  | nil => intro h; exact absurd rfl h
  | cons t r ih =>
    intro _ ht f l rest hf hl hk hb
    match f, hf with
    | f + 1, hf =>
      rw [rowP]
      cases r with
      | nil =>
        obtain ⟨r1, hp, hr⟩ := (ht t (by simp)).2 l rest (by simpa [sepL] using hl) hk fun b h => (hb b h).1
        have hno : takeB c r1 = (false, skipB rest) := by
          rw [take_no c r1 (by rw [hr]; intro h; exact (hb c h).2 rfl), hr]
        rw [hp]
        simp [hno]
      | cons u r =>
        have hsep : sepL [32, c, 32] (((t :: u :: r)).map (·.1)) = t.1 ++ ([32, c, 32] ++ sepL [32, c, 32] ((u :: r).map (·.1))) := by
          simp only [List.map_cons]; rw [sepL]; intro h; cases h
        have hu : Hdt (sepL [32, c, 32] ((u :: r).map (·.1))) := by
          have hu1 := (ht u (by simp)).1
          cases r with
          | nil => exact hu1
          | cons x r => simp only [List.map_cons]; rw [sepL]; exact hu1.app _; intro h; cases h
        rw [hsep] at hl
        have hs1 : skipB ([32, c, 32] ++ sepL [32, c, 32] ((u :: r).map (·.1)) ++ rest) = c :: 32 :: (sepL [32, c, 32] ((u :: r).map (·.1)) ++ rest) := by
          show skipB (32 :: c :: 32 :: (sepL [32, c, 32] ((u :: r).map (·.1)) ++ rest)) = _
          rw [skip_blank, skip_other c _ hc32]
        obtain ⟨r1, hp, hr⟩ := (ht t (by simp)).2 l ([32, c, 32] ++ sepL [32, c, 32] ((u :: r).map (·.1)) ++ rest) (by rw [hl]; simp) (by intro b h; exact .inl (by cases h; rfl)) (by
          intro b h; rw [hs1] at h; cases h; exact hc)
        rw [hs1] at hr
        have hyes := take_yes c r1 _ hr
        have hs2 : skipB (32 :: (sepL [32, c, 32] ((u :: r).map (·.1)) ++ rest)) = sepL [32, c, 32] ((u :: r).map (·.1)) ++ rest := by
          rw [skip_blank]; exact hu.skip rest
        have h2 := ih (by simp) (fun x hx => ht x (by simp [hx])) f _ rest (by simp at hf ⊢; omega) hs2 hk hb
        rw [hp]
        simp only [hyes, if_true, h2]
        rfl
theorem sepL_count (sep : List UInt8) : ∀ (xs : List (List UInt8)), (∀ x ∈ xs, 1 ≤ x.length) → xs.length ≤ (sepL sep xs).length := by
  intro xs
  induction xs with
  | nil => simp
  | cons x r ih =>
    intro h
    have hx := h x (by simp)
    cases r with
    | nil => simpa [sepL] using hx
    | cons y r =>
      have := ih fun z hz => h z (by simp [hz])
      rw [sepL]
      · rw [List.length_append, List.length_append]; simp only [List.length_cons] at this ⊢; omega
      · intro h; cases h
theorem join_text (part : List UInt8 → Rd) (bad : UInt8 → Prop) (c : UInt8) (op : Int) (hc : ¬ bad c) (hc32 : c ≠ 32) (ts : List (List UInt8 × List Stp)) (hne : ts ≠ [])
    (ht : ∀ t ∈ ts, Hdt t.1 ∧ ∀ l rest, skipB l = t.1 ++ rest → okR rest → (∀ b, (skipB rest).head? = some b → ¬ bad b) → ∃ r, part l = .ok (t.2, r) ∧ skipB r = skipB rest)
    (l rest : List UInt8) (hl : skipB l = sepL [32, c, 32] (ts.map (·.1)) ++ rest) (hk : okR rest) (hb : ∀ b, (skipB rest).head? = some b → ¬ bad b ∧ b ≠ c) :
    joinP part c op l = .ok (joinL op (ts.map (·.2)), skipB rest) := by
  have hcnt := sepL_count [32, c, 32] (ts.map (·.1)) (by
    intro x hx
    obtain ⟨t, hm, rfl⟩ := List.mem_map.1 hx
    exact (ht t hm).1.len)
  have hle := skip_le l
  rw [hl, List.length_append] at hle
  rw [List.length_map] at hcnt
  unfold joinP
  rw [row_text part bad c hc hc32 ts hne ht (l.length + 1) l rest (by omega) hl hk hb]
/-- what a query's text is read as -/
structure Back (q : List Stp) : Prop where
  hd : Hdt (shQ q).1
  a : (shQ q).2 ≠ 6 → (shQ q).2 ≠ 7 → ∀ n l rest, (shQ q).1.length < n → skipB l = (shQ q).1 ++ rest → okR rest → notP n l = .ok (q, rest)
  b : (shQ q).2 ≠ 7 → ∀ n l rest, (shQ q).1.length < n → skipB l = (shQ q).1 ++ rest → okR rest → (∀ b, (skipB rest).head? = some b → b ≠ 38) → bothW (notP n) l = .ok (q, skipB rest)
  c : ∀ n l rest, (shQ q).1.length < n → skipB l = (shQ q).1 ++ rest → okR rest → (∀ b, (skipB rest).head? = some b → b ≠ 38 ∧ b ≠ 124) → anyW (notP n) l = .ok (q, skipB rest)
theorem joinL_one (op : Int) (q : List Stp) : joinL op [q] = q := by simp [joinL]
theorem both_of (q : List Stp) (t : List UInt8) (ht : Hdt t) (n : Nat) (h : ∀ l rest, skipB l = t ++ rest → okR rest → notP n l = .ok (q, rest)) (l rest : List UInt8) (hl : skipB l = t ++ rest) (hk : okR rest)
    (hb : ∀ b, (skipB rest).head? = some b → b ≠ 38) : bothW (notP n) l = .ok (q, skipB rest) := by
  have := join_text (notP n) (fun _ => False) 38 6 (by simp) (by decide) [(t, q)] (by simp) (by
    intro x hx
    obtain rfl : x = (t, q) := by simpa using hx
    exact ⟨ht, fun l rest h1 h2 _ => ⟨rest, h l rest h1 h2, rfl⟩⟩) l rest hl hk fun b h => ⟨by simp, hb b h⟩
  unfold bothW
  rw [this]
  simp [joinL_one]
theorem any_of (q : List Stp) (t : List UInt8) (ht : Hdt t) (n : Nat) (h : ∀ l rest, skipB l = t ++ rest → okR rest → (∀ b, (skipB rest).head? = some b → b ≠ 38) → bothW (notP n) l = .ok (q, skipB rest)) (l rest : List UInt8) (hl : skipB l = t ++ rest) (hk : okR rest)
    (hb : ∀ b, (skipB rest).head? = some b → b ≠ 38 ∧ b ≠ 124) : anyW (notP n) l = .ok (q, skipB rest) := by
  have := join_text (bothW (notP n)) (fun b => b = 38) 124 7 (by decide) (by decide) [(t, q)] (by simp) (by
    intro x hx
    obtain rfl : x = (t, q) := by simpa using hx
    exact ⟨ht, fun l rest h1 h2 h3 => ⟨skipB rest, h l rest h1 h2 h3, skip_skip rest⟩⟩) l rest hl hk fun b h => hb b h
  unfold anyW
  rw [this]
  simp [joinL_one]
theorem within_hdt (op : Int) (q : List Stp) (hq : Back q) : Hdt (within op (shQ q)) := by
  unfold within
  split
  · exact ⟨40, _, rfl, by decide⟩
  · exact hq.hd
theorem not_sign (n : Nat) (l t rest : List UInt8) (hl : skipB l = 40 :: (t ++ [41]) ++ rest) (q : List Stp) (hc : anyW (notP n) (t ++ 41 :: rest) = .ok (q, 41 :: rest)) : notP (n + 1) l = .ok (q, rest) := by
  have e1 : takeB 33 l = (false, skipB l) := take_no 33 l (by rw [hl]; simp)
  have e2 : takeB 40 (skipB l) = (true, t ++ 41 :: rest) := by
    rw [takeB_skip]; exact take_yes 40 l _ (by rw [hl]; simp)
  have e3 : takeB 41 (41 :: rest) = (true, rest) := take_yes 41 _ _ (skip_other 41 rest (by decide))
  rw [notP, e1]
  simp [e2, hc, closeP, e3]
theorem not_within (op : Int) (hop : op ≠ 7) (q : List Stp) (hq : Back q) (n : Nat) (l rest : List UInt8) (hn : (within op (shQ q)).length < n) (hl : skipB l = within op (shQ q) ++ rest) (hk : okR rest) : notP n l = .ok (q, rest) := by
  unfold within at hn hl
  split at hn
  · rename_i h
    rw [if_pos h] at hl
    match n, hn with
    | n + 1, hn =>
      refine not_sign n l (shQ q).1 rest hl q ?_
      have hs : skipB (41 :: rest) = 41 :: rest := skip_other 41 rest (by decide)
      have := hq.c n ((shQ q).1 ++ 41 :: rest) (41 :: rest) (by simp at hn; omega) (hq.hd.skip _) (by intro b h; cases h; exact .inr rfl) (by rw [hs]; intro b h; cases h; exact ⟨by decide, by decide⟩)
      rw [this, hs]
  · rename_i h
    rw [if_neg h] at hl
    exact hq.a (fun e => h (.inr ⟨e, hop⟩)) (fun e => h (.inl e)) n l rest hn hl hk
theorem both_within (q : List Stp) (hq : Back q) (n : Nat) (l rest : List UInt8) (hn : (within 7 (shQ q)).length < n) (hl : skipB l = within 7 (shQ q) ++ rest) (hk : okR rest)
    (hb : ∀ b, (skipB rest).head? = some b → b ≠ 38) : bothW (notP n) l = .ok (q, skipB rest) := by
  by_cases h : (shQ q).2 = 7
  · have hw : within 7 (shQ q) = 40 :: ((shQ q).1 ++ [41]) := by unfold within; rw [if_pos (.inl h)]
    have hx : ∀ op : Int, within op (shQ q) = 40 :: ((shQ q).1 ++ [41]) := fun op => by unfold within; rw [if_pos (.inl h)]
    rw [hw] at hn hl
    refine both_of q (40 :: ((shQ q).1 ++ [41])) ⟨40, _, rfl, by decide⟩ n (fun l rest h1 h2 => ?_) l rest hl hk hb
    rw [← hx 6] at h1 hn
    exact not_within 6 (by decide) q hq n l rest hn h1 h2
  · have hw : within 7 (shQ q) = (shQ q).1 := by unfold within; rw [if_neg (by rintro (h1 | ⟨_, h2⟩); exact h h1; exact h2 rfl)]
    rw [hw] at hn hl
    exact hq.b h n l rest hn hl hk hb
theorem sepL_mem (sep : List UInt8) (xs : List (List UInt8)) (x : List UInt8) (h : x ∈ xs) : x.length ≤ (sepL sep xs).length := by
  induction xs with
  | nil => cases h
  | cons y r ih =>
    cases r with
    | nil => obtain rfl : x = y := by simpa using h
             simp [sepL]
    | cons z r =>
      rw [sepL]
      · rw [List.length_append, List.length_append]
        rcases List.mem_cons.1 h with rfl | h
        · omega
        · have := ih h; omega
      · intro h; cases h
theorem back_all (q : List Stp) (h : IsQ q) : Back q := by
  induction h with
  | mk s ps hr hn hp ih =>
    have hsh := shQ_mk s ps hn hp
    have hz : ∀ u : UInt64, (u.toNat : Int) = 0 → u = 0 := fun u h => UInt64.toNat_inj.1 (Int.ofNat.inj h)
    have hN : s.op = 5 ∨ s.op = 6 ∨ s.op = 7 → s = ⟨s.op, s.n, [], 0, 0⟩ ∧ (s.op = 5 → s.n = 0) ∧ (s.op ≠ 5 → 2 ≤ s.n) := by
      intro h
      obtain ⟨op, n, w, fa, fb⟩ := s
      simp only at h ⊢
      rcases h with rfl | rfl | rfl
      all_goals (unfold rightB at hr; simp at hr)
      · obtain ⟨rfl, e1, e2, rfl⟩ := hr
        rw [hz fa (by omega), hz fb (by omega)]; simp
      · obtain ⟨rfl, e1, e2, h2⟩ := hr
        rw [hz fa (by omega), hz fb (by omega)]; simp; exact h2
      · obtain ⟨rfl, e1, e2, h2⟩ := hr
        rw [hz fa (by omega), hz fb (by omega)]; simp; exact h2
    -- a part by itself
    have hA : s.op ≠ 6 → s.op ≠ 7 → Hdt (showT s (ps.map shQ)) ∧ ∀ n l rest, (showT s (ps.map shQ)).length < n → skipB l = showT s (ps.map shQ) ++ rest → okR rest → notP n l = .ok (ps.flatten ++ [s], rest) := by
      intro h6 h7
      by_cases h5 : s.op = 5
      · obtain ⟨e1, e2, _⟩ := hN (.inl h5)
        have hs5 : s = stepN 5 0 := by rw [e1, h5, e2 h5]; rfl
        have hl1 : ps.length = 1 := by
          have : takesZ s = 1 := by unfold takesZ; rw [if_pos h5]
          omega
        match ps, hl1 with
        | [p], _ =>
          have hp1 := ih p (by simp)
          have ht : showT s ([p].map shQ) = 33 :: within 5 (shQ p) := by rw [hs5]; rfl
          rw [ht]
          refine ⟨⟨33, _, rfl, by decide⟩, ?_⟩
          intro n l rest hln hl hk
          match n, hln with
          | n + 1, hln =>
            have e1 : takeB 33 l = (true, within 5 (shQ p) ++ rest) := take_yes 33 l _ (by rw [hl]; rfl)
            have e2 := not_within 5 (by decide) p hp1 n (within 5 (shQ p) ++ rest) rest (by simp at hln; omega) ((within_hdt 5 p hp1).skip rest) hk
            rw [notP, e1]
            simp [e2, hs5]
      · have h14 : s.op = 1 ∨ s.op = 2 ∨ s.op = 3 ∨ s.op = 4 := by
          unfold rightB at hr
          by_cases h12 : s.op = 1 ∨ s.op = 2
          · omega
          · by_cases h34 : s.op = 3 ∨ s.op = 4
            · omega
            · rw [if_neg h12, if_neg h34, if_neg (by omega)] at hr
              simp at hr
              exact absurd hr.1 h5
        have hl0 : ps.length = 0 := by
          have : takesZ s = 0 := by unfold takesZ; rw [if_neg h5, if_neg (by omega)]
          omega
        obtain rfl := List.eq_nil_of_length_eq_zero hl0
        have hlt : ∀ rest, okR rest → leafQ (showT s [] ++ rest) = ([s], rest) ∧ ∃ c r, showT s [] = c :: r ∧ c ≠ 32 ∧ c ≠ 33 ∧ c ≠ 40 := fun rest hk => leaf_text s rest hr h14 hk
        obtain ⟨_, c, r, hcr, c1, c2, c3⟩ := hlt [] (by intro b h; cases h)
        refine ⟨⟨c, r, hcr, c1⟩, ?_⟩
        intro n l rest hln hl hk
        have hl' : skipB l = showT s [] ++ rest := hl
        match n, hln with
        | n + 1, hln =>
          have hh : (skipB l).head? = some c := by rw [hl', hcr]; rfl
          have e1 : takeB 33 l = (false, skipB l) := take_no 33 l (by rw [hh]; simpa using c2)
          have e2 : takeB 40 (skipB l) = (false, skipB l) := by
            rw [takeB_skip]; exact take_no 40 l (by rw [hh]; simpa using c3)
          rw [notP, e1]
          simp only [Bool.false_eq_true, if_false, e2]
          unfold leafP
          rw [skip_skip, hl', (hlt rest hk).1]
          simp
    have hB : s.op ≠ 7 → Hdt (showT s (ps.map shQ)) ∧ ∀ n l rest, (showT s (ps.map shQ)).length < n → skipB l = showT s (ps.map shQ) ++ rest → okR rest → (∀ b, (skipB rest).head? = some b → b ≠ 38) → bothW (notP n) l = .ok (ps.flatten ++ [s], skipB rest) := by
      intro h7
      by_cases h6 : s.op = 6
      · obtain ⟨e1, _, e2⟩ := hN (.inr (.inl h6))
        have e2 := e2 (by omega)
        have hz2 : takesZ s = s.n := by unfold takesZ; rw [if_neg (by omega), if_pos (.inl h6)]
        have hs6 : s = stepN 6 ps.length := by rw [e1, h6]; unfold stepN; rw [hn, hz2]
        have ht : showT s (ps.map shQ) = sepL [32, 38, 32] (ps.map fun p => within 6 (shQ p)) := by
          have : showT s (ps.map shQ) = sepL [32, 38, 32] ((ps.map shQ).map (within s.op)) := by unfold showT; simp [h6]
          rw [this, h6, List.map_map]; rfl
        have hne : ps ≠ [] := by rintro rfl; simp at hn; omega
        rw [ht]
        constructor
        · match ps, hne with
          | p :: r, _ =>
            have hw := within_hdt 6 p (ih p (by simp))
            cases r with
            | nil => exact hw
            | cons x r => simp only [List.map_cons]; rw [sepL]; exact hw.app _; intro h; cases h
        · intro n l rest hln hl hk hb
          have := join_text (notP n) (fun _ => False) 38 6 (by simp) (by decide) (ps.map fun p => (within 6 (shQ p), p)) (by simpa using hne) (by
            intro x hx
            obtain ⟨p, hm, rfl⟩ := List.mem_map.1 hx
            refine ⟨within_hdt 6 p (ih p hm), fun l rest h1 h2 _ => ⟨rest, not_within 6 (by decide) p (ih p hm) n l rest ?_ h1 h2, rfl⟩⟩
            have := sepL_mem [32, 38, 32] (ps.map fun p => within 6 (shQ p)) (within 6 (shQ p)) (List.mem_map_of_mem hm)
            omega) l rest (by rw [hl, List.map_map]; rfl) hk fun b h => ⟨by simp, hb b h⟩
          unfold bothW
          rw [this, List.map_map]
          have e : (ps.map ((fun x : List UInt8 × List Stp => x.2) ∘ fun p => (within 6 (shQ p), p))) = ps := by
            rw [show ((fun x : List UInt8 × List Stp => x.2) ∘ fun p => (within 6 (shQ p), p)) = id from rfl, List.map_id]
          rw [e]
          unfold joinL
          rw [if_pos (by omega), ← hs6]
      · obtain ⟨h1, h2⟩ := hA h6 h7
        exact ⟨h1, fun n l rest hln hl hk hb => both_of _ _ h1 n (fun l rest a b => h2 n l rest hln a b) l rest hl hk hb⟩
    have hC : Hdt (showT s (ps.map shQ)) ∧ ∀ n l rest, (showT s (ps.map shQ)).length < n → skipB l = showT s (ps.map shQ) ++ rest → okR rest → (∀ b, (skipB rest).head? = some b → b ≠ 38 ∧ b ≠ 124) → anyW (notP n) l = .ok (ps.flatten ++ [s], skipB rest) := by
      by_cases h7 : s.op = 7
      · obtain ⟨e1, _, e2⟩ := hN (.inr (.inr h7))
        have e2 := e2 (by omega)
        have hz2 : takesZ s = s.n := by unfold takesZ; rw [if_neg (by omega), if_pos (.inr h7)]
        have hs7 : s = stepN 7 ps.length := by rw [e1, h7]; unfold stepN; rw [hn, hz2]
        have ht : showT s (ps.map shQ) = sepL [32, 124, 32] (ps.map fun p => within 7 (shQ p)) := by
          have : showT s (ps.map shQ) = sepL [32, 124, 32] ((ps.map shQ).map (within s.op)) := by unfold showT; simp [h7]
          rw [this, h7, List.map_map]; rfl
        have hne : ps ≠ [] := by rintro rfl; simp at hn; omega
        rw [ht]
        constructor
        · match ps, hne with
          | p :: r, _ =>
            have hw := within_hdt 7 p (ih p (by simp))
            cases r with
            | nil => exact hw
            | cons x r => simp only [List.map_cons]; rw [sepL]; exact hw.app _; intro h; cases h
        · intro n l rest hln hl hk hb
          have := join_text (bothW (notP n)) (fun b => b = 38) 124 7 (by decide) (by decide) (ps.map fun p => (within 7 (shQ p), p)) (by simpa using hne) (by
            intro x hx
            obtain ⟨p, hm, rfl⟩ := List.mem_map.1 hx
            refine ⟨within_hdt 7 p (ih p hm), fun l rest h1 h2 h3 => ⟨skipB rest, both_within p (ih p hm) n l rest ?_ h1 h2 h3, skip_skip rest⟩⟩
            have := sepL_mem [32, 124, 32] (ps.map fun p => within 7 (shQ p)) (within 7 (shQ p)) (List.mem_map_of_mem hm)
            omega) l rest (by rw [hl, List.map_map]; rfl) hk fun b h => hb b h
          unfold anyW
          rw [this, List.map_map]
          have e : (ps.map ((fun x : List UInt8 × List Stp => x.2) ∘ fun p => (within 7 (shQ p), p))) = ps := by
            rw [show ((fun x : List UInt8 × List Stp => x.2) ∘ fun p => (within 7 (shQ p), p)) = id from rfl, List.map_id]
          rw [e]
          unfold joinL
          rw [if_pos (by omega), ← hs7]
      · obtain ⟨h1, h2⟩ := hB h7
        exact ⟨h1, fun n l rest hln hl hk hb => any_of _ _ h1 n (fun l rest a b c => h2 n l rest hln a b c) l rest hl hk hb⟩
    refine ⟨?_, ?_, ?_, ?_⟩
    · rw [hsh]; exact hC.1
    · rw [hsh]; exact fun a b => (hA a b).2
    · rw [hsh]; exact fun a => (hB a).2
    · rw [hsh]; exact hC.2
theorem check_isQ (q : List Stp) (h : checkQ q = 0) : IsQ q := by
  unfold checkQ at h
  cases hd : depthQ q with
  | error n =>
    rw [hd] at h
    simp only at h
    unfold depthQ at hd
    split at hd
    · cases hd; cases h
    · unfold depthE at hd
      split at hd
      · cases hd
      · cases hd; cases h
  | ok d =>
    unfold depthQ at hd
    split at hd
    · cases hd
    · unfold depthE at hd
      split at hd
      · rename_i d' he
        exact isQ_of q _ he
      · cases hd
theorem read_text (q : List Stp) (h : IsQ q) : readP (textQ q) = .ok q := by
  have hb := back_all q h
  have := hb.c ((textQ q).length + 1) (textQ q) [] (by rw [textQ_sh]; omega) (by rw [textQ_sh, List.append_nil]; have := hb.hd.skip []; rwa [List.append_nil] at this) (by intro b h; cases h) (by intro b h; cases h)
  unfold readP
  rw [this]
  simp [skip_nil]
end Go.Fk
