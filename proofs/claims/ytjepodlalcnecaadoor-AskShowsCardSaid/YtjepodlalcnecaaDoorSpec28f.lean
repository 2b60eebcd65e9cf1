/- Plain words of layer 28: a query is a tree. No program. -/
import Derived.Test.YtjepodlalcnecaaDoorSpec28e
import Derived.Test.YtjepodlalcnecaaDoorSpec28d
set_option linter.unusedVariables false
namespace Go.Fk
/-- a query, by its last step -/
inductive IsQ : List Stp → Prop
  | mk (s : Stp) (ps : List (List Stp)) (hr : rightB s = true) (hn : (ps.length : Int) = takesZ s) (hp : ∀ p ∈ ps, IsQ p) : IsQ (ps.flatten ++ [s])
theorem stacks_q : ∀ (q : List Stp) (st st' : List Nat) (gs : List (List Stp)), stacks st q = some st' → st.length = gs.length → (∀ g ∈ gs, IsQ g) →
    ∃ hs : List (List Stp), hs.flatten = gs.flatten ++ q ∧ (∀ g ∈ hs, IsQ g) ∧ hs.length = st'.length := by
  intro q
  induction q with
  | nil =>
    intro st st' gs h hl hg
    rw [stacks] at h
    cases h
    exact ⟨gs, by simp, hg, hl.symm⟩
  | cons s r ih =>
    intro st st' gs h hl hg
    rw [stacks] at h
    split at h
    · cases h
    · rename_i hif
      have hr : rightB s = true := by cases hr : rightB s with | true => rfl | false => exact absurd (.inl hr) hif
      have h0 := right_takes s hr
      have hle : ¬ (st.length : Int) < takesZ s := fun e => hif (.inr e)
      obtain ⟨hs, h1, h2, h3⟩ := ih (pushD st (takesZ s).toNat) st' (gs.take (gs.length - (takesZ s).toNat) ++ [(gs.drop (gs.length - (takesZ s).toNat)).flatten ++ [s]]) h (by rw [pushD_len]; simp; omega) (by
        intro g hgm
        rcases List.mem_append.1 hgm with hgm | hgm
        · exact hg g (List.mem_of_mem_take hgm)
        · obtain rfl : g = _ := by simpa using hgm
          exact IsQ.mk s _ hr (by rw [List.length_drop]; omega) fun p hp => hg p (List.mem_of_mem_drop hp))
      refine ⟨hs, ?_, h2, h3⟩
      rw [h1]
      have e : gs.flatten = (gs.take (gs.length - (takesZ s).toNat)).flatten ++ (gs.drop (gs.length - (takesZ s).toNat)).flatten := by
        rw [← List.flatten_append, List.take_append_drop]
      rw [e]; simp
theorem isQ_of (q : List Stp) (d : Nat) (h : stacks [] q = some [d]) : IsQ q := by
  obtain ⟨hs, h1, h2, h3⟩ := stacks_q q [] [d] [] h rfl (by simp)
  match hs, h3 with
  | [g], _ =>
    have : g = q := by simpa using h1
    exact this ▸ h2 g (by simp)
theorem isQ_ne (q : List Stp) (h : IsQ q) : q ≠ [] := by cases h; simp
/-- a query shown: its text, and its last step's Op -/
def shQ (q : List Stp) : Sh := (shows q).headD ([], 0)
theorem textQ_sh (q : List Stp) : textQ q = (shQ q).1 := rfl
theorem fold_flat (ps : List (List Stp)) (h : ∀ p ∈ ps, ∀ st, p.foldl pushT st = st ++ [shQ p]) : ∀ st, ps.flatten.foldl pushT st = st ++ ps.map shQ := by
  induction ps with
  | nil => intro st; simp
  | cons p r ih =>
    intro st
    rw [List.flatten_cons, List.foldl_append, h p (by simp), ih fun q hq => h q (by simp [hq])]
    simp
theorem fold_push (st : List Sh) (s : Stp) (ps : List (List Stp)) (hn : (ps.length : Int) = takesZ s) : pushT (st ++ ps.map shQ) s = st ++ [(showT s (ps.map shQ), s.op)] := by
  unfold pushT
  have e : (takesZ s).toNat = (ps.map shQ).length := by rw [List.length_map]; omega
  have e2 : (st ++ ps.map shQ).length - (takesZ s).toNat = st.length := by rw [e, List.length_append]; omega
  rw [e2, List.take_left', List.drop_left']
  all_goals rfl
theorem fold_q (q : List Stp) (h : IsQ q) : ∀ st, q.foldl pushT st = st ++ [shQ q] := by
  induction h with
  | mk s ps hr hn hp ih =>
    have e : shQ (ps.flatten ++ [s]) = (showT s (ps.map shQ), s.op) := by
      unfold shQ shows
      rw [List.foldl_append, fold_flat ps ih, List.foldl_cons, List.foldl_nil, fold_push [] s ps hn]; rfl
    intro st
    rw [e, List.foldl_append, fold_flat ps ih, List.foldl_cons, List.foldl_nil, fold_push st s ps hn]
theorem shQ_mk (s : Stp) (ps : List (List Stp)) (hn : (ps.length : Int) = takesZ s) (hp : ∀ p ∈ ps, IsQ p) : shQ (ps.flatten ++ [s]) = (showT s (ps.map shQ), s.op) := by
  unfold shQ shows
  rw [List.foldl_append, fold_flat ps fun p h => fold_q p (hp p h), List.foldl_cons, List.foldl_nil, fold_push [] s ps hn]; rfl
end Go.Fk
namespace Go.Fk
/-- what may stand behind a part -/
def okR (r : List UInt8) : Prop := ∀ c, r.head? = some c → c = 32 ∨ c = 41
/-- a text that begins with no blank -/
def Hdt (t : List UInt8) : Prop := ∃ c r, t = c :: r ∧ c ≠ 32
theorem Hdt.skip {t : List UInt8} (h : Hdt t) (r : List UInt8) : skipB (t ++ r) = t ++ r := by
  obtain ⟨c, u, rfl, hc⟩ := h
  exact skip_other c (u ++ r) hc
theorem takeWhile_app (p r : List UInt8) (hp : p.all isL = true) (hr : ∀ c, r.head? = some c → isL c = false) : (p ++ r).takeWhile isL = p ∧ (p ++ r).dropWhile isL = r := by
  induction p with
  | nil =>
    cases r with
    | nil => exact ⟨rfl, rfl⟩
    | cons c r => have := hr c rfl; simp [this]
  | cons c p ih =>
    rw [List.all_cons, Bool.and_eq_true] at hp
    simp [hp.1, ih hp.2]
theorem cut_dots (a b : List UInt8) (h : (46 : UInt8) ∉ a) : Lib.cut (a ++ 46 :: 46 :: b) [46, 46] = (a, b, true) := by
  have hi : Lib.index (a ++ 46 :: 46 :: b) [46, 46] = a.length := by
    induction a with
    | nil => simp [Lib.index, List.isPrefixOf]
    | cons x a ih =>
      have hx : ¬ (46 : UInt8) = x := by rintro rfl; exact h (by simp)
      have := ih (fun hm => h (by simp [hm]))
      rw [List.cons_append, Lib.index, this]
      have e : [46, 46].isPrefixOf (x :: (a ++ 46 :: 46 :: b)) = false := by simp [List.isPrefixOf, hx]
      rw [e]
      have e2 : ((a.length : Int) == -1) = false := by simp
      simp [e2]
  unfold Lib.cut
  rw [hi, if_pos (by omega)]
  simp [List.drop_append]
theorem one_self (r : List UInt8) (h : (oneOf r == some r) = true) : r ≠ [] ∧ r.all isL = true := by
  have h : oneOf r = some r := by simpa using h
  unfold oneOf at h
  split at h
  · rename_i hh; exact ⟨hh.1, hh.2.2⟩
  · cases h
theorem okR_letter {rest : List UInt8} (h : okR rest) : ∀ c, rest.head? = some c → isL c = false := by
  intro c hc
  rcases h c hc with rfl | rfl <;> decide
theorem word_text (w rest : List UInt8) (h : termB w = true) (hr : ∀ c, rest.head? = some c → isL c = false) :
    wordP (w ++ rest) = (if rest.head? = some 42 then (leafL 2 w, rest.drop 1) else (leafL 1 w, rest)) ∧ smallO w = some w ∧ ∃ c r, w = c :: r ∧ (c = 64 ∨ isL c = true) := by
  unfold termB at h
  cases w with
  | nil => cases h
  | cons c r =>
    simp only at h
    by_cases hc : c = 64
    · subst hc
      rw [if_pos rfl] at h
      obtain ⟨h1, h2⟩ := one_self r h
      obtain ⟨e1, e2⟩ := takeWhile_app r rest h2 hr
      refine ⟨?_, ?_, 64, r, rfl, .inl rfl⟩
      · unfold wordP
        simp [e1, e2]
      · unfold smallO
        have : oneOf r = some r := by simpa using h
        simp [this]
    · rw [if_neg hc] at h
      obtain ⟨h1, h2⟩ := one_self (c :: r) h
      obtain ⟨e1, e2⟩ := takeWhile_app (c :: r) rest h2 hr
      refine ⟨?_, ?_, c, r, rfl, .inr ?_⟩
      · unfold wordP
        rw [List.cons_append] at e1 e2 ⊢
        simp [hc, e1, e2]
      · unfold smallO
        have : oneOf (c :: r) = some (c :: r) := by simpa using h
        simp [hc, this]
      · rw [List.all_cons, Bool.and_eq_true] at h2; exact h2.1
theorem span_text (op : Int) (o e : UInt8) (a b : UInt64) (rest : List UInt8) (ho : o ≠ e) (he : (e : UInt8) ≠ 46) (hd : ∀ u, e ∉ Lib.decDigits u) (hp : ∀ u, (46 : UInt8) ∉ Lib.decDigits u) :
    spanP op e (o :: (Lib.decDigits a.toNat ++ 46 :: 46 :: (Lib.decDigits b.toNat ++ [e])) ++ rest) = ([spanS op a b], rest) := by
  have e1 : o :: (Lib.decDigits a.toNat ++ 46 :: 46 :: (Lib.decDigits b.toNat ++ [e])) ++ rest = (o :: (Lib.decDigits a.toNat ++ 46 :: 46 :: Lib.decDigits b.toNat)) ++ e :: rest := by simp
  rw [e1]
  obtain ⟨h1, h2⟩ := bef_of e (o :: (Lib.decDigits a.toNat ++ 46 :: 46 :: Lib.decDigits b.toNat)) rest (by
    intro h
    rcases List.mem_cons.1 h with h | h
    · exact ho h.symm
    · rcases List.mem_append.1 h with h | h
      · exact hd _ h
      · rcases List.mem_cons.1 h with h | h
        · exact he h
        · rcases List.mem_cons.1 h with h | h
          · exact he h
          · exact hd _ h)
  unfold spanP
  rw [if_pos (by simp), h1, h2]
  have e2 : (o :: (Lib.decDigits a.toNat ++ 46 :: 46 :: Lib.decDigits b.toNat)).drop 1 = Lib.decDigits a.toNat ++ 46 :: 46 :: Lib.decDigits b.toNat := rfl
  have n1 := (numL_iff (Lib.decDigits a.toNat) a.toNat).2 ⟨a.toNat_lt, rfl⟩
  have n2 := (numL_iff (Lib.decDigits b.toNat) b.toNat).2 ⟨b.toNat_lt, rfl⟩
  rw [e2, cut_dots _ _ (hp _)]
  simp [n1, n2]
theorem leaf_text (s : Stp) (rest : List UInt8) (hr : rightB s = true) (h : s.op = 1 ∨ s.op = 2 ∨ s.op = 3 ∨ s.op = 4) (hk : okR rest) :
    leafQ (showT s [] ++ rest) = ([s], rest) ∧ ∃ c r, showT s [] = c :: r ∧ c ≠ 32 ∧ c ≠ 33 ∧ c ≠ 40 := by
  obtain ⟨op, n, w, fa, fb⟩ := s
  have hz : ∀ u : UInt64, (u.toNat : Int) = 0 → u = 0 := fun u h => UInt64.toNat_inj.1 (Int.ofNat.inj h)
  have hw : ∀ (w : List UInt8) (c : UInt8) (r : List UInt8), w = c :: r → (c = 64 ∨ isL c = true) → c ≠ 32 ∧ c ≠ 33 ∧ c ≠ 40 ∧ c ≠ 91 ∧ c ≠ 60 := by
    intro w c r _ hc
    refine ⟨?_, ?_, ?_, ?_, ?_⟩ <;> (rintro rfl; revert hc; decide)
  simp only at h
  rcases h with rfl | rfl | rfl | rfl
  · unfold rightB at hr
    simp at hr
    obtain ⟨⟨rfl, h1, h2⟩, ht⟩ := hr
    have e1 := hz fa (by omega)
    have e2 := hz fb (by omega)
    subst e1 e2
    obtain ⟨q1, q2, c, r, q3, q4⟩ := word_text w rest ht (okR_letter hk)
    obtain ⟨c1, c2, c3, c4, c5⟩ := hw w c r q3 q4
    have hne : rest.head? ≠ some 42 := by intro h; rcases hk 42 h with h | h <;> cases h
    rw [if_neg hne] at q1
    refine ⟨?_, c, r, ?_, c1, c2, c3⟩
    · show leafQ (w ++ rest) = _
      unfold leafQ
      rw [q3, List.cons_append, List.head?_cons, if_neg (by simpa using c4), if_neg (by simpa using c5), ← List.cons_append, ← q3, q1]
      unfold leafL; rw [q2]
    · show w = _; exact q3
  · unfold rightB at hr
    simp at hr
    obtain ⟨⟨rfl, h1, h2⟩, ht⟩ := hr
    have e1 := hz fa (by omega)
    have e2 := hz fb (by omega)
    subst e1 e2
    obtain ⟨q1, q2, c, r, q3, q4⟩ := word_text w (42 :: rest) ht (by intro c hc; cases hc; decide)
    obtain ⟨c1, c2, c3, c4, c5⟩ := hw w c r q3 q4
    rw [if_pos (show ((42 : UInt8) :: rest).head? = some 42 from rfl)] at q1
    refine ⟨?_, c, r ++ [42], ?_, c1, c2, c3⟩
    · show leafQ (w ++ [42] ++ rest) = _
      rw [List.append_assoc]
      show leafQ (w ++ 42 :: rest) = _
      unfold leafQ
      rw [q3, List.cons_append, List.head?_cons, if_neg (by simpa using c4), if_neg (by simpa using c5), ← List.cons_append, ← q3, q1]
      unfold leafL; rw [q2]; rfl
    · show w ++ [42] = _; rw [q3]; rfl
  · unfold rightB at hr
    simp at hr
    obtain ⟨rfl, rfl⟩ := hr
    refine ⟨?_, _, _, rfl, by decide, by decide, by decide⟩
    exact span_text 3 91 93 fa fb rest (by decide) (by decide) (fun u => dec_no u 93 (by decide)) (fun u => dec_no u 46 (by decide))
  · unfold rightB at hr
    simp at hr
    obtain ⟨rfl, rfl⟩ := hr
    refine ⟨?_, _, _, rfl, by decide, by decide, by decide⟩
    exact span_text 4 60 62 fa fb rest (by decide) (by decide) (fun u => dec_no u 62 (by decide)) (fun u => dec_no u 46 (by decide))
end Go.Fk
namespace Go.Fk
theorem Hdt.app {t : List UInt8} (h : Hdt t) (r : List UInt8) : Hdt (t ++ r) := by
  obtain ⟨c, u, rfl, hc⟩ := h
  exact ⟨c, u ++ r, rfl, hc⟩
theorem Hdt.len {t : List UInt8} (h : Hdt t) : 1 ≤ t.length := by
  obtain ⟨c, u, rfl, _⟩ := h; simp
theorem takeB_skip (c : UInt8) (l : List UInt8) : takeB c (skipB l) = takeB c l := by unfold takeB; rw [skip_skip]
theorem takeB_of (c : UInt8) (l l' : List UInt8) (h : skipB l = skipB l') : takeB c l = takeB c l' := by unfold takeB; rw [h]
theorem row_text (part : List UInt8 → Rd) (bad : UInt8 → Prop) (c : UInt8) (hc : ¬ bad c) (hc32 : c ≠ 32) : ∀ (ts : List (List UInt8 × List Stp)), ts ≠ [] →
    (∀ t ∈ ts, Hdt t.1 ∧ ∀ l rest, skipB l = t.1 ++ rest → okR rest → (∀ b, (skipB rest).head? = some b → ¬ bad b) → ∃ r, part l = .ok (t.2, r) ∧ skipB r = skipB rest) →
    ∀ (f : Nat) (l rest : List UInt8), ts.length ≤ f → skipB l = sepL [32, c, 32] (ts.map (·.1)) ++ rest → okR rest → (∀ b, (skipB rest).head? = some b → ¬ bad b ∧ b ≠ c) →
      rowP part c f l = .ok (ts.map (·.2), skipB rest) := by
  intro ts
  induction ts with
  | nil => intro h; exact absurd rfl h
  | cons t r ih =>
    intro _ ht f l rest hf hl hk hb
    match f, hf with
    | f + 1, hf =>
      rw [rowP]
      cases r with
      | nil =>
        obtain ⟨r1, hp, hr⟩ := (ht t (by simp)).2 l rest (by simpa [sepL] using hl) hk fun b h => (hb b h).1
        have hno : takeB c r1 = (false, skipB rest) := by
          rw [take_no c r1 (by rw [hr]; intro h; exact (hb c h).2 rfl), hr]
        rw [hp]
        simp [hno]
      | cons u r =>
        have hsep : sepL [32, c, 32] (((t :: u :: r)).map (·.1)) = t.1 ++ ([32, c, 32] ++ sepL [32, c, 32] ((u :: r).map (·.1))) := by
          simp only [List.map_cons]; rw [sepL]; intro h; cases h
        have hu : Hdt (sepL [32, c, 32] ((u :: r).map (·.1))) := by
          have hu1 := (ht u (by simp)).1
          cases r with
          | nil => exact hu1
          | cons x r => simp only [List.map_cons]; rw [sepL]; exact hu1.app _; intro h; cases h
        rw [hsep] at hl
        have hs1 : skipB ([32, c, 32] ++ sepL [32, c, 32] ((u :: r).map (·.1)) ++ rest) = c :: 32 :: (sepL [32, c, 32] ((u :: r).map (·.1)) ++ rest) := by
          show skipB (32 :: c :: 32 :: (sepL [32, c, 32] ((u :: r).map (·.1)) ++ rest)) = _
          rw [skip_blank, skip_other c _ hc32]
        obtain ⟨r1, hp, hr⟩ := (ht t (by simp)).2 l ([32, c, 32] ++ sepL [32, c, 32] ((u :: r).map (·.1)) ++ rest) (by rw [hl]; simp) (by intro b h; exact .inl (by cases h; rfl)) (by
          intro b h; rw [hs1] at h; cases h; exact hc)
        rw [hs1] at hr
        have hyes := take_yes c r1 _ hr
        have hs2 : skipB (32 :: (sepL [32, c, 32] ((u :: r).map (·.1)) ++ rest)) = sepL [32, c, 32] ((u :: r).map (·.1)) ++ rest := by
          rw [skip_blank]; exact hu.skip rest
        have h2 := ih (by simp) (fun x hx => ht x (by simp [hx])) f _ rest (by simp at hf ⊢; omega) hs2 hk hb
        rw [hp]
        simp only [hyes, if_true, h2]
        rfl
theorem sepL_count (sep : List UInt8) : ∀ (xs : List (List UInt8)), (∀ x ∈ xs, 1 ≤ x.length) → xs.length ≤ (sepL sep xs).length := by
  intro xs
  induction xs with
  | nil => simp
  | cons x r ih =>
    intro h
    have hx := h x (by simp)
    cases r with
    | nil => simpa [sepL] using hx
    | cons y r =>
      have := ih fun z hz => h z (by simp [hz])
      rw [sepL]
      · rw [List.length_append, List.length_append]; simp only [List.length_cons] at this ⊢; omega
      · intro h; cases h
theorem join_text (part : List UInt8 → Rd) (bad : UInt8 → Prop) (c : UInt8) (op : Int) (hc : ¬ bad c) (hc32 : c ≠ 32) (ts : List (List UInt8 × List Stp)) (hne : ts ≠ [])
    (ht : ∀ t ∈ ts, Hdt t.1 ∧ ∀ l rest, skipB l = t.1 ++ rest → okR rest → (∀ b, (skipB rest).head? = some b → ¬ bad b) → ∃ r, part l = .ok (t.2, r) ∧ skipB r = skipB rest)
    (l rest : List UInt8) (hl : skipB l = sepL [32, c, 32] (ts.map (·.1)) ++ rest) (hk : okR rest) (hb : ∀ b, (skipB rest).head? = some b → ¬ bad b ∧ b ≠ c) :
    joinP part c op l = .ok (joinL op (ts.map (·.2)), skipB rest) := by
  have hcnt := sepL_count [32, c, 32] (ts.map (·.1)) (by
    intro x hx
    obtain ⟨t, hm, rfl⟩ := List.mem_map.1 hx
    exact (ht t hm).1.len)
  have hle := skip_le l
  rw [hl, List.length_append] at hle
  rw [List.length_map] at hcnt
  unfold joinP
  rw [row_text part bad c hc hc32 ts hne ht (l.length + 1) l rest (by omega) hl hk hb]
/-- what a query's text is read as -/
structure Back (q : List Stp) : Prop where
  hd : Hdt (shQ q).1
  a : (shQ q).2 ≠ 6 → (shQ q).2 ≠ 7 → ∀ n l rest, (shQ q).1.length < n → skipB l = (shQ q).1 ++ rest → okR rest → notP n l = .ok (q, rest)
  b : (shQ q).2 ≠ 7 → ∀ n l rest, (shQ q).1.length < n → skipB l = (shQ q).1 ++ rest → okR rest → (∀ b, (skipB rest).head? = some b → b ≠ 38) → bothW (notP n) l = .ok (q, skipB rest)
  c : ∀ n l rest, (shQ q).1.length < n → skipB l = (shQ q).1 ++ rest → okR rest → (∀ b, (skipB rest).head? = some b → b ≠ 38 ∧ b ≠ 124) → anyW (notP n) l = .ok (q, skipB rest)
theorem joinL_one (op : Int) (q : List Stp) : joinL op [q] = q := by simp [joinL]
theorem both_of (q : List Stp) (t : List UInt8) (ht : Hdt t) (n : Nat) (h : ∀ l rest, skipB l = t ++ rest → okR rest → notP n l = .ok (q, rest)) (l rest : List UInt8) (hl : skipB l = t ++ rest) (hk : okR rest)
    (hb : ∀ b, (skipB rest).head? = some b → b ≠ 38) : bothW (notP n) l = .ok (q, skipB rest) := by
  have := join_text (notP n) (fun _ => False) 38 6 (by simp) (by decide) [(t, q)] (by simp) (by
    intro x hx
    obtain rfl : x = (t, q) := by simpa using hx
    exact ⟨ht, fun l rest h1 h2 _ => ⟨rest, h l rest h1 h2, rfl⟩⟩) l rest hl hk fun b h => ⟨by simp, hb b h⟩
  unfold bothW
  rw [this]
  simp [joinL_one]
theorem any_of (q : List Stp) (t : List UInt8) (ht : Hdt t) (n : Nat) (h : ∀ l rest, skipB l = t ++ rest → okR rest → (∀ b, (skipB rest).head? = some b → b ≠ 38) → bothW (notP n) l = .ok (q, skipB rest)) (l rest : List UInt8) (hl : skipB l = t ++ rest) (hk : okR rest)
    (hb : ∀ b, (skipB rest).head? = some b → b ≠ 38 ∧ b ≠ 124) : anyW (notP n) l = .ok (q, skipB rest) := by
  have := join_text (bothW (notP n)) (fun b => b = 38) 124 7 (by decide) (by decide) [(t, q)] (by simp) (by
    intro x hx
    obtain rfl : x = (t, q) := by simpa using hx
    exact ⟨ht, fun l rest h1 h2 h3 => ⟨skipB rest, h l rest h1 h2 h3, skip_skip rest⟩⟩) l rest hl hk fun b h => hb b h
  unfold anyW
  rw [this]
  simp [joinL_one]
theorem within_hdt (op : Int) (q : List Stp) (hq : Back q) : Hdt (within op (shQ q)) := by
  unfold within
  split
  · exact ⟨40, _, rfl, by decide⟩
  · exact hq.hd
theorem not_sign (n : Nat) (l t rest : List UInt8) (hl : skipB l = 40 :: (t ++ [41]) ++ rest) (q : List Stp) (hc : anyW (notP n) (t ++ 41 :: rest) = .ok (q, 41 :: rest)) : notP (n + 1) l = .ok (q, rest) := by
  have e1 : takeB 33 l = (false, skipB l) := take_no 33 l (by rw [hl]; simp)
  have e2 : takeB 40 (skipB l) = (true, t ++ 41 :: rest) := by
    rw [takeB_skip]; exact take_yes 40 l _ (by rw [hl]; simp)
  have e3 : takeB 41 (41 :: rest) = (true, rest) := take_yes 41 _ _ (skip_other 41 rest (by decide))
  rw [notP, e1]
  simp [e2, hc, closeP, e3]
theorem not_within (op : Int) (hop : op ≠ 7) (q : List Stp) (hq : Back q) (n : Nat) (l rest : List UInt8) (hn : (within op (shQ q)).length < n) (hl : skipB l = within op (shQ q) ++ rest) (hk : okR rest) : notP n l = .ok (q, rest) := by
  unfold within at hn hl
  split at hn
  · rename_i h
    rw [if_pos h] at hl
    match n, hn with
    | n + 1, hn =>
      refine not_sign n l (shQ q).1 rest hl q ?_
      have hs : skipB (41 :: rest) = 41 :: rest := skip_other 41 rest (by decide)
      have := hq.c n ((shQ q).1 ++ 41 :: rest) (41 :: rest) (by simp at hn; omega) (hq.hd.skip _) (by intro b h; cases h; exact .inr rfl) (by rw [hs]; intro b h; cases h; exact ⟨by decide, by decide⟩)
      rw [this, hs]
  · rename_i h
    rw [if_neg h] at hl
    exact hq.a (fun e => h (.inr ⟨e, hop⟩)) (fun e => h (.inl e)) n l rest hn hl hk
theorem both_within (q : List Stp) (hq : Back q) (n : Nat) (l rest : List UInt8) (hn : (within 7 (shQ q)).length < n) (hl : skipB l = within 7 (shQ q) ++ rest) (hk : okR rest)
    (hb : ∀ b, (skipB rest).head? = some b → b ≠ 38) : bothW (notP n) l = .ok (q, skipB rest) := by
  by_cases h : (shQ q).2 = 7
  · have hw : within 7 (shQ q) = 40 :: ((shQ q).1 ++ [41]) := by unfold within; rw [if_pos (.inl h)]
    have hx : ∀ op : Int, within op (shQ q) = 40 :: ((shQ q).1 ++ [41]) := fun op => by unfold within; rw [if_pos (.inl h)]
    rw [hw] at hn hl
    refine both_of q (40 :: ((shQ q).1 ++ [41])) ⟨40, _, rfl, by decide⟩ n (fun l rest h1 h2 => ?_) l rest hl hk hb
    rw [← hx 6] at h1 hn
    exact not_within 6 (by decide) q hq n l rest hn h1 h2
  · have hw : within 7 (shQ q) = (shQ q).1 := by unfold within; rw [if_neg (by rintro (h1 | ⟨_, h2⟩); exact h h1; exact h2 rfl)]
    rw [hw] at hn hl
    exact hq.b h n l rest hn hl hk hb
theorem sepL_mem (sep : List UInt8) (xs : List (List UInt8)) (x : List UInt8) (h : x ∈ xs) : x.length ≤ (sepL sep xs).length := by
  induction xs with
  | nil => cases h
  | cons y r ih =>
    cases r with
    | nil => obtain rfl : x = y := by simpa using h
             simp [sepL]
    | cons z r =>
      rw [sepL]
      · rw [List.length_append, List.length_append]
        rcases List.mem_cons.1 h with rfl | h
        · omega
        · have := ih h; omega
      · intro h; cases h
theorem back_all (q : List Stp) (h : IsQ q) : Back q := by
  induction h with
  | mk s ps hr hn hp ih =>
    have hsh := shQ_mk s ps hn hp
    have hz : ∀ u : UInt64, (u.toNat : Int) = 0 → u = 0 := fun u h => UInt64.toNat_inj.1 (Int.ofNat.inj h)
    have hN : s.op = 5 ∨ s.op = 6 ∨ s.op = 7 → s = ⟨s.op, s.n, [], 0, 0⟩ ∧ (s.op = 5 → s.n = 0) ∧ (s.op ≠ 5 → 2 ≤ s.n) := by
      intro h
      obtain ⟨op, n, w, fa, fb⟩ := s
      simp only at h ⊢
      rcases h with rfl | rfl | rfl
      all_goals (unfold rightB at hr; simp at hr)
      · obtain ⟨rfl, e1, e2, rfl⟩ := hr
        rw [hz fa (by omega), hz fb (by omega)]; simp
      · obtain ⟨rfl, e1, e2, h2⟩ := hr
        rw [hz fa (by omega), hz fb (by omega)]; simp; exact h2
      · obtain ⟨rfl, e1, e2, h2⟩ := hr
        rw [hz fa (by omega), hz fb (by omega)]; simp; exact h2
    -- a part by itself
    have hA : s.op ≠ 6 → s.op ≠ 7 → Hdt (showT s (ps.map shQ)) ∧ ∀ n l rest, (showT s (ps.map shQ)).length < n → skipB l = showT s (ps.map shQ) ++ rest → okR rest → notP n l = .ok (ps.flatten ++ [s], rest) := by
      intro h6 h7
      by_cases h5 : s.op = 5
      · obtain ⟨e1, e2, _⟩ := hN (.inl h5)
        have hs5 : s = stepN 5 0 := by rw [e1, h5, e2 h5]; rfl
        have hl1 : ps.length = 1 := by
          have : takesZ s = 1 := by unfold takesZ; rw [if_pos h5]
          omega
        match ps, hl1 with
        | [p], _ =>
          have hp1 := ih p (by simp)
          have ht : showT s ([p].map shQ) = 33 :: within 5 (shQ p) := by rw [hs5]; rfl
          rw [ht]
          refine ⟨⟨33, _, rfl, by decide⟩, ?_⟩
          intro n l rest hln hl hk
          match n, hln with
          | n + 1, hln =>
            have e1 : takeB 33 l = (true, within 5 (shQ p) ++ rest) := take_yes 33 l _ (by rw [hl]; rfl)
            have e2 := not_within 5 (by decide) p hp1 n (within 5 (shQ p) ++ rest) rest (by simp at hln; omega) ((within_hdt 5 p hp1).skip rest) hk
            rw [notP, e1]
            simp [e2, hs5]
      · have h14 : s.op = 1 ∨ s.op = 2 ∨ s.op = 3 ∨ s.op = 4 := by
          unfold rightB at hr
          by_cases h12 : s.op = 1 ∨ s.op = 2
          · omega
          · by_cases h34 : s.op = 3 ∨ s.op = 4
            · omega
            · rw [if_neg h12, if_neg h34, if_neg (by omega)] at hr
              simp at hr
              exact absurd hr.1 h5
        have hl0 : ps.length = 0 := by
          have : takesZ s = 0 := by unfold takesZ; rw [if_neg h5, if_neg (by omega)]
          omega
        obtain rfl := List.eq_nil_of_length_eq_zero hl0
        have hlt : ∀ rest, okR rest → leafQ (showT s [] ++ rest) = ([s], rest) ∧ ∃ c r, showT s [] = c :: r ∧ c ≠ 32 ∧ c ≠ 33 ∧ c ≠ 40 := fun rest hk => leaf_text s rest hr h14 hk
        obtain ⟨_, c, r, hcr, c1, c2, c3⟩ := hlt [] (by intro b h; cases h)
        refine ⟨⟨c, r, hcr, c1⟩, ?_⟩
        intro n l rest hln hl hk
        have hl' : skipB l = showT s [] ++ rest := hl
        match n, hln with
        | n + 1, hln =>
          have hh : (skipB l).head? = some c := by rw [hl', hcr]; rfl
          have e1 : takeB 33 l = (false, skipB l) := take_no 33 l (by rw [hh]; simpa using c2)
          have e2 : takeB 40 (skipB l) = (false, skipB l) := by
            rw [takeB_skip]; exact take_no 40 l (by rw [hh]; simpa using c3)
          rw [notP, e1]
          simp only [Bool.false_eq_true, if_false, e2]
          unfold leafP
          rw [skip_skip, hl', (hlt rest hk).1]
          simp
    have hB : s.op ≠ 7 → Hdt (showT s (ps.map shQ)) ∧ ∀ n l rest, (showT s (ps.map shQ)).length < n → skipB l = showT s (ps.map shQ) ++ rest → okR rest → (∀ b, (skipB rest).head? = some b → b ≠ 38) → bothW (notP n) l = .ok (ps.flatten ++ [s], skipB rest) := by
      intro h7
      by_cases h6 : s.op = 6
      · obtain ⟨e1, _, e2⟩ := hN (.inr (.inl h6))
        have e2 := e2 (by omega)
        have hz2 : takesZ s = s.n := by unfold takesZ; rw [if_neg (by omega), if_pos (.inl h6)]
        have hs6 : s = stepN 6 ps.length := by rw [e1, h6]; unfold stepN; rw [hn, hz2]
        have ht : showT s (ps.map shQ) = sepL [32, 38, 32] (ps.map fun p => within 6 (shQ p)) := by
          have : showT s (ps.map shQ) = sepL [32, 38, 32] ((ps.map shQ).map (within s.op)) := by unfold showT; simp [h6]
          rw [this, h6, List.map_map]; rfl
        have hne : ps ≠ [] := by rintro rfl; simp at hn; omega
        rw [ht]
        constructor
        · match ps, hne with
          | p :: r, _ =>
            have hw := within_hdt 6 p (ih p (by simp))
            cases r with
            | nil => exact hw
            | cons x r => simp only [List.map_cons]; rw [sepL]; exact hw.app _; intro h; cases h
        · intro n l rest hln hl hk hb
          have := join_text (notP n) (fun _ => False) 38 6 (by simp) (by decide) (ps.map fun p => (within 6 (shQ p), p)) (by simpa using hne) (by
            intro x hx
            obtain ⟨p, hm, rfl⟩ := List.mem_map.1 hx
            refine ⟨within_hdt 6 p (ih p hm), fun l rest h1 h2 _ => ⟨rest, not_within 6 (by decide) p (ih p hm) n l rest ?_ h1 h2, rfl⟩⟩
            have := sepL_mem [32, 38, 32] (ps.map fun p => within 6 (shQ p)) (within 6 (shQ p)) (List.mem_map_of_mem hm)
            omega) l rest (by rw [hl, List.map_map]; rfl) hk fun b h => ⟨by simp, hb b h⟩
          unfold bothW
          rw [this, List.map_map]
          have e : (ps.map ((fun x : List UInt8 × List Stp => x.2) ∘ fun p => (within 6 (shQ p), p))) = ps := by
            rw [show ((fun x : List UInt8 × List Stp => x.2) ∘ fun p => (within 6 (shQ p), p)) = id from rfl, List.map_id]
          rw [e]
          unfold joinL
          rw [if_pos (by omega), ← hs6]
      · obtain ⟨h1, h2⟩ := hA h6 h7
        exact ⟨h1, fun n l rest hln hl hk hb => both_of _ _ h1 n (fun l rest a b => h2 n l rest hln a b) l rest hl hk hb⟩
    have hC : Hdt (showT s (ps.map shQ)) ∧ ∀ n l rest, (showT s (ps.map shQ)).length < n → skipB l = showT s (ps.map shQ) ++ rest → okR rest → (∀ b, (skipB rest).head? = some b → b ≠ 38 ∧ b ≠ 124) → anyW (notP n) l = .ok (ps.flatten ++ [s], skipB rest) := by
      by_cases h7 : s.op = 7
      · obtain ⟨e1, _, e2⟩ := hN (.inr (.inr h7))
        have e2 := e2 (by omega)
        have hz2 : takesZ s = s.n := by unfold takesZ; rw [if_neg (by omega), if_pos (.inr h7)]
        have hs7 : s = stepN 7 ps.length := by rw [e1, h7]; unfold stepN; rw [hn, hz2]
        have ht : showT s (ps.map shQ) = sepL [32, 124, 32] (ps.map fun p => within 7 (shQ p)) := by
          have : showT s (ps.map shQ) = sepL [32, 124, 32] ((ps.map shQ).map (within s.op)) := by unfold showT; simp [h7]
          rw [this, h7, List.map_map]; rfl
        have hne : ps ≠ [] := by rintro rfl; simp at hn; omega
        rw [ht]
        constructor
        · match ps, hne with
          | p :: r, _ =>
            have hw := within_hdt 7 p (ih p (by simp))
            cases r with
            | nil => exact hw
            | cons x r => simp only [List.map_cons]; rw [sepL]; exact hw.app _; intro h; cases h
        · intro n l rest hln hl hk hb
          have := join_text (bothW (notP n)) (fun b => b = 38) 124 7 (by decide) (by decide) (ps.map fun p => (within 7 (shQ p), p)) (by simpa using hne) (by
            intro x hx
            obtain ⟨p, hm, rfl⟩ := List.mem_map.1 hx
            refine ⟨within_hdt 7 p (ih p hm), fun l rest h1 h2 h3 => ⟨skipB rest, both_within p (ih p hm) n l rest ?_ h1 h2 h3, skip_skip rest⟩⟩
            have := sepL_mem [32, 124, 32] (ps.map fun p => within 7 (shQ p)) (within 7 (shQ p)) (List.mem_map_of_mem hm)
            omega) l rest (by rw [hl, List.map_map]; rfl) hk fun b h => hb b h
          unfold anyW
          rw [this, List.map_map]
          have e : (ps.map ((fun x : List UInt8 × List Stp => x.2) ∘ fun p => (within 7 (shQ p), p))) = ps := by
            rw [show ((fun x : List UInt8 × List Stp => x.2) ∘ fun p => (within 7 (shQ p), p)) = id from rfl, List.map_id]
          rw [e]
          unfold joinL
          rw [if_pos (by omega), ← hs7]
      · obtain ⟨h1, h2⟩ := hB h7
        exact ⟨h1, fun n l rest hln hl hk hb => any_of _ _ h1 n (fun l rest a b c => h2 n l rest hln a b c) l rest hl hk hb⟩
    refine ⟨?_, ?_, ?_, ?_⟩
    · rw [hsh]; exact hC.1
    · rw [hsh]; exact fun a b => (hA a b).2
    · rw [hsh]; exact fun a => (hB a).2
    · rw [hsh]; exact hC.2
theorem check_isQ (q : List Stp) (h : checkQ q = 0) : IsQ q := by
  unfold checkQ at h
  cases hd : depthQ q with
  | error n =>
    rw [hd] at h
    simp only at h
    unfold depthQ at hd
    split at hd
    · cases hd; cases h
    · unfold depthE at hd
      split at hd
      · cases hd
      · cases hd; cases h
  | ok d =>
    unfold depthQ at hd
    split at hd
    · cases hd
    · unfold depthE at hd
      split at hd
      · rename_i d' he
        exact isQ_of q _ he
      · cases hd
theorem read_text (q : List Stp) (h : IsQ q) : readP (textQ q) = .ok q := by
  have hb := back_all q h
  have := hb.c ((textQ q).length + 1) (textQ q) [] (by rw [textQ_sh]; omega) (by rw [textQ_sh, List.append_nil]; have := hb.hd.skip []; rwa [List.append_nil] at this) (by intro b h; cases h) (by intro b h; cases h)
  unfold readP
  rw [this]
  simp [skip_nil]
end Go.Fk
