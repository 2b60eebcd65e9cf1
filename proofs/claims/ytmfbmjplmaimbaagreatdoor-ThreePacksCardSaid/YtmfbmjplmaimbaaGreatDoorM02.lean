/- Parts of the proof of ThreePacks: Spec15 SpecWd SpecV SpecP. -/
import Derived.WalkKit
import Derived.Test.YtmfbmjplmaimbaaGreatDoorM08
set_option linter.unusedVariables false
set_option linter.unusedSectionVars false
set_option linter.unusedSimpArgs false
set_option maxHeartbeats 8000000
namespace Go.Fk
def isL (c : UInt8) : Bool := decide (65 ≤ c.toNat ∧ c.toNat ≤ 90) || decide (97 ≤ c.toNat ∧ c.toNat ≤ 122) || decide (48 ≤ c.toNat ∧ c.toNat ≤ 57)
def sm (c : UInt8) : UInt8 := if 65 ≤ c.toNat ∧ c.toNat ≤ 90 then c + 32 else c
def sml (c : UInt8) : UInt8 := if isL c then sm c else 0
def oneOf (l : List UInt8) : Option (List UInt8) := if l ≠ [] ∧ l.length ≤ 24 ∧ l.all isL = true then some (l.map sm) else none
theorem isL_iff (c : UInt8) : isL c = true ↔ (65 ≤ c.toNat ∧ c.toNat ≤ 90) ∨ (97 ≤ c.toNat ∧ c.toNat ≤ 122) ∨ (48 ≤ c.toNat ∧ c.toNat ≤ 57) := by
 simp only [isL, Bool.or_eq_true, decide_eq_true_eq]; omega
theorem isL_not (c : UInt8) : isL c = false ↔ ¬ ((65 ≤ c.toNat ∧ c.toNat ≤ 90) ∨ (97 ≤ c.toNat ∧ c.toNat ≤ 122) ∨ (48 ≤ c.toNat ∧ c.toNat ≤ 57)) := by
 rw [← isL_iff]; simp
theorem sm_toNat (c : UInt8) : (sm c).toNat = if 65 ≤ c.toNat ∧ c.toNat ≤ 90 then c.toNat + 32 else c.toNat := by
 unfold sm; split
 · rw [UInt8.toNat_add]; have : (32 : UInt8).toNat = 32 := rfl; rw [this]; omega
 · rfl
theorem sm_ne_zero (c : UInt8) (h : isL c = true) : sm c ≠ 0 := by
 intro e
 have := congrArg UInt8.toNat e
 rw [sm_toNat] at this
 rw [isL_iff] at h
 have z : (0 : UInt8).toNat = 0 := rfl
 split at this <;> omega
theorem sml_eq_zero (c : UInt8) : sml c = 0 ↔ isL c = false := by
 unfold sml; constructor
 · intro h
   cases h2 : isL c with
   | false => rfl
   | true => rw [h2, if_pos rfl] at h; exact absurd h (sm_ne_zero c h2)
 · intro h; simp [h]
def maskRow (g : List UInt8 → Bool) (row : List UInt8) : List UInt8 := if g ((row.map sm).take 24) then List.replicate row.length 42 else row
def maskGo (g : List UInt8 → Bool) : List UInt8 → List UInt8 → List UInt8
 | row, [] => maskRow g row
 | row, c :: r => if isL c then maskGo g (row ++ [c]) r else maskRow g row ++ c :: maskGo g [] r
def maskNum (g : List UInt8 → Bool) : List UInt8 → List UInt8 → Nat
 | row, [] => if row ≠ [] ∧ g ((row.map sm).take 24) = true then 1 else 0
 | row, c :: r => if isL c then maskNum g (row ++ [c]) r else (if row ≠ [] ∧ g ((row.map sm).take 24) = true then 1 else 0) + maskNum g [] r
def wordsGo : List UInt8 → List UInt8 → List (List UInt8)
 | row, [] => if row = [] then [] else [(row.map sm).take 24]
 | row, c :: r => if isL c then wordsGo (row ++ [c]) r else (if row = [] then [] else [(row.map sm).take 24]) ++ wordsGo [] r
def wordsOf (l : List UInt8) : List (List UInt8) := wordsGo [] l
def rowWs (row : List UInt8) : List (List UInt8) := if row = [] then [] else [(row.map sm).take 24]
def wordAt : List UInt8 → List UInt8
 | [] => []
 | c :: s => if isL c then sm c :: wordAt s else []
def wrdGo : Bool → List UInt8 → List (List UInt8)
 | _, [] => []
 | inw, c :: s => if isL c then (if inw then wrdGo true s else (wordAt (c :: s)).take 24 :: wrdGo true s) else wrdGo false s
theorem words_wrd (s : List UInt8) : wordsGo [] s = wrdGo false s ∧ ∀ row, row ≠ [] → wordsGo row s = (row.map sm ++ wordAt s).take 24 :: wrdGo true s := by
 induction s with
 | nil =>
  refine ⟨by simp [wordsGo, wrdGo], fun row h => ?_⟩
  simp [wordsGo, h, wrdGo, wordAt]
 | cons c s ih =>
  by_cases h0 : isL c = true
  · have e : wordAt (c :: s) = sm c :: wordAt s := by rw [wordAt, if_pos h0]
    refine ⟨?_, fun row h => ?_⟩
    · rw [wordsGo, if_pos h0, wrdGo, if_pos h0, e, ih.2 _ (by simp)]
      simp
    · rw [wordsGo, if_pos h0, wrdGo, if_pos h0, e, ih.2 _ (by simp)]
      simp
  · refine ⟨by simp [wordsGo, wrdGo, h0, ih.1], fun row h => ?_⟩
    simp [wordsGo, h, wrdGo, wordAt, h0, ih.1]
theorem wordsOf_wrd (s : List UInt8) : wordsOf s = wrdGo false s := (words_wrd s).1
theorem wrdGo_len (s : List UInt8) : ∀ b, (wrdGo b s).length ≤ s.length := by
 induction s with
 | nil => intro b; simp [wrdGo]
 | cons c s ih =>
  intro b
  rw [wrdGo]
  have h1 := ih false
  have h2 := ih true
  split
  · split <;> simp <;> omega
  · simp; omega
theorem wrdGo_each (s : List UInt8) : ∀ b, ∀ w ∈ wrdGo b s, 1 ≤ w.length ∧ w.length ≤ 24 := by
 induction s with
 | nil => intro b w h; simp [wrdGo] at h
 | cons c s ih =>
  intro b w h
  rw [wrdGo] at h
  split at h
  · rename_i h0
    split at h
    · exact ih true w h
    · rcases List.mem_cons.1 h with rfl | h
      · rw [wordAt, if_pos h0, List.take_succ_cons, List.length_cons, List.length_take]; omega
      · exact ih true w h
  · exact ih false w h
theorem wordsOf_each (s : List UInt8) : ∀ w ∈ wordsOf s, 1 ≤ w.length ∧ w.length ≤ 24 := by rw [wordsOf_wrd]; exact wrdGo_each s false
theorem wordsOf_len (s : List UInt8) : (wordsOf s).length ≤ s.length := by rw [wordsOf_wrd]; exact wrdGo_len s false
theorem ltS_or_eq {a b : List UInt8} (h : a ≤ b) : a < b ∨ a = b := by
 by_cases h1 : a < b
 · exact .inl h1
 · exact .inr (List.le_antisymm h (List.not_lt.1 h1))
def putS : List (List UInt8) → List UInt8 → List (List UInt8)
 | [], s => [s]
 | t :: l, s => if t < s then t :: putS l s else if t = s then t :: l else s :: t :: l
abbrev RisS (l : List (List UInt8)) : Prop := l.Pairwise (· < ·)
theorem putS_mem (l : List (List UInt8)) (s x : List UInt8) : x ∈ putS l s ↔ x ∈ l ∨ x = s := by
 induction l with
 | nil => simp [putS]
 | cons t l ih =>
  rw [putS]
  split
  · simp [ih, or_assoc]
  · split
    · rename_i h; subst h; simp; intro e; exact .inl e
    · simp; constructor
      · rintro (h | h | h) <;> simp [h]
      · rintro ((h | h) | h) <;> simp [h]
theorem putS_ris (l : List (List UInt8)) (s : List UInt8) (h : RisS l) : RisS (putS l s) := by
 induction l with
 | nil => simp [putS]
 | cons t l ih =>
  obtain ⟨h1, h2⟩ := List.pairwise_cons.1 h
  rw [putS]
  split
  · rename_i hlt
    refine List.pairwise_cons.2 ⟨fun x hx => ?_, ih h2⟩
    rcases (putS_mem l s x).1 hx with hx | rfl
    · exact h1 x hx
    · exact hlt
  · split
    · exact h
    · rename_i hn hne
      have hst : s < t := by
       rcases ltS_or_eq (List.not_lt.1 hn) with h | h
       · exact h
       · exact absurd h.symm hne
      refine List.pairwise_cons.2 ⟨fun x hx => ?_, h⟩
      rcases List.mem_cons.1 hx with rfl | hx
      · exact hst
      · exact List.lt_trans hst (h1 x hx)
theorem risS_unique (l m : List (List UInt8)) (h1 : RisS l) (h2 : RisS m) (h : ∀ x, x ∈ l ↔ x ∈ m) : l = m := by
 have nd : ∀ l : List (List UInt8), RisS l → l.Nodup := fun l h => h.imp fun {a b} hab e => by subst e; exact List.lt_irrefl _ hab
 have hp : l.Perm m := (List.perm_ext_iff_of_nodup (nd l h1) (nd m h2)).2 h
 exact hp.eq_of_pairwise (fun _ _ _ _ h k => absurd (List.lt_trans h k) (List.lt_irrefl _)) h1 h2
def putsS (l ws : List (List UInt8)) : List (List UInt8) := ws.foldl putS l
theorem putsS_ris (ws : List (List UInt8)) : ∀ l, RisS l → RisS (putsS l ws) := by
 induction ws with
 | nil => intro l h; exact h
 | cons w ws ih => intro l h; exact ih _ (putS_ris l w h)
theorem putsS_mem (ws : List (List UInt8)) : ∀ l x, x ∈ putsS l ws ↔ x ∈ l ∨ x ∈ ws := by
 induction ws with
 | nil => intro l x; simp [putsS]
 | cons w ws ih =>
  intro l x
  show x ∈ putsS (putS l w) ws ↔ _
  rw [ih, putS_mem, List.mem_cons, or_assoc]
def compS : List (List UInt8) → List (List UInt8)
 | [] => []
 | [a] => [a]
 | a :: b :: l => if a = b then compS (b :: l) else a :: compS (b :: l)
theorem compS_mem : ∀ (l : List (List UInt8)) (x : List UInt8), x ∈ compS l ↔ x ∈ l
 | [], x => by simp [compS]
 | [a], x => by simp [compS]
 | a :: b :: l, x => by
  rw [compS]
  split
  · rename_i h; subst h; rw [compS_mem]; simp
  · rw [List.mem_cons, compS_mem, List.mem_cons (a := x) (b := a)]
theorem compS_ris : ∀ (l : List (List UInt8)), l.Pairwise (· ≤ ·) → RisS (compS l)
 | [], _ => by simp [compS]
 | [a], _ => by simp [compS]
 | a :: b :: l, h => by
  obtain ⟨h1, h2⟩ := List.pairwise_cons.1 h
  rw [compS]
  split
  · exact compS_ris _ h2
  · rename_i hne
    refine List.pairwise_cons.2 ⟨fun x hx => ?_, compS_ris _ h2⟩
    have hab : a < b := by
     rcases ltS_or_eq (h1 b (by simp)) with h | h
     · exact h
     · exact absurd h hne
    rcases List.mem_cons.1 ((compS_mem _ x).1 hx) with rfl | hx
    · exact hab
    · have hbx := (List.pairwise_cons.1 h2).1 x hx
      rcases ltS_or_eq hbx with h | h
      · exact List.lt_trans hab h
      · subst h; exact hab
theorem comp_puts (l ws : List (List UInt8)) (hs : l.Pairwise (· ≤ ·)) (hp : l.Perm ws) : compS l = putsS [] ws :=
 risS_unique _ _ (compS_ris l hs) (putsS_ris ws [] List.Pairwise.nil) fun x => by
  rw [compS_mem, putsS_mem, hp.mem_iff]; simp
def termsL (text source : List UInt8) : List (List UInt8) := putsS [] (wordsOf text ++ (wordsOf source).map fun w => 64 :: w)
theorem termsL_ris (a b : List UInt8) : RisS (termsL a b) := putsS_ris _ _ List.Pairwise.nil
theorem putS_len (l : List (List UInt8)) (s : List UInt8) : (putS l s).length ≤ l.length + 1 := by
 induction l with
 | nil => simp [putS]
 | cons t l ih =>
  rw [putS]
  split
  · simp; omega
  · split <;> simp
theorem putsS_len (ws : List (List UInt8)) : ∀ l, (putsS l ws).length ≤ l.length + ws.length := by
 induction ws with
 | nil => intro l; simp [putsS]
 | cons w ws ih =>
  intro l
  have h1 := ih (putS l w)
  have h2 := putS_len l w
  show (putsS (putS l w) ws).length ≤ _
  rw [List.length_cons]; omega
def frameB (way : UInt8) (n : Nat) (body : List UInt8) : List UInt8 := putB (([way] ++ numB n ++ numB body.length) ++ body)
theorem frameB_len (way : UInt8) (n : Nat) (body : List UInt8) (h1 : n < 18446744073709551616) (h2 : body.length < 18446744073709551616) : (frameB way n body).length ≤ body.length + 25 := by
 have i1 := numB_le n h1
 have i2 := numB_le body.length h2
 unfold frameB putB
 simp only [List.length_append, List.length_cons, List.length_nil]
 omega
def sameN : List UInt8 → List UInt8 → Nat
 | a :: l, b :: m => if a = b then sameN l m + 1 else 0
 | _, _ => 0
theorem sameN_le : ∀ (a b : List UInt8), sameN a b ≤ a.length ∧ sameN a b ≤ b.length
 | [], b => by simp [sameN]
 | a :: l, [] => by simp [sameN]
 | a :: l, b :: m => by
  have := sameN_le l m
  rw [sameN]
  split <;> simp <;> omega
theorem sameN_eq : ∀ (a b : List UInt8) (n : Nat), n ≤ a.length → n ≤ b.length → (∀ i, i < n → a[i]? = b[i]?) → (n < a.length → n < b.length → a[n]? ≠ b[n]?) → sameN a b = n
 | [], b, n, h1, _, _, _ => by simp at h1; simp [sameN, h1]
 | a :: l, [], n, _, h2, _, _ => by simp at h2; simp [sameN, h2]
 | a :: l, b :: m, n, h1, h2, h3, h4 => by
  rw [sameN]
  cases n with
  | zero =>
   have := h4 (by simp) (by simp)
   rw [if_neg (by simpa using this)]
  | succ n =>
   have h0 := h3 0 (by omega)
   rw [if_pos (by simpa using h0), sameN_eq l m n (by simpa using h1) (by simpa using h2) (fun i hi => by have := h3 (i + 1) (by omega); simpa using this) (fun i1 i2 => by have := h4 (by simpa using i1) (by simpa using i2); simpa using this)]
def bktGo : List UInt8 → List (List UInt8) → List UInt8
 | _, [] => []
 | was, s :: l => (numB (sameN was s) ++ textB (s.drop (sameN was s))) ++ bktGo s l
def bktB : List (List UInt8) → List UInt8
 | [] => []
 | s :: l => textB s ++ bktGo s l
theorem bktGo_snoc : ∀ (l : List (List UInt8)) (was s : List UInt8), bktGo was (l ++ [s]) = bktGo was l ++ (numB (sameN ((was :: l).getLast (by simp)) s) ++ textB (s.drop (sameN ((was :: l).getLast (by simp)) s)))
 | [], was, s => by simp [bktGo]
 | x :: l, was, s => by
  rw [List.cons_append, bktGo, bktGo, bktGo_snoc l x s, List.append_assoc]
  simp
theorem bktB_snoc (l : List (List UInt8)) (k : Nat) (h0 : 0 < k) (h : k < l.length) : bktB (l.take (k + 1)) = bktB (l.take k) ++ (numB (sameN l[k - 1] l[k]) ++ textB (l[k].drop (sameN l[k - 1] l[k]))) := by
 cases l with
 | nil => simp at h
 | cons x l =>
  obtain ⟨k, rfl⟩ : ∃ j, k = j + 1 := ⟨k - 1, by omega⟩
  have h' : k < l.length := by simpa using h
  rw [List.take_succ_cons, List.take_succ_cons, bktB, bktB, List.take_succ_eq_append_getElem h', bktGo_snoc, List.append_assoc]
  have e : ((x :: l.take k).getLast (by simp)) = (x :: l)[k] := by
   rw [List.getLast_eq_getElem]
   simp only [List.length_cons, List.length_take, Nat.min_eq_left (Nat.le_of_lt h'), Nat.add_sub_cancel]
   cases k with
   | zero => rfl
   | succ k => simp
  rw [e]
  rfl
theorem textB_len (s : List UInt8) (h : s.length < 18446744073709551616) : (textB s).length ≤ s.length + 10 := by
 have := numB_le s.length h
 unfold textB; rw [List.length_append]; omega
theorem bktGo_len (m : Nat) (hm : m < 1000000) : ∀ (l : List (List UInt8)) (was : List UInt8), (∀ s ∈ l, s.length ≤ m) → (bktGo was l).length ≤ l.length * (m + 20)
 | [], was, _ => by simp [bktGo]
 | s :: l, was, h => by
  have h1 := bktGo_len m hm l s (fun x hx => h x (by simp [hx]))
  have h2 := h s (by simp)
  have h3 := sameN_le was s
  have h4 := numB_le (sameN was s) (by omega)
  have h5 := textB_len (s.drop (sameN was s)) (by simp; omega)
  simp only [List.length_drop] at h5
  rw [bktGo, List.length_append, List.length_append, List.length_cons, Nat.add_mul]
  omega
theorem bktB_len (m : Nat) (hm : m < 1000000) (l : List (List UInt8)) (h : ∀ s ∈ l, s.length ≤ m) : (bktB l).length ≤ l.length * (m + 20) := by
 cases l with
 | nil => simp [bktB]
 | cons s l =>
  have h1 := bktGo_len m hm l s (fun x hx => h x (by simp [hx]))
  have h2 := h s (by simp)
  have h5 := textB_len s (by omega)
  rw [bktB, List.length_append, List.length_cons, Nat.add_mul]
  omega
structure TS where
 text : List UInt8
 source : List UInt8
def TS.terms (r : TS) : List (List UInt8) := termsL r.text r.source
def idxT (l : List TS) : List (List UInt8) := putsS [] (l.flatMap TS.terms)
def idsOf (l : List TS) (t : List UInt8) : List Nat := (List.range l.length).filter fun i => match l[i]? with | some r => decide (t ∈ r.terms) | none => false
theorem putsS_app (l a b : List (List UInt8)) : putsS l (a ++ b) = putsS (putsS l a) b := by unfold putsS; rw [List.foldl_append]
theorem idxT_snoc (l : List TS) (k : Nat) (h : k < l.length) : idxT (l.take (k + 1)) = putsS (idxT (l.take k)) l[k].terms := by
 unfold idxT
 rw [List.take_succ_eq_append_getElem h, List.flatMap_append, putsS_app]
 simp
theorem idxT_ris (l : List TS) : RisS (idxT l) := putsS_ris _ _ List.Pairwise.nil
theorem idxT_mem (l : List TS) (t : List UInt8) : t ∈ idxT l ↔ ∃ r ∈ l, t ∈ r.terms := by
 unfold idxT
 rw [putsS_mem]; simp
theorem terms_each (r : TS) : ∀ t ∈ r.terms, 1 ≤ t.length ∧ t.length ≤ 25 := by
 intro t ht
 unfold TS.terms termsL at ht
 rw [putsS_mem] at ht
 rcases ht with h | h
 · cases h
 · rcases List.mem_append.1 h with h | h
   · have := wordsOf_each r.text t h; omega
   · obtain ⟨x, hx, rfl⟩ := List.mem_map.1 h
     have := wordsOf_each r.source x hx
     simp; omega
theorem terms_len (r : TS) : r.terms.length ≤ r.text.length + r.source.length := by
 unfold TS.terms termsL
 refine Nat.le_trans (putsS_len _ _) ?_
 have h1 := wordsOf_len r.text
 have h2 := wordsOf_len r.source
 simp; omega
theorem idxT_each (l : List TS) : ∀ t ∈ idxT l, 1 ≤ t.length ∧ t.length ≤ 25 := by
 intro t ht
 obtain ⟨r, _, h⟩ := (idxT_mem l t).1 ht
 exact terms_each r t h
theorem idxT_len (l : List TS) : (idxT l).length ≤ wtS (fun r : TS => r.text.length + r.source.length) l := by
 unfold idxT
 refine Nat.le_trans (putsS_len _ _) ?_
 have : (l.flatMap TS.terms).length ≤ wtS (fun r : TS => r.text.length + r.source.length) l := by
  induction l with
  | nil => simp [wtS]
  | cons r l ih =>
   have := terms_len r
   simp only [List.flatMap_cons, List.length_append, wtS, List.map_cons, List.sum_cons] at *
   omega
 simp only [List.length_nil]; omega
theorem ids_lt (l : List TS) (t : List UInt8) : ∀ i ∈ idsOf l t, i < l.length := by
 intro i hi
 unfold idsOf at hi
 exact List.mem_range.1 (List.mem_filter.1 hi).1
theorem ids_mem (l : List TS) (t : List UInt8) (i : Nat) (h : i < l.length) : i ∈ idsOf l t ↔ t ∈ l[i].terms := by
 unfold idsOf
 rw [List.mem_filter]
 simp [h]
theorem ids_ne (l : List TS) (t : List UInt8) (h : t ∈ idxT l) : idsOf l t ≠ [] := by
 obtain ⟨r, hr, ht⟩ := (idxT_mem l t).1 h
 obtain ⟨i, hi, rfl⟩ := List.mem_iff_getElem.1 hr
 intro e
 have := (ids_mem l t i hi).2 ht
 rw [e] at this; cases this
theorem rises_of (bound : Nat) : ∀ (l : List Nat) (lo : Nat), l.Pairwise (· < ·) → (∀ x ∈ l, lo ≤ x ∧ x < bound) → risesGo bound lo l = true
 | [], _, _, _ => rfl
 | x :: l, lo, h1, h2 => by
  obtain ⟨i1, i2⟩ := List.pairwise_cons.1 h1
  have hx := h2 x (by simp)
  rw [risesGo, decide_eq_true hx.1, decide_eq_true hx.2, rises_of bound l (x + 1) i2 (fun y hy => ⟨i1 y hy, (h2 y (by simp [hy])).2⟩)]
  rfl
theorem ids_rises (l : List TS) (t : List UInt8) : risesGo l.length 0 (idsOf l t) = true :=
 rises_of _ _ _ (by unfold idsOf; exact List.pairwise_lt_range.filter _) (fun x hx => ⟨Nat.zero_le _, ids_lt l t x hx⟩)
theorem ids_snoc (l : List TS) (t : List UInt8) (k : Nat) (h : k < l.length) : idsOf (l.take (k + 1)) t = idsOf (l.take k) t ++ (if t ∈ l[k].terms then [k] else []) := by
 have hk : (l.take k).length = k := by simp; omega
 have hk1 : (l.take (k + 1)).length = k + 1 := by simp; omega
 unfold idsOf
 rw [hk, hk1, List.range_succ, List.filter_append]
 congr 1
 · apply List.filter_congr
   intro i hi
   have hi' := List.mem_range.1 hi
   rw [List.getElem?_take_of_lt hi', List.getElem?_take_of_lt (by omega)]
 · rw [List.filter_cons]
   have e : (l.take (k + 1))[k]? = some l[k] := by rw [List.getElem?_take_of_lt (by omega), List.getElem?_eq_getElem h]
   rw [e]
   by_cases ht : t ∈ l[k].terms
   · simp [ht]
   · simp [ht]
theorem efHigh_len (w bound : Nat) : ∀ (l : List Nat) (lo was : Nat), risesGo bound lo l = true → was ≤ lo / 2 ^ w → was ≤ bound → (efHigh w was l).length ≤ l.length + (bound - was)
 | [], _, _, _, _, _ => by simp [efHigh]
 | x :: l, lo, was, h, h1, h2 => by
  rw [risesGo] at h
  simp only [Bool.and_eq_true, decide_eq_true_eq] at h
  have hp := Nat.two_pow_pos w
  have e1 : lo / 2 ^ w ≤ x / 2 ^ w := Nat.div_le_div_right h.1.1
  have e2 : x / 2 ^ w ≤ x := Nat.div_le_self _ _
  have e3 : x / 2 ^ w ≤ (x + 1) / 2 ^ w := Nat.div_le_div_right (by omega)
  have ih := efHigh_len w bound l (x + 1) (x / 2 ^ w) h.2 e3 (by omega)
  rw [efHigh, List.length_append, unaryL_len, List.length_cons]
  omega
theorem efL_len (bound : Nat) (l : List Nat) (hb : bound ≤ 20000) (hr : risesGo bound 0 l = true) : (efL bound l).length ≤ 2 * bound + 10 := by
 have hn := rises_len bound l 0 (Nat.zero_le _) hr
 have h1 := numB_le l.length (by omega)
 unfold efL
 rw [List.length_append]
 split
 · simp; omega
 · rename_i hne
   have hpos : 0 < l.length := List.length_pos_iff.2 hne
   have hq : bound / l.length ≤ 20000 := Nat.le_trans (Nat.div_le_self _ _) hb
   have hq0 : bound / l.length ≠ 0 := by
    have : 1 ≤ bound / l.length := (Nat.le_div_iff_mul_le hpos).2 (by omega)
    omega
   have hw : Nat.log2 (bound / l.length) < 15 := (Nat.log2_lt hq0).2 (by omega)
   have h2 := efHigh_len (Nat.log2 (bound / l.length)) bound l 0 0 hr (Nat.zero_le _) (Nat.zero_le _)
   have h3 := efLow_len (Nat.log2 (bound / l.length)) l
   have h4 : l.length * Nat.log2 (bound / l.length) ≤ l.length * 14 := Nat.mul_le_mul_left _ (by omega)
   rw [packW_len, List.length_append]
   omega
def postRest (bound : Nat) (ls : List (List Nat)) : List UInt8 := (ls.map (efL bound)).flatten
end Go.Fk
