/- Parts of the proof of ThreePacks: SpecG SpecN SpecQ SpecZ SpecK SpecW SpecH SpecK2 SpecY SpecY2 SpecC SpecE SpecR SpecS. -/
set_option linter.unusedVariables false
set_option linter.unusedSectionVars false
set_option linter.unusedSimpArgs false
set_option maxHeartbeats 8000000
namespace Go.Fk
def twN (a : Nat) : Nat := if a < 128 then 2 * a else (2 * a - 256) ^^^ 29
def mulGo : Nat → Nat → Nat → Nat → Nat
 | 0, _, _, o => o
 | f + 1, a, b, o => if b = 0 then o else mulGo f (twN a) (b / 2) (if b % 2 = 1 then o ^^^ a else o)
def mulN (a b : Nat) : Nat := mulGo 8 a b 0
def polyGo (a b : Nat) : Nat → Nat → Nat
 | 0, p => p
 | f + 1, p => polyGo a b f (if b / 2 ^ (7 - f) % 2 = 1 then p ^^^ (a * 2 ^ (7 - f)) else p)
def redGo : Nat → Nat → Nat
 | 0, p => p
 | f + 1, p => redGo f (if p / 2 ^ (f + 8) % 2 = 1 then p ^^^ (285 * 2 ^ f) else p)
def mulR (a b : Nat) : Nat := redGo 7 (polyGo a b 8 0)
def powGo : Nat → Nat → Nat → Nat → Nat
 | 0, _, _, o => o
 | f + 1, a, n, o => if n = 0 then o else powGo f (mulN a a) (n / 2) (if n % 2 = 1 then mulN o a else o)
def invN (a : Nat) : Nat := powGo 8 a 254 1
def allB (n : Nat) (p : Nat → Bool) : Bool :=
 match n with
 | 0 => true
 | n + 1 => p n && allB n p
theorem allB_out (n : Nat) (p : Nat → Bool) (h : allB n p = true) : ∀ i, i < n → p i = true := by
 induction n with
 | zero => intro i hi; omega
 | succ n ih =>
  rw [allB, Bool.and_eq_true] at h
  intro i hi
  by_cases e : i = n
  · subst e; exact h.1
  · exact ih h.2 i (by omega)
def sumG : Nat → Nat → Nat → Nat
 | 0, _, _ => 0
 | f + 1, a, b => (if b % 2 = 1 then a else 0) ^^^ sumG f (twN a) (b / 2)
theorem sumG_zero (f : Nat) : ∀ a, sumG f a 0 = 0 := by
 induction f with
 | zero => intro a; rfl
 | succ f ih => intro a; simp [sumG, ih]
theorem mulGo_sum (f : Nat) : ∀ a b o, mulGo f a b o = o ^^^ sumG f a b := by
 induction f with
 | zero => intro a b o; simp [mulGo, sumG]
 | succ f ih =>
  intro a b o
  rw [mulGo, sumG]
  by_cases h : b = 0
  · subst h; simp [sumG_zero]
  · rw [if_neg h, ih]
    by_cases h2 : b % 2 = 1
    · simp [h2, Nat.xor_assoc]
    · simp [h2]
theorem mulN_sum (a b : Nat) : mulN a b = sumG 8 a b := by unfold mulN; rw [mulGo_sum]; simp
theorem bit_xor (p q k : Nat) : ((p ^^^ q) / 2 ^ k % 2 = 1) ↔ ¬ ((p / 2 ^ k % 2 = 1) ↔ (q / 2 ^ k % 2 = 1)) := by
 have h := Nat.testBit_xor p q k
 rw [Nat.testBit_eq_decide_div_mod_eq, Nat.testBit_eq_decide_div_mod_eq, Nat.testBit_eq_decide_div_mod_eq] at h
 by_cases h1 : p / 2 ^ k % 2 = 1 <;> by_cases h2 : q / 2 ^ k % 2 = 1 <;> simp [h1, h2] at h ⊢ <;> exact h
theorem xor_cross (a b c d : Nat) : (a ^^^ b) ^^^ (c ^^^ d) = (a ^^^ c) ^^^ (b ^^^ d) := by
 rw [Nat.xor_assoc, ← Nat.xor_assoc b c d, Nat.xor_comm b c, Nat.xor_assoc c b d, ← Nat.xor_assoc]
theorem if_xor (p q k c : Nat) : (if (p ^^^ q) / 2 ^ k % 2 = 1 then (p ^^^ q) ^^^ c else p ^^^ q) = (if p / 2 ^ k % 2 = 1 then p ^^^ c else p) ^^^ (if q / 2 ^ k % 2 = 1 then q ^^^ c else q) := by
 have h := bit_xor p q k
 by_cases h1 : p / 2 ^ k % 2 = 1 <;> by_cases h2 : q / 2 ^ k % 2 = 1
 · rw [if_neg (by rw [h]; simp [h1, h2]), if_pos h1, if_pos h2, xor_cross, Nat.xor_self, Nat.xor_zero]
 · rw [if_pos (by rw [h]; simp [h1, h2]), if_pos h1, if_neg h2, Nat.xor_assoc, Nat.xor_assoc, Nat.xor_comm q c]
 · rw [if_pos (by rw [h]; simp [h1, h2]), if_neg h1, if_pos h2, Nat.xor_assoc]
 · rw [if_neg (by rw [h]; simp [h1, h2]), if_neg h1, if_neg h2]
theorem red_xor (f : Nat) : ∀ p q, redGo f (p ^^^ q) = redGo f p ^^^ redGo f q := by
 induction f with
 | zero => intro p q; rfl
 | succ f ih => intro p q; rw [redGo, redGo, redGo, if_xor, ih]
theorem red_zero (f : Nat) : redGo f 0 = 0 := by
 induction f with
 | zero => rfl
 | succ f ih => rw [redGo]; simp [ih]
def twI : Nat → Nat → Nat
 | 0, a => a
 | n + 1, a => twI n (twN a)
theorem red_all : allB 256 (fun a => allB 8 fun i => redGo 7 (a * 2 ^ i) == twI i a && decide (twI i a < 256)) = true := by decide +kernel
theorem red_tw (a i : Nat) (ha : a < 256) (hi : i < 8) : redGo 7 (a * 2 ^ i) = twI i a ∧ twI i a < 256 := by
 have := allB_out 8 _ (allB_out 256 _ red_all a ha) i hi
 simpa using this
theorem red_if (c : Prop) [Decidable c] (p x : Nat) : redGo 7 (if c then p ^^^ x else p) = redGo 7 p ^^^ (if c then redGo 7 x else 0) := by
 by_cases h : c
 · simp [h, red_xor]
 · simp [h]
theorem poly_red (a b : Nat) (ha : a < 256) : ∀ (f : Nat), f ≤ 8 → ∀ p, redGo 7 (polyGo a b f p) = redGo 7 p ^^^ sumG f (twI (8 - f) a) (b / 2 ^ (8 - f)) := by
 intro f
 induction f with
 | zero => intro _ p; simp [polyGo, sumG]
 | succ f ih =>
  intro hf p
  rw [polyGo, ih (by omega), red_if, (red_tw a (7 - f) ha (by omega)).1, sumG]
  have e1 : 8 - (f + 1) = 7 - f := by omega
  have e2 : 8 - f = (7 - f) + 1 := by omega
  have e3 : ∀ n a, twI (n + 1) a = twN (twI n a) := by
   intro n
   induction n with
   | zero => intro a; rfl
   | succ n ihn => intro a; rw [twI, ihn, twI]
  rw [e1, e2, e3, Nat.pow_succ, Nat.div_div_eq_div_mul, Nat.xor_assoc]
theorem mulR_mulN (a b : Nat) (ha : a < 256) : mulR a b = mulN a b := by
 have := poly_red a b ha 8 (Nat.le_refl _) 0
 unfold mulR
 rw [this, red_zero, mulN_sum]
 simp [twI]
theorem tw_all : allB 256 (fun a => decide (twN a < 256)) = true := by decide +kernel
theorem tw_lt (a : Nat) (ha : a < 256) : twN a < 256 := by have := allB_out 256 _ tw_all a ha; simpa using this
theorem sum_lt (f : Nat) : ∀ a b, a < 256 → sumG f a b < 256 := by
 induction f with
 | zero => intro a b _; simp [sumG]
 | succ f ih =>
  intro a b ha
  rw [sumG]
  have h1 : (if b % 2 = 1 then a else 0) < 2 ^ 8 := by split <;> omega
  have h2 : sumG f (twN a) (b / 2) < 2 ^ 8 := ih _ _ (tw_lt a ha)
  exact Nat.xor_lt_two_pow h1 h2
theorem mul_lt (a b : Nat) (ha : a < 256) : mulN a b < 256 := by rw [mulN_sum]; exact sum_lt 8 a b ha
theorem sum_xor (f : Nat) : ∀ a b c, sumG f a (b ^^^ c) = sumG f a b ^^^ sumG f a c := by
 induction f with
 | zero => intro a b c; simp [sumG]
 | succ f ih =>
  intro a b c
  rw [sumG, sumG, sumG, Nat.xor_div_two, ih, xor_cross]
  congr 1
  have h := bit_xor b c 0
  simp only [Nat.pow_zero, Nat.div_one] at h
  by_cases h1 : b % 2 = 1 <;> by_cases h2 : c % 2 = 1
  · rw [if_neg (by rw [h]; simp [h1, h2]), if_pos h1, if_pos h2, Nat.xor_self]
  · rw [if_pos (by rw [h]; simp [h1, h2]), if_pos h1, if_neg h2, Nat.xor_zero]
  · rw [if_pos (by rw [h]; simp [h1, h2]), if_neg h1, if_pos h2, Nat.zero_xor]
  · rw [if_neg (by rw [h]; simp [h1, h2]), if_neg h1, if_neg h2, Nat.xor_zero]
theorem mul_xor (a b c : Nat) : mulN a (b ^^^ c) = mulN a b ^^^ mulN a c := by rw [mulN_sum, mulN_sum, mulN_sum, sum_xor]
theorem tw_red (a : Nat) (ha : a < 256) : twN a = redGo 7 (a * 2) := (red_tw a 1 ha (by omega)).1.symm
theorem tw_xor (p q : Nat) (hp : p < 256) (hq : q < 256) : twN (p ^^^ q) = twN p ^^^ twN q := by
 have hx : p ^^^ q < 2 ^ 8 := Nat.xor_lt_two_pow hp hq
 rw [tw_red _ hx, tw_red p hp, tw_red q hq, ← red_xor]
 congr 1
 have := Nat.shiftLeft_xor_distrib (a := p) (b := q) (i := 1)
 simpa [Nat.shiftLeft_eq] using this
theorem sum_tw (f : Nat) : ∀ a b, a < 256 → sumG f (twN a) b = twN (sumG f a b) := by
 induction f with
 | zero => intro a b _; rfl
 | succ f ih =>
  intro a b ha
  have h1 : (if b % 2 = 1 then a else 0) < 256 := by split <;> omega
  rw [sumG, sumG, tw_xor _ _ h1 (sum_lt f _ _ (tw_lt a ha)), ih _ _ (tw_lt a ha)]
  congr 1
  split <;> rfl
theorem sum_short (f : Nat) : ∀ a c, c < 2 ^ f → sumG (f + 1) a c = sumG f a c := by
 induction f with
 | zero => intro a c h; have : c = 0 := by omega
           subst this; simp [sumG]
 | succ f ih =>
  intro a c h
  have e := ih (twN a) (c / 2) (by rw [Nat.pow_succ] at h; omega)
  show (if c % 2 = 1 then a else 0) ^^^ sumG (f + 1) (twN a) (c / 2) = (if c % 2 = 1 then a else 0) ^^^ sumG f (twN a) (c / 2)
  rw [e]
theorem mul_half (a b : Nat) (ha : a < 256) (hb : b < 256) : mulN a b = twN (mulN a (b / 2)) ^^^ (if b % 2 = 1 then a else 0) := by
 rw [mulN_sum, mulN_sum, sum_short 7 a (b / 2) (by omega), sumG, sum_tw 7 a _ ha, Nat.xor_comm]
theorem inv_all : allB 256 (fun a => a == 0 || (decide (invN a < 256) && mulN a (invN a) == 1 && allB 8 fun k => mulN (invN a) (mulN a (2 ^ k)) == 2 ^ k)) = true := by decide +kernel
theorem inv_facts (a : Nat) (h0 : a ≠ 0) (ha : a < 256) : invN a < 256 ∧ mulN a (invN a) = 1 ∧ ∀ k, k < 8 → mulN (invN a) (mulN a (2 ^ k)) = 2 ^ k := by
 have := allB_out 256 _ inv_all a ha
 simp only [Bool.or_eq_true, Bool.and_eq_true, beq_iff_eq, decide_eq_true_eq] at this
 rcases this with h | ⟨⟨h1, h2⟩, h3⟩
 · exact absurd h h0
 · exact ⟨h1, h2, fun k hk => by simpa using allB_out 8 _ h3 k hk⟩
def bitAt (i k : Nat) : Nat := if i / 2 ^ k % 2 = 1 then 2 ^ k else 0
def bits8 (i : Nat) : Nat := bitAt i 0 ^^^ (bitAt i 1 ^^^ (bitAt i 2 ^^^ (bitAt i 3 ^^^ (bitAt i 4 ^^^ (bitAt i 5 ^^^ (bitAt i 6 ^^^ bitAt i 7))))))
theorem bits_all : allB 256 (fun i => bits8 i == i) = true := by decide +kernel
theorem lin_id (f : Nat → Nat) (hx : ∀ p q, f (p ^^^ q) = f p ^^^ f q) (h0 : f 0 = 0) (hk : ∀ k, k < 8 → f (2 ^ k) = 2 ^ k) (i : Nat) (hi : i < 256) : f i = i := by
 have e : bits8 i = i := by simpa using allB_out 256 _ bits_all i hi
 have hb : ∀ k, k < 8 → f (bitAt i k) = bitAt i k := by
  intro k h
  unfold bitAt
  split
  · exact hk k h
  · exact h0
 have : f (bits8 i) = bits8 i := by
  unfold bits8
  simp only [hx, hb 0 (by omega), hb 1 (by omega), hb 2 (by omega), hb 3 (by omega), hb 4 (by omega), hb 5 (by omega), hb 6 (by omega), hb 7 (by omega)]
 rwa [e] at this
theorem inv_one (a i : Nat) (h0 : a ≠ 0) (ha : a < 256) (hi : i < 256) (h : mulN a i = 1) : i = invN a := by
 obtain ⟨h1, h2, h3⟩ := inv_facts a h0 ha
 have key : ∀ j, j < 256 → mulN (invN a) (mulN a j) = j := fun j hj => lin_id (fun j => mulN (invN a) (mulN a j)) (fun p q => by simp only [mul_xor]) (by show mulN _ (mulN a 0) = 0; rw [mulN_sum a 0, sumG_zero, mulN_sum, sumG_zero]) h3 j hj
 have k1 := key i hi
 have k2 := key (invN a) h1
 rw [h] at k1
 rw [h2] at k2
 exact k1.symm.trans k2
theorem mul_zero (a : Nat) : mulN a 0 = 0 := by rw [mulN_sum, sumG_zero]
theorem sum_nil (f : Nat) : ∀ b, sumG f 0 b = 0 := by
 induction f with
 | zero => intro b; rfl
 | succ f ih => intro b; rw [sumG, show twN 0 = 0 from rfl, ih]; simp
theorem nil_mul (b : Nat) : mulN 0 b = 0 := by rw [mulN_sum, sum_nil]
theorem inv_ne (a : Nat) (h0 : a ≠ 0) (ha : a < 256) : 1 ≤ invN a := by
 have := (inv_facts a h0 ha).2.1
 rcases Nat.eq_zero_or_pos (invN a) with h | h
 · rw [h, mul_zero] at this; cases this
 · exact h
def numB (x : Nat) : List UInt8 := if h : x < 128 then [UInt8.ofNat x] else UInt8.ofNat (128 + x % 128) :: numB (x / 128)
termination_by x
theorem numB_one (x : Nat) (h : x < 128) : numB x = [UInt8.ofNat x] := by rw [numB, dif_pos h]
theorem numB_more (x : Nat) (h : ¬ x < 128) : numB x = UInt8.ofNat (128 + x % 128) :: numB (x / 128) := by rw [numB, dif_neg h]
theorem numB_len (k : Nat) : ∀ x, x < 128 ^ (k + 1) → (numB x).length ≤ k + 1 := by
 induction k with
 | zero => intro x h; rw [numB_one x (by omega)]; simp
 | succ k ih =>
  intro x h
  by_cases h1 : x < 128
  · rw [numB_one x h1]; simp
  · rw [numB_more x h1]
    have := ih (x / 128) (by rw [Nat.pow_succ] at h; exact Nat.div_lt_of_lt_mul (by rw [Nat.mul_comm]; exact h))
    simp; omega
theorem numB_le (x : Nat) (h : x < 18446744073709551616) : (numB x).length ≤ 10 :=
 numB_len 9 x (Nat.lt_of_lt_of_le h (by decide))
def textB (s : List UInt8) : List UInt8 := numB s.length ++ s
def fixB : Nat → Nat → List UInt8
 | 0, _ => []
 | n + 1, x => UInt8.ofNat (x % 256) :: fixB n (x / 256)
theorem fixB_len (n : Nat) : ∀ x, (fixB n x).length = n := by
 induction n with
 | zero => intro x; rfl
 | succ n ih => intro x; simp [fixB, ih]
theorem fixB_at (n : Nat) : ∀ (x i : Nat) (h : i < n), (fixB n x)[i]'(by rw [fixB_len]; exact h) = UInt8.ofNat (x / 256 ^ i % 256) := by
 induction n with
 | zero => intro x i h; omega
 | succ n ih =>
  intro x i h
  cases i with
  | zero => simp [fixB]
  | succ i =>
   have := ih (x / 256) i (by omega)
   simp only [fixB, List.getElem_cons_succ]
   rw [this, Nat.div_div_eq_div_mul, Nat.pow_succ, Nat.mul_comm]
def zigN (d : Nat) : Nat := if d < 9223372036854775808 then 2 * d else 2 * (18446744073709551615 - d) + 1
def wtS {α : Type} (f : α → Nat) (l : List α) : Nat := (l.map f).sum
theorem wtS_snoc {α : Type} (f : α → Nat) (l : List α) (k : Nat) (h : k < l.length) : wtS f (l.take (k + 1)) = wtS f (l.take k) + f l[k] := by
 unfold wtS; rw [List.take_succ_eq_append_getElem h, List.map_append, List.sum_append]; simp
theorem wtS_le {α : Type} (f : α → Nat) (m : Nat) (l : List α) (h : ∀ x ∈ l, f x ≤ m) : wtS f l ≤ l.length * m := by
 induction l with
 | nil => simp [wtS]
 | cons x l ih =>
  have h1 := h x (List.mem_cons_self ..)
  have h2 := ih (fun y hy => h y (List.mem_cons_of_mem _ hy))
  unfold wtS at *
  rw [List.map_cons, List.sum_cons, List.length_cons, Nat.add_mul]; omega
theorem flat_map_snoc {α β : Type} (f : α → List β) (l : List α) (k : Nat) (h : k < l.length) : ((l.take (k + 1)).map f).flatten = ((l.take k).map f).flatten ++ f l[k] := by
 rw [List.take_succ_eq_append_getElem h, List.map_append, List.flatten_append]; simp
theorem flat_len {α β : Type} (f : α → List β) (l : List α) : ((l.map f).flatten).length = wtS (fun x => (f x).length) l := by
 induction l with
 | nil => rfl
 | cons x l ih => unfold wtS at *; simp [ih]
theorem wtS_take_le {α : Type} (f : α → Nat) (l : List α) (k : Nat) : wtS f (l.take k) ≤ wtS f l := by
 unfold wtS
 conv => rhs; rw [← List.take_append_drop k l]
 rw [List.map_append, List.sum_append]; omega
theorem wtS_mono {α : Type} (f g : α → Nat) (l : List α) (h : ∀ x ∈ l, f x ≤ g x) : wtS f l ≤ wtS g l := by
 induction l with
 | nil => exact Nat.le_refl _
 | cons x l ih =>
  have h1 := h x (List.mem_cons_self ..)
  have h2 := ih (fun y hy => h y (List.mem_cons_of_mem _ hy))
  unfold wtS at *
  simp only [List.map_cons, List.sum_cons]; omega
def grpGo {α : Type} (S : Nat) (f : α → Nat) : Nat → Nat → List α → List Nat
 | c, _, [] => [c]
 | c, h, r :: l => if h + f r ≤ S then grpGo S f (c + 1) (h + f r) l else c :: grpGo S f 1 (f r) l
def groupsL {α : Type} (S : Nat) (f : α → Nat) : List α → List Nat
 | [] => []
 | r :: l => grpGo S f 1 (f r) l
theorem grpGo_sum {α : Type} (S : Nat) (f : α → Nat) (l : List α) : ∀ c h, (grpGo S f c h l).sum = c + l.length := by
 induction l with
 | nil => intro c h; simp [grpGo]
 | cons r l ih =>
  intro c h
  rw [grpGo]
  split
  · rw [ih, List.length_cons]; omega
  · rw [List.sum_cons, ih, List.length_cons]; omega
theorem groupsL_sum {α : Type} (S : Nat) (f : α → Nat) (l : List α) : (groupsL S f l).sum = l.length := by
 cases l with
 | nil => rfl
 | cons r l => rw [groupsL, grpGo_sum, List.length_cons]; omega
theorem grpGo_pos {α : Type} (S : Nat) (f : α → Nat) (l : List α) : ∀ c h, 1 ≤ c → ∀ x ∈ grpGo S f c h l, 1 ≤ x := by
 induction l with
 | nil => intro c h hc x hx; simp [grpGo] at hx; omega
 | cons r l ih =>
  intro c h hc x hx
  rw [grpGo] at hx
  split at hx
  · exact ih _ _ (by omega) x hx
  · rcases List.mem_cons.1 hx with rfl | hx
    · exact hc
    · exact ih _ _ (Nat.le_refl _) x hx
def dif64 (t was : Nat) : Nat := (t + 18446744073709551616 - was) % 18446744073709551616
theorem dif64_lt (t was : Nat) : dif64 t was < 18446744073709551616 := Nat.mod_lt _ (by decide)
def timesGo : Nat → List Nat → List UInt8
 | _, [] => []
 | was, t :: l => numB (zigN (dif64 t was)) ++ timesGo t l
def lvGo : UInt8 → Nat → List UInt8 → List UInt8
 | x, c, [] => x :: numB c
 | x, c, y :: l => if y = x then lvGo x (c + 1) l else (x :: numB c) ++ lvGo y 1 l
def levelsL : List UInt8 → List UInt8
 | [] => []
 | x :: l => lvGo x 1 l
theorem levels_cons (l : List UInt8) (k : Nat) (h : k < l.length) : levelsL (l.drop k) = lvGo l[k] 1 (l.drop (k + 1)) := by rw [List.drop_eq_getElem_cons h]; rfl
theorem lvGo_on (x : UInt8) (c : Nat) (l : List UInt8) (k : Nat) (h : k < l.length) (e : l[k] = x) : lvGo x c (l.drop k) = lvGo x (c + 1) (l.drop (k + 1)) := by rw [List.drop_eq_getElem_cons h, lvGo, if_pos e]
theorem lvGo_off (x : UInt8) (c : Nat) (l : List UInt8) (k : Nat) (h : k < l.length) (e : l[k] ≠ x) : lvGo x c (l.drop k) = (x :: numB c) ++ levelsL (l.drop k) := by rw [List.drop_eq_getElem_cons h, lvGo, if_neg e]; rfl
theorem lvGo_end (x : UInt8) (c : Nat) (l : List UInt8) (k : Nat) (h : l.length ≤ k) : lvGo x c (l.drop k) = (x :: numB c) ++ levelsL (l.drop k) := by rw [List.drop_of_length_le h]; simp [lvGo, levelsL]
theorem timesGo_len (l : List Nat) : ∀ was, (timesGo was l).length ≤ l.length * 10 := by
 induction l with
 | nil => intro was; simp [timesGo]
 | cons t l ih =>
  intro was
  have h1 := ih t
  have h2 := numB_le (zigN (dif64 t was)) (by have := dif64_lt t was; unfold zigN; split <;> omega)
  rw [timesGo, List.length_append, List.length_cons]; omega
theorem lvGo_len (l : List UInt8) : ∀ x c, c + l.length ≤ 1000000 → (lvGo x c l).length ≤ (l.length + 1) * 11 := by
 induction l with
 | nil => intro x c hc; have := numB_le c (by simp at hc; omega); simp [lvGo]; omega
 | cons y l ih =>
  intro x c hc
  rw [List.length_cons] at hc
  rw [lvGo]
  split
  · have := ih x (c + 1) (by omega); rw [List.length_cons]; omega
  · have h1 := ih y 1 (by omega)
    have h2 := numB_le c (by omega)
    rw [List.length_append, List.length_cons, List.length_cons]; omega
theorem levelsL_len (l : List UInt8) (h : l.length ≤ 900000) : (levelsL l).length ≤ l.length * 11 := by
 cases l with
 | nil => simp [levelsL]
 | cons x l => have := lvGo_len l x 1 (by rw [List.length_cons] at h; omega); rw [levelsL, List.length_cons]; exact this
structure Tok where
 lit : UInt8
 len : Nat
 dist : Nat
 deriving DecidableEq
instance : Inhabited Tok := ⟨⟨0, 0, 0⟩⟩
def alikeN (b : List UInt8) : Nat → Nat → Nat → Nat
 | _, _, 0 => 0
 | f, a, n + 1 => if a < b.length ∧ b[f]? = b[a]? then alikeN b (f + 1) (a + 1) n + 1 else 0
def alikeK (b : List UInt8) (f a : Nat) : Nat := alikeN b f a 257
theorem alikeN_le (b : List UInt8) : ∀ n f a, alikeN b f a n ≤ n := by
 intro n
 induction n with
 | zero => intro f a; exact Nat.le_refl _
 | succ n ih =>
  intro f a
  have := ih (f + 1) (a + 1)
  rw [alikeN]
  split <;> omega
theorem alikeN_room (b : List UInt8) : ∀ n f a, a ≤ b.length → a + alikeN b f a n ≤ b.length := by
 intro n
 induction n with
 | zero => intro f a h; exact h
 | succ n ih =>
  intro f a h
  rw [alikeN]
  split
  · rename_i h1; have := ih (f + 1) (a + 1) (by omega); omega
  · exact h
theorem alikeN_at (b : List UInt8) : ∀ n f a, a ≤ b.length → ∀ i, i < alikeN b f a n → b[f + i]? = b[a + i]? := by
 intro n
 induction n with
 | zero => intro f a _ i hi; simp [alikeN] at hi
 | succ n ih =>
  intro f a h i hi
  rw [alikeN] at hi
  split at hi
  · rename_i h1
    cases i with
    | zero => simpa using h1.2
    | succ i =>
     have := ih (f + 1) (a + 1) (by omega) i (by omega)
     rw [show f + (i + 1) = f + 1 + i by omega, show a + (i + 1) = a + 1 + i by omega]; exact this
  · omega
def trip (b : List UInt8) (p : Nat) : List UInt8 := (b.drop p).take 3
theorem alikeN_three (b : List UInt8) (n f a : Nat) (hn : 3 ≤ n) (hf : f < a) : 3 ≤ alikeN b f a n ↔ (a + 3 ≤ b.length ∧ trip b f = trip b a) := by
 have e : ∀ p, p + 3 ≤ b.length → trip b p = [b.getD p 0, b.getD (p + 1) 0, b.getD (p + 2) 0] := by
  intro p hp
  unfold trip
  rw [List.drop_eq_getElem_cons (by omega), List.take_succ_cons, List.drop_eq_getElem_cons (by omega), List.take_succ_cons, List.drop_eq_getElem_cons (by omega), List.take_succ_cons, List.take_zero]
  simp [List.getD_eq_getElem?_getD, List.getElem?_eq_getElem (show p < b.length by omega), List.getElem?_eq_getElem (show p + 1 < b.length by omega), List.getElem?_eq_getElem (show p + 2 < b.length by omega)]
 constructor
 · intro h
   by_cases ha : a ≤ b.length
   · have h1 := alikeN_room b n f a ha
     refine ⟨by omega, ?_⟩
     rw [e f (by omega), e a (by omega)]
     have i0 := alikeN_at b n f a ha 0 (by omega)
     have i1 := alikeN_at b n f a ha 1 (by omega)
     have i2 := alikeN_at b n f a ha 2 (by omega)
     simp only [Nat.add_zero] at i0
     simp only [List.getD_eq_getElem?_getD, i0, i1, i2]
   · obtain ⟨m, rfl⟩ : ∃ m, n = m + 1 := ⟨n - 1, by omega⟩
     rw [alikeN, if_neg (by omega)] at h; omega
 · rintro ⟨h1, h2⟩
   rw [e f (by omega), e a (by omega)] at h2
   simp only [List.cons.injEq, and_true] at h2
   have g : ∀ p, p < b.length → b[p]? = some (b.getD p 0) := fun p hp => by rw [List.getD_eq_getElem?_getD, List.getElem?_eq_getElem hp]; rfl
   obtain ⟨m, rfl⟩ : ∃ m, n = m + 3 := ⟨n - 3, by omega⟩
   rw [alikeN, if_pos ⟨by omega, by rw [g _ (by omega), g _ (by omega), h2.1]⟩, alikeN, if_pos ⟨by omega, by rw [g _ (by omega), g _ (by omega), h2.2.1]⟩, alikeN, if_pos ⟨by omega, by
    rw [show f + 1 + 1 = f + 2 by omega, show a + 1 + 1 = a + 2 by omega, g _ (by omega), g _ (by omega), h2.2.2]⟩]
   omega
def stepB (b : List UInt8) (at_ : Nat) (s : Nat × Nat) (dist : Nat) : Nat × Nat := if s.1 < alikeK b (at_ - dist) at_ then (alikeK b (at_ - dist) at_, dist) else s
def bestTo (b : List UInt8) (at_ : Nat) : Nat → Nat × Nat
 | 0 => (0, 0)
 | d + 1 => stepB b at_ (bestTo b at_ d) (d + 1)
def bestK (b : List UInt8) (at_ : Nat) : Nat × Nat := bestTo b at_ (min 4095 at_)
theorem bestTo_le (b : List UInt8) (a : Nat) (ha : a ≤ b.length) : ∀ d, (bestTo b a d).1 ≤ 257 ∧ a + (bestTo b a d).1 ≤ b.length ∧ (bestTo b a d).2 ≤ d ∧ (0 < (bestTo b a d).1 → 0 < (bestTo b a d).2) := by
 intro d
 induction d with
 | zero => simp [bestTo, ha]
 | succ d ih =>
  rw [bestTo, stepB]
  split
  · refine ⟨alikeN_le _ _ _ _, alikeN_room _ _ _ _ ha, Nat.le_refl _, fun _ => by simp⟩
  · exact ⟨ih.1, ih.2.1, by omega, ih.2.2.2⟩
theorem bestTo_full (b : List UInt8) (a : Nat) (d e : Nat) (h : d ≤ e) (hn : (bestTo b a d).1 = 257) : bestTo b a e = bestTo b a d := by
 induction e with
 | zero => rw [Nat.le_zero.1 h]
 | succ e ih =>
  by_cases h1 : d = e + 1
  · rw [h1]
  · rw [bestTo, stepB, ih (by omega), if_neg]
    rw [hn]; have := alikeN_le b 257 (a - (e + 1)) a; unfold alikeK; omega
def chainIs (s t : Nat × Nat) : Prop := (3 ≤ s.1 → t = s) ∧ (s.1 < 3 → t = (0, 0))
theorem chain_skip (b : List UInt8) (a d e : Nat) (t : Nat × Nat) (hde : d ≤ e) (h : chainIs (bestTo b a d) t) (hs : ∀ k, d < k → k ≤ e → ¬ 3 ≤ alikeK b (a - k) a) : chainIs (bestTo b a e) t := by
 induction e with
 | zero => rw [Nat.le_zero.1 hde] at h; exact h
 | succ e ih =>
  by_cases h1 : d = e + 1
  · rw [← h1]; exact h
  · have h2 := ih (by omega) (fun k a b => hs k a (by omega))
    have h3 := hs (e + 1) (by omega) (Nat.le_refl _)
    rw [bestTo, stepB]
    split
    · rename_i h4
      exact ⟨fun h5 => absurd h5 h3, fun _ => h2.2 (by omega)⟩
    · exact h2
theorem chain_step (b : List UInt8) (a d : Nat) (t : Nat × Nat) (h : chainIs (bestTo b a d) t) (hs : 3 ≤ alikeK b (a - (d + 1)) a) : chainIs (bestTo b a (d + 1)) (stepB b a t (d + 1)) := by
 rw [bestTo]
 unfold stepB
 by_cases h3 : 3 ≤ (bestTo b a d).1
 · rw [h.1 h3]
   split
   · exact ⟨fun _ => rfl, fun h => by simp at h; omega⟩
   · exact ⟨fun _ => rfl, fun h => by omega⟩
 · rw [h.2 (by omega), if_pos (by omega), if_pos (by simp; omega)]
   exact ⟨fun _ => rfl, fun h => by simp at h; omega⟩
def lastK (b : List UInt8) (key : List UInt8) : Nat → Option Nat
 | 0 => none
 | n + 1 => if n + 3 ≤ b.length ∧ trip b n = key then some n else lastK b key n
theorem lastK_some (b key : List UInt8) (n p : Nat) (h : lastK b key n = some p) : p < n ∧ p + 3 ≤ b.length ∧ trip b p = key ∧ ∀ q, p < q → q < n → q + 3 ≤ b.length → trip b q ≠ key := by
 induction n with
 | zero => cases h
 | succ n ih =>
  rw [lastK] at h
  split at h
  · rename_i h1
    cases h
    exact ⟨by omega, h1.1, h1.2, fun q a b => by omega⟩
  · rename_i h1
    obtain ⟨i1, i2, i3, i4⟩ := ih h
    refine ⟨by omega, i2, i3, fun q a c d => ?_⟩
    by_cases e : q = n
    · subst e; exact fun k => h1 ⟨d, k⟩
    · exact i4 q a (by omega) d
theorem lastK_none (b key : List UInt8) (n : Nat) (h : lastK b key n = none) : ∀ q, q < n → q + 3 ≤ b.length → trip b q ≠ key := by
 induction n with
 | zero => intro q hq; omega
 | succ n ih =>
  rw [lastK] at h
  split at h
  · cases h
  · rename_i h1
    intro q a d
    by_cases e : q = n
    · subst e; exact fun k => h1 ⟨d, k⟩
    · exact ih h q (by omega) d
def prevK (b : List UInt8) (p : Nat) : Option Nat := if p + 3 ≤ b.length then lastK b (trip b p) p else none
theorem chain_go (b : List UInt8) (a d p : Nat) (t : Nat × Nat) (ha : a + 3 ≤ b.length) (hd : d ≤ a) (hp : lastK b (trip b a) (a - d) = some p) (h : chainIs (bestTo b a d) t) :
  chainIs (bestTo b a (a - p)) (stepB b a t (a - p)) ∧ p < a - d ∧ prevK b p = lastK b (trip b a) (a - (a - p)) := by
 obtain ⟨i1, i2, i3, i4⟩ := lastK_some _ _ _ _ hp
 have h1 := chain_skip b a d (a - p - 1) t (by omega) h (fun k k1 k2 k3 => by
  have := (alikeN_three b 257 (a - k) a (by omega) (by omega)).1 k3
  exact i4 (a - k) (by omega) (by omega) (by omega) this.2)
 have h2 := chain_step b a (a - p - 1) t h1 ((alikeN_three b 257 _ a (by omega) (by omega)).2 ⟨ha, by rw [show a - (a - p - 1 + 1) = p by omega]; exact i3⟩)
 rw [show a - p - 1 + 1 = a - p by omega] at h2
 refine ⟨h2, i1, ?_⟩
 unfold prevK
 rw [if_pos i2, i3, show a - (a - p) = p by omega]
theorem chain_done (b : List UInt8) (a d : Nat) (t : Nat × Nat) (hd : d ≤ min 4095 a) (h : chainIs (bestTo b a d) t)
  (hp : (bestTo b a d).1 = 257 ∨ ∀ q, q < a - d → a - q ≤ 4095 → trip b q ≠ trip b a) : chainIs (bestK b a) t := by
 unfold bestK
 rcases hp with hp | hp
 · rw [bestTo_full b a d _ hd hp]; exact h
 · exact chain_skip b a d _ t hd h fun k k1 k2 k3 => hp (a - k) (by omega) (by omega) ((alikeN_three b 257 (a - k) a (by omega) (by omega)).1 k3).2
theorem best_short (b : List UInt8) (a : Nat) (ha : b.length < a + 3) (h : a ≤ b.length) : (bestK b a).1 < 3 := by
 have := (bestTo_le b a h (min 4095 a)).2.1
 unfold bestK; omega
def findGo (b : List UInt8) (a : Nat) : List Tok :=
 if h : a < b.length then
  if h3 : 3 ≤ (bestK b a).1 then ⟨0, (bestK b a).1, (bestK b a).2⟩ :: findGo b (a + (bestK b a).1)
  else ⟨b[a], 0, 0⟩ :: findGo b (a + 1)
 else []
termination_by b.length - a
def findK (b : List UInt8) : List Tok := findGo b 0
theorem findGo_end (b : List UInt8) (a : Nat) (h : b.length ≤ a) : findGo b a = [] := by rw [findGo, dif_neg (by omega)]
theorem findGo_match (b : List UInt8) (a : Nat) (h : a < b.length) (h3 : 3 ≤ (bestK b a).1) : findGo b a = ⟨0, (bestK b a).1, (bestK b a).2⟩ :: findGo b (a + (bestK b a).1) := by rw [findGo, dif_pos h, dif_pos h3]
theorem findGo_lit (b : List UInt8) (a : Nat) (h : a < b.length) (h3 : ¬ 3 ≤ (bestK b a).1) : findGo b a = ⟨b[a], 0, 0⟩ :: findGo b (a + 1) := by rw [findGo, dif_pos h, dif_neg h3]
def mayT (t : Tok) : Bool := if t.len = 0 then decide (t.dist = 0) else decide (t.lit = 0) && decide (3 ≤ t.len) && decide (t.len ≤ 257) && decide (1 ≤ t.dist) && decide (t.dist ≤ 4095)
theorem findGo_may (b : List UInt8) (a : Nat) : ∀ t ∈ findGo b a, mayT t = true := by
 induction a using findGo.induct (b := b) with
 | case1 a h h3 ih =>
  rw [findGo_match b a h h3]
  intro t ht
  rcases List.mem_cons.1 ht with rfl | ht
  · have := bestTo_le b a (by omega) (min 4095 a)
    unfold bestK at *
    unfold mayT
    rw [if_neg (by simp; omega)]
    simp only [Bool.and_eq_true, decide_eq_true_eq]
    refine ⟨⟨⟨⟨trivial, ?_⟩, ?_⟩, ?_⟩, ?_⟩ <;> omega
  · exact ih t ht
 | case2 a h h3 ih =>
  rw [findGo_lit b a h h3]
  intro t ht
  rcases List.mem_cons.1 ht with rfl | ht
  · simp [mayT]
  · exact ih t ht
 | case3 a h => rw [findGo_end b a (by omega)]; intro t ht; cases ht
theorem findGo_len (b : List UInt8) (a : Nat) : (findGo b a).length ≤ b.length - a := by
 induction a using findGo.induct (b := b) with
 | case1 a h h3 ih => rw [findGo_match b a h h3, List.length_cons]; omega
 | case2 a h h3 ih => rw [findGo_lit b a h h3, List.length_cons]; omega
 | case3 a h => rw [findGo_end b a (by omega)]; simp
def cntK (lens : List UInt8) (l : Nat) : Nat := lens.countP fun c => c.toNat == l
theorem cntK_le (lens : List UInt8) (l : Nat) : cntK lens l ≤ lens.length := List.countP_le_length
theorem cntK_nil (l : Nat) : cntK [] l = 0 := rfl
theorem cntK_app (a b : List UInt8) (l : Nat) : cntK (a ++ b) l = cntK a l + cntK b l := by simp [cntK]
theorem cntK_cons (c : UInt8) (b : List UInt8) (l : Nat) : cntK (c :: b) l = cntK b l + if c.toNat = l then 1 else 0 := by
 simp [cntK, List.countP_cons]
theorem cntK_take (lens : List UInt8) (k l : Nat) (h : k < lens.length) : cntK (lens.take (k + 1)) l = cntK (lens.take k) l + if lens[k].toNat = l then 1 else 0 := by
 rw [List.take_succ_eq_append_getElem h, cntK_app, cntK_cons, cntK_nil]; omega
theorem cntK_take_le (lens : List UInt8) (k l : Nat) : cntK (lens.take k) l ≤ cntK lens l := by
 conv => rhs; rw [← List.take_append_drop k lens]
 rw [cntK_app]; omega
def firstK (lens : List UInt8) : Nat → Nat
 | 0 => 0
 | 1 => 0
 | l + 2 => 2 * (firstK lens (l + 1) + cntK lens (l + 1))
theorem firstK_succ (lens : List UInt8) (l : Nat) (h : 1 ≤ l) : firstK lens (l + 1) = 2 * (firstK lens l + cntK lens l) := by
 obtain ⟨k, rfl⟩ : ∃ k, l = k + 1 := ⟨l - 1, by omega⟩
 rfl
theorem firstK_le (lens : List UInt8) (l : Nat) : firstK lens l + 2 * lens.length ≤ lens.length * 2 ^ (l + 1) := by
 induction l with
 | zero => simp [firstK]; omega
 | succ l ih =>
  rcases Nat.eq_zero_or_pos l with rfl | hp
  · simp [firstK]; omega
  · rw [firstK_succ lens l hp]
    have := cntK_le lens l
    have e : lens.length * 2 ^ (l + 1 + 1) = 2 * (lens.length * 2 ^ (l + 1)) := by rw [Nat.pow_succ 2 (l + 1)]; simp [Nat.mul_comm, Nat.mul_left_comm]
    rw [e]; omega
def valK (lens : List UInt8) (l s : Nat) : Nat := firstK lens l + cntK (lens.take s) l
theorem valK_le (lens : List UInt8) (l s : Nat) (hl : l ≤ 15) (hn : lens.length ≤ 300) : valK lens l s ≤ 20000000 := by
 have h1 := firstK_le lens l
 have h2 := cntK_take_le lens s l
 have h3 := cntK_le lens l
 have h4 : lens.length * 2 ^ (l + 1) ≤ 300 * 2 ^ 16 := Nat.mul_le_mul hn (Nat.pow_le_pow_right (by omega) (by omega))
 unfold valK; omega
theorem valK_zero (lens : List UInt8) (l : Nat) : valK lens l 0 = firstK lens l := by simp [valK, cntK_nil]
theorem valK_succ (lens : List UInt8) (l s : Nat) (h : s < lens.length) : valK lens l (s + 1) = valK lens l s + if lens[s].toNat = l then 1 else 0 := by
 unfold valK; rw [cntK_take _ _ _ h]; omega
theorem valK_end (lens : List UInt8) (l : Nat) (h : 1 ≤ l) : valK lens (l + 1) 0 = 2 * valK lens l lens.length := by
 rw [valK_zero, firstK_succ _ _ h, valK, List.take_length]
def codesK (lens : List UInt8) : List Nat := lens.mapIdx fun s c => if c = 0 then 0 else valK lens c.toNat s % 65536
theorem codesK_len (lens : List UInt8) : (codesK lens).length = lens.length := by simp [codesK]
theorem codesK_at (lens : List UInt8) (s : Nat) (h : s < lens.length) : (codesK lens)[s]'(by rw [codesK_len]; exact h) = if lens[s] = 0 then 0 else valK lens lens[s].toNat s % 65536 := by simp [codesK]
def kraftK (lens : List UInt8) : Nat := (lens.map fun c => if c = 0 then 0 else 2 ^ (15 - c.toNat)).sum
theorem kraftK_cons (c : UInt8) (l : List UInt8) : kraftK (c :: l) = (if c = 0 then 0 else 2 ^ (15 - c.toNat)) + kraftK l := rfl
theorem kraftK_app (a b : List UInt8) : kraftK (a ++ b) = kraftK a + kraftK b := by simp [kraftK]
theorem kraftK_take (lens : List UInt8) (k : Nat) (h : k < lens.length) : kraftK (lens.take (k + 1)) = kraftK (lens.take k) + if lens[k] = 0 then 0 else 2 ^ (15 - lens[k].toNat) := by
 rw [List.take_succ_eq_append_getElem h, kraftK_app, kraftK_cons]; simp [kraftK]
theorem kraftK_le (lens : List UInt8) : kraftK lens ≤ lens.length * 16384 := by
 induction lens with
 | nil => simp [kraftK]
 | cons c l ih =>
  rw [kraftK_cons, List.length_cons]
  have : (if c = 0 then 0 else 2 ^ (15 - c.toNat)) ≤ 16384 := by
   split
   · omega
   · rename_i h
     have h0 : c.toNat ≠ 0 := fun e => h (UInt8.toNat_inj.1 (by simpa using e))
     have : 2 ^ (15 - c.toNat) ≤ 2 ^ 14 := Nat.pow_le_pow_right (by omega) (by omega)
     omega
  omega
def sumK (f : Nat → Nat) : Nat → Nat
 | 0 => 0
 | l + 1 => sumK f l + f (l + 1)
theorem sumK_add (f g : Nat → Nat) (l : Nat) : sumK (fun k => f k + g k) l = sumK f l + sumK g l := by
 induction l with
 | zero => rfl
 | succ l ih => simp only [sumK, ih]; omega
theorem sumK_zero (l : Nat) : sumK (fun _ => 0) l = 0 := by induction l with | zero => rfl | succ l ih => simp [sumK, ih]
theorem sumK_one (c v : Nat) (l : Nat) : sumK (fun k => if c = k then v else 0) l = if 1 ≤ c ∧ c ≤ l then v else 0 := by
 induction l with
 | zero => simp [sumK]; omega
 | succ l ih =>
  rw [sumK, ih]
  by_cases h1 : c = l + 1
  · subst h1; rw [if_neg (by omega), if_pos rfl, if_pos (by omega)]; omega
  · rw [if_neg h1]
    by_cases h2 : 1 ≤ c ∧ c ≤ l
    · rw [if_pos h2, if_pos (by omega)]; omega
    · rw [if_neg h2, if_neg (by omega)]
theorem sumK_congr (f g : Nat → Nat) (l : Nat) (h : ∀ k, 1 ≤ k → k ≤ l → f k = g k) : sumK f l = sumK g l := by
 induction l with
 | zero => rfl
 | succ l ih => rw [sumK, sumK, ih (fun k a b => h k a (by omega)), h (l + 1) (by omega) (by omega)]
theorem sum_kraft (lens : List UInt8) (h : ∀ c ∈ lens, c.toNat ≤ 15) : sumK (fun l => cntK lens l * 2 ^ (15 - l)) 15 = kraftK lens := by
 induction lens with
 | nil => simp [cntK_nil, kraftK, sumK_zero]
 | cons c lens ih =>
  have hc := h c (by simp)
  rw [kraftK_cons, ← ih (fun c hc => h c (by simp [hc]))]
  rw [sumK_congr (fun l => cntK (c :: lens) l * 2 ^ (15 - l)) (fun l => (cntK lens l * 2 ^ (15 - l)) + if c.toNat = l then 2 ^ (15 - c.toNat) else 0) 15 (fun k _ _ => by
   rw [cntK_cons, Nat.add_mul]
   by_cases e : c.toNat = k
   · rw [if_pos e, if_pos e, e]; omega
   · rw [if_neg e, if_neg e]; omega)]
  rw [sumK_add, sumK_one]
  by_cases h0 : c = 0
  · subst h0; simp
  · have h0' : c.toNat ≠ 0 := fun e => h0 (UInt8.toNat_inj.1 (by simpa using e))
    rw [if_pos (by omega), if_neg h0]; omega
def wordsK (lens : List UInt8) : Nat := lens.countP fun c => c != 0
theorem wordsK_le (lens : List UInt8) : wordsK lens ≤ lens.length := List.countP_le_length
theorem sum_words (lens : List UInt8) (h : ∀ c ∈ lens, c.toNat ≤ 15) : sumK (cntK lens) 15 = wordsK lens := by
 induction lens with
 | nil => exact sumK_zero 15
 | cons c lens ih =>
  have hc := h c (by simp)
  rw [sumK_congr (cntK (c :: lens)) (fun l => cntK lens l + if c.toNat = l then 1 else 0) 15 (fun k _ _ => cntK_cons c lens k), sumK_add, sumK_one, ih (fun c hc => h c (by simp [hc]))]
  unfold wordsK
  rw [List.countP_cons]
  by_cases h0 : c = 0
  · subst h0; simp
  · have h0' : c.toNat ≠ 0 := fun e => h0 (UInt8.toNat_inj.1 (by simpa using e))
    simp [h0]; omega
def okK (lens : List UInt8) : Bool := decide (wordsK lens = 0) || decide (kraftK lens = 32768) || (decide (wordsK lens = 1) && decide (cntK lens 1 = 1))
theorem first_sum (lens : List UInt8) : ∀ l, l ≤ 15 → (firstK lens l + (if l = 0 then 0 else cntK lens l)) * 2 ^ (15 - l) = sumK (fun k => cntK lens k * 2 ^ (15 - k)) l := by
 intro l
 induction l with
 | zero => intro _; simp [firstK, sumK]
 | succ l ih =>
  intro h
  rw [sumK, ← ih (by omega), if_neg (by omega)]
  rcases Nat.eq_zero_or_pos l with rfl | hp
  · simp [firstK]
  · rw [firstK_succ _ _ hp, if_neg (by omega), show 15 - l = (15 - (l + 1)) + 1 by omega, Nat.pow_succ, Nat.add_mul (2 * _)]
    simp only [Nat.mul_assoc, Nat.mul_comm, Nat.mul_left_comm]
theorem sumK_mono (f : Nat → Nat) (a b : Nat) (h : a ≤ b) : sumK f a ≤ sumK f b := by
 induction b with
 | zero => rw [Nat.le_zero.1 h]; exact Nat.le_refl _
 | succ b ih =>
  by_cases e : a = b + 1
  · rw [e]; exact Nat.le_refl _
  · rw [sumK]; have := ih (by omega); omega
theorem okK_kraft (lens : List UInt8) (h : okK lens = true) : kraftK lens ≤ 32768 := by
 unfold okK at h
 simp only [Bool.or_eq_true, Bool.and_eq_true, decide_eq_true_eq] at h
 rcases h with (h | h) | ⟨h, _⟩
 · have : ∀ l : List UInt8, wordsK l = 0 → kraftK l = 0 := by
     intro l
     induction l with
     | nil => intro _; rfl
     | cons c l ih =>
      intro e
      unfold wordsK at e
      rw [List.countP_cons] at e
      have e1 : c = 0 := by by_cases c0 : c = 0; · exact c0
                            · simp [c0] at e
      rw [kraftK_cons, if_pos e1, ih (by unfold wordsK; omega)]
   rw [this lens h]; omega
 · omega
 · have : ∀ l : List UInt8, wordsK l ≤ 1 → kraftK l ≤ wordsK l * 16384 := by
     intro l
     induction l with
     | nil => intro _; simp [kraftK]
     | cons c l ih =>
      intro e
      unfold wordsK at e ⊢
      rw [List.countP_cons] at e ⊢
      rw [kraftK_cons]
      have ih' := ih (by unfold wordsK; omega)
      unfold wordsK at ih'
      by_cases c0 : c = 0
      · simp [c0]; omega
      · have h0 : c.toNat ≠ 0 := fun e => c0 (UInt8.toNat_inj.1 (by simpa using e))
        have : 2 ^ (15 - c.toNat) ≤ 2 ^ 14 := Nat.pow_le_pow_right (by omega) (by omega)
        simp [c0] at *; omega
   have := this lens (by omega)
   omega
theorem valK_lt (lens : List UInt8) (hk : okK lens = true) (hl : ∀ c ∈ lens, c.toNat ≤ 15) (s : Nat) (h : s < lens.length) (h0 : lens[s] ≠ 0) : valK lens lens[s].toNat s < 2 ^ lens[s].toNat := by
 have h1 := okK_kraft lens hk
 have h15 := hl _ (List.getElem_mem h)
 have h0' : lens[s].toNat ≠ 0 := fun e => h0 (UInt8.toNat_inj.1 (by simpa using e))
 have hv := valK_succ lens lens[s].toNat s h
 rw [if_pos rfl] at hv
 have hc := cntK_take_le lens (s + 1) lens[s].toNat
 have hs := first_sum lens lens[s].toNat h15
 rw [if_neg h0'] at hs
 have hm := sumK_mono (fun k => cntK lens k * 2 ^ (15 - k)) lens[s].toNat 15 h15
 rw [sum_kraft lens hl, ← hs] at hm
 have h2 : valK lens lens[s].toNat (s + 1) ≤ firstK lens lens[s].toNat + cntK lens lens[s].toNat := by unfold valK; omega
 have h3 : (2 : Nat) ^ lens[s].toNat * 2 ^ (15 - lens[s].toNat) = 32768 := by rw [← Nat.pow_add, show lens[s].toNat + (15 - lens[s].toNat) = 15 by omega]
 have hp := Nat.two_pow_pos (15 - lens[s].toNat)
 have h4 : (firstK lens lens[s].toNat + cntK lens lens[s].toNat) * 2 ^ (15 - lens[s].toNat) ≤ 2 ^ lens[s].toNat * 2 ^ (15 - lens[s].toNat) := by omega
 have h5 := Nat.le_of_mul_le_mul_right h4 hp
 omega
def bitsL (x : Nat) : Nat → List UInt8
 | 0 => []
 | n + 1 => UInt8.ofNat (x / 2 ^ n % 2) :: bitsL x n
theorem bitsL_len (x n : Nat) : (bitsL x n).length = n := by induction n with | zero => rfl | succ n ih => simp [bitsL, ih]
def IsBits (l : List UInt8) : Prop := ∀ c ∈ l, c = 0 ∨ c = 1
theorem bit_of (y : Nat) : UInt8.ofNat (y % 2) = 0 ∨ UInt8.ofNat (y % 2) = 1 := by
 rcases Nat.mod_two_eq_zero_or_one y with h | h <;> rw [h] <;> simp
theorem IsBits.app {a b : List UInt8} (h1 : IsBits a) (h2 : IsBits b) : IsBits (a ++ b) := by
 intro c hc
 rcases List.mem_append.1 hc with h | h
 · exact h1 c h
 · exact h2 c h
def unaryL (n : Nat) : List UInt8 := List.replicate n 0 ++ [1]
def bitD (l : List UInt8) (i : Nat) : Nat := (l.getD i 0).toNat
def byteW (l : List UInt8) (q : Nat) : Nat :=
 bitD l (8 * q) * 128 + bitD l (8 * q + 1) * 64 + bitD l (8 * q + 2) * 32 + bitD l (8 * q + 3) * 16 + bitD l (8 * q + 4) * 8 + bitD l (8 * q + 5) * 4 + bitD l (8 * q + 6) * 2 + bitD l (8 * q + 7)
def packW (l : List UInt8) : List UInt8 := (List.range ((l.length + 7) / 8)).map fun q => UInt8.ofNat (byteW l q)
theorem packW_len (l : List UInt8) : (packW l).length = (l.length + 7) / 8 := by simp [packW]
theorem bitD_le {l : List UInt8} (h : IsBits l) (i : Nat) : bitD l i ≤ 1 := by
 unfold bitD
 by_cases hi : i < l.length
 · rw [List.getD_eq_getElem?_getD, List.getElem?_eq_getElem hi]
   rcases h _ (List.getElem_mem hi) with e | e <;> simp [e]
 · rw [List.getD_eq_getElem?_getD, List.getElem?_eq_none (by omega)]; simp
theorem byteW_lt {l : List UInt8} (h : IsBits l) (q : Nat) : byteW l q < 256 := by
 unfold byteW
 have h0 := bitD_le h (8 * q); have h1 := bitD_le h (8 * q + 1); have h2 := bitD_le h (8 * q + 2); have h3 := bitD_le h (8 * q + 3)
 have h4 := bitD_le h (8 * q + 4); have h5 := bitD_le h (8 * q + 5); have h6 := bitD_le h (8 * q + 6); have h7 := bitD_le h (8 * q + 7)
 omega
theorem bitD_out (l : List UInt8) (i : Nat) (h : l.length ≤ i) : bitD l i = 0 := by
 unfold bitD; rw [List.getD_eq_getElem?_getD, List.getElem?_eq_none h]; rfl
theorem bitD_old (l : List UInt8) (x : UInt8) (i : Nat) (h : i < l.length) : bitD (l ++ [x]) i = bitD l i := by
 unfold bitD; rw [List.getD_eq_getElem?_getD, List.getD_eq_getElem?_getD, List.getElem?_append_left h]
theorem bitD_new (l : List UInt8) (x : UInt8) : bitD (l ++ [x]) l.length = x.toNat := by
 unfold bitD; rw [List.getD_eq_getElem?_getD, List.getElem?_append_right (Nat.le_refl _)]; simp
theorem bitD_ne (l : List UInt8) (x : UInt8) (i : Nat) (h : i ≠ l.length) : bitD (l ++ [x]) i = bitD l i := by
 by_cases hi : i < l.length
 · exact bitD_old l x i hi
 · rw [bitD_out (l ++ [x]) i (by simp; omega), bitD_out l i (by omega)]
theorem byteW_other (l : List UInt8) (x : UInt8) (q : Nat) (h : q ≠ l.length / 8) : byteW (l ++ [x]) q = byteW l q := by
 unfold byteW
 rw [bitD_ne l x _ (by omega), bitD_ne l x _ (by omega), bitD_ne l x _ (by omega), bitD_ne l x _ (by omega), bitD_ne l x _ (by omega), bitD_ne l x _ (by omega), bitD_ne l x _ (by omega), bitD_ne l x _ (by omega)]
theorem byteW_new (l : List UInt8) (x : UInt8) : byteW (l ++ [x]) (l.length / 8) = byteW l (l.length / 8) + x.toNat * 2 ^ (7 - l.length % 8) := by
 obtain ⟨q, r, hr, hn⟩ : ∃ q r, r < 8 ∧ l.length = 8 * q + r := ⟨l.length / 8, l.length % 8, by omega, by omega⟩
 have hq : l.length / 8 = q := by omega
 have hm : l.length % 8 = r := by omega
 rw [hq, hm]
 have hnew := bitD_new l x
 have hout := bitD_out l l.length (Nat.le_refl _)
 rw [hn] at hnew hout
 have hne := fun i (h : i ≠ 8 * q + r) => bitD_ne l x i (by rw [hn]; exact h)
 unfold byteW
 have cases8 : r = 0 ∨ r = 1 ∨ r = 2 ∨ r = 3 ∨ r = 4 ∨ r = 5 ∨ r = 6 ∨ r = 7 := by omega
 rcases cases8 with rfl | rfl | rfl | rfl | rfl | rfl | rfl | rfl <;>
  (try simp only [Nat.add_zero] at hnew hout hne
   try rw [hne (8 * q) (by omega)]
   try rw [hne (8 * q + 1) (by omega)]
   try rw [hne (8 * q + 2) (by omega)]
   try rw [hne (8 * q + 3) (by omega)]
   try rw [hne (8 * q + 4) (by omega)]
   try rw [hne (8 * q + 5) (by omega)]
   try rw [hne (8 * q + 6) (by omega)]
   try rw [hne (8 * q + 7) (by omega)]
   rw [hnew, hout]
   simp only [Nat.reduceSub, Nat.reducePow]
   omega)
theorem byteW_low {l : List UInt8} (q s : Nat) (hs : s < 8) (h : l.length ≤ 8 * q + (7 - s)) : byteW l q / 2 ^ s % 2 = 0 := by
 unfold byteW
 have cases8 : s = 0 ∨ s = 1 ∨ s = 2 ∨ s = 3 ∨ s = 4 ∨ s = 5 ∨ s = 6 ∨ s = 7 := by omega
 have hz := fun i (h2 : 8 * q + (7 - s) ≤ i) => bitD_out l i (Nat.le_trans h h2)
 rcases cases8 with rfl | rfl | rfl | rfl | rfl | rfl | rfl | rfl <;>
  (simp only [Nat.reducePow]
   try rw [hz (8 * q) (by omega)]
   try rw [hz (8 * q + 1) (by omega)]
   try rw [hz (8 * q + 2) (by omega)]
   try rw [hz (8 * q + 3) (by omega)]
   try rw [hz (8 * q + 4) (by omega)]
   try rw [hz (8 * q + 5) (by omega)]
   try rw [hz (8 * q + 6) (by omega)]
   try rw [hz (8 * q + 7) (by omega)]
   all_goals omega)
theorem or_all8 : allB 256 (fun y => allB 8 fun s => !(y / 2 ^ s % 2 == 0) || (y ||| 2 ^ s) == y + 2 ^ s) = true := by decide +kernel
theorem or_bit (y s : Nat) (hy : y < 256) (hs : s < 8) (h : y / 2 ^ s % 2 = 0) : y ||| 2 ^ s = y + 2 ^ s := by
 have := allB_out 8 _ (allB_out 256 _ or_all8 y hy) s hs
 simpa [h] using this
theorem packW_snoc (l : List UInt8) (x : UInt8) (hl : IsBits l) (hx : x = 0 ∨ x = 1) :
  packW (l ++ [x]) = ((if l.length % 8 = 0 then packW l ++ [0] else packW l).set (l.length / 8) (UInt8.ofNat (byteW l (l.length / 8) ||| x.toNat * 2 ^ (7 - l.length % 8)))) := by
 have hor : byteW l (l.length / 8) ||| x.toNat * 2 ^ (7 - l.length % 8) = byteW (l ++ [x]) (l.length / 8) := by
  rw [byteW_new]
  rcases hx with rfl | rfl
  · simp
  · have e1 : UInt8.toNat 1 = 1 := rfl
    rw [e1, Nat.one_mul]
    exact or_bit _ _ (byteW_lt hl _) (by omega) (byteW_low _ _ (by omega) (by omega))
 rw [hor]
 apply List.ext_getElem
 · rw [packW_len, List.length_set, List.length_append, List.length_singleton]
   split
   · rw [List.length_append, packW_len]; simp; omega
   · rw [packW_len]; omega
 · intro q h1 h2
   have hq : q < (l.length + 1 + 7) / 8 := by rw [packW_len] at h1; simpa using h1
   rw [List.getElem_set]
   by_cases e : l.length / 8 = q
   · rw [if_pos e]
     simp [packW, e]
   · rw [if_neg e]
     have hq2 : q < (l.length + 7) / 8 := by omega
     have e3 : (packW (l ++ [x]))[q] = UInt8.ofNat (byteW l q) := by
      simp [packW, byteW_other l x q (fun h => e h.symm)]
     have e4 : ∀ h, (packW l)[q]'h = UInt8.ofNat (byteW l q) := fun h => by simp [packW]
     rw [e3]
     by_cases h0 : l.length % 8 = 0
     · simp only [if_pos h0]
       rw [List.getElem_append_left (by rw [packW_len]; exact hq2)]
       exact (e4 _).symm
     · simp only [if_neg h0]
       exact (e4 _).symm
theorem packW_at (l : List UInt8) (q : Nat) (h : q < (packW l).length) : (packW l)[q] = UInt8.ofNat (byteW l q) := by simp [packW]
theorem byteW_zero (l : List UInt8) (q : Nat) (h : l.length ≤ 8 * q) : byteW l q = 0 := by
 unfold byteW
 rw [bitD_out l _ (by omega), bitD_out l _ (by omega), bitD_out l _ (by omega), bitD_out l _ (by omega), bitD_out l _ (by omega), bitD_out l _ (by omega), bitD_out l _ (by omega), bitD_out l _ (by omega)]
def fM (lens : List UInt8) (s l : Nat) : Nat := if cntK (lens.take s) l = 0 then 0 else firstK lens l % 65536
def sM (lens : List UInt8) (s l : Nat) : List Nat := (List.range s).filter fun i => (lens.getD i 0).toNat == l
theorem sM_zero (lens : List UInt8) (l : Nat) : sM lens 0 l = [] := rfl
theorem fM_zero (lens : List UInt8) (l : Nat) : fM lens 0 l = 0 := by simp [fM, cntK_nil]
theorem sM_succ (lens : List UInt8) (s l : Nat) (h : s < lens.length) : sM lens (s + 1) l = sM lens s l ++ if lens[s].toNat = l then [s] else [] := by
 have e : lens.getD s 0 = lens[s] := by rw [List.getD_eq_getElem?_getD, List.getElem?_eq_getElem h]; rfl
 unfold sM
 rw [List.range_succ, List.filter_append]
 congr 1
 simp only [List.filter_cons, List.filter_nil, e]
 by_cases h2 : lens[s].toNat = l <;> simp [h2]
theorem sM_len (lens : List UInt8) (s l : Nat) (h : s ≤ lens.length) : (sM lens s l).length = cntK (lens.take s) l := by
 induction s with
 | zero => simp [sM, cntK_nil]
 | succ s ih =>
  rw [sM_succ lens s l h, List.length_append, ih (by omega), cntK_take _ _ _ h]
  split <;> rfl
theorem fM_succ (lens : List UInt8) (s l : Nat) (h : s < lens.length) : fM lens (s + 1) l = if lens[s].toNat = l then firstK lens l % 65536 else fM lens s l := by
 unfold fM
 rw [cntK_take _ _ _ h]
 by_cases h2 : lens[s].toNat = l
 · rw [if_pos h2, if_pos h2, if_neg (by omega)]
 · rw [if_neg h2, if_neg h2]; rfl
theorem first_code (lens : List UInt8) (s : Nat) (h : s < lens.length) (h0 : lens[s] ≠ 0) (hc : cntK (lens.take s) lens[s].toNat = 0) : (codesK lens)[s]'(by rw [codesK_len]; exact h) = firstK lens lens[s].toNat % 65536 := by
 rw [codesK_at lens s h, if_neg h0]; unfold valK; rw [hc, Nat.add_zero]
theorem first_stays (lens : List UInt8) (s l : Nat) (hc : cntK (lens.take s) l ≠ 0) : fM lens s l = firstK lens l % 65536 := by unfold fM; rw [if_neg hc]
def symL (lens : List UInt8) (s : Nat) : Nat := (lens.getD s 0).toNat
theorem symL_at (lens : List UInt8) (s : Nat) (h : s < lens.length) : symL lens s = lens[s].toNat := by
 unfold symL; rw [List.getD_eq_getElem?_getD, List.getElem?_eq_getElem h]; rfl
theorem symL_out (lens : List UInt8) (s : Nat) (h : lens.length ≤ s) : symL lens s = 0 := by
 unfold symL; rw [List.getD_eq_getElem?_getD, List.getElem?_eq_none h]; rfl
def bitK (lens : List UInt8) (s : Nat) : List UInt8 := if symL lens s = 0 then [] else bitsL ((codesK lens).getD s 0) (symL lens s)
theorem bitK_none (lens : List UInt8) (s : Nat) (h : symL lens s = 0) : bitK lens s = [] := if_pos h
theorem bitK_some (lens : List UInt8) (s : Nat) (h : symL lens s ≠ 0) : bitK lens s = bitsL ((codesK lens).getD s 0) (symL lens s) := if_neg h
theorem bitK_len (lens : List UInt8) (s : Nat) (h : ∀ c ∈ lens, c.toNat ≤ 15) : (bitK lens s).length ≤ 15 := by
 unfold bitK
 split
 · simp
 · rename_i h2
   rw [bitsL_len]
   by_cases hs : s < lens.length
   · rw [symL_at lens s hs]; exact h _ (List.getElem_mem hs)
   · rw [symL_out lens s (by omega)] at h2; exact absurd rfl h2
theorem codesK_get (lens : List UInt8) (s : Nat) (h : s < lens.length) : (codesK lens).getD s 0 = (codesK lens)[s]'(by rw [codesK_len]; exact h) := by
 rw [List.getD_eq_getElem?_getD, List.getElem?_eq_getElem]; rfl
theorem code_lt (lens : List UInt8) (hk : okK lens = true) (hl : ∀ c ∈ lens, c.toNat ≤ 15) (s : Nat) (h : s < lens.length) (h0 : lens[s] ≠ 0) : (codesK lens)[s]'(by rw [codesK_len]; exact h) < 2 ^ lens[s].toNat := by
 rw [codesK_at lens s h, if_neg h0]
 exact Nat.lt_of_le_of_lt (Nat.mod_le _ _) (valK_lt lens hk hl s h h0)
theorem code16 (lens : List UInt8) (s : Nat) (h : s < (codesK lens).length) : (codesK lens)[s] < 65536 := by
 rw [codesK_at lens s (by rw [codesK_len] at h; exact h)]
 split
 · omega
 · exact Nat.mod_lt _ (by omega)
def zrun : List UInt8 → Nat → Nat
 | [], _ => 0
 | _ :: _, 0 => 0
 | c :: l, k + 1 => if c = 0 then zrun l k + 1 else 0
theorem zrun_le (l : List UInt8) : ∀ k, zrun l k ≤ k ∧ zrun l k ≤ l.length := by
 induction l with
 | nil => intro k; simp [zrun]
 | cons c l ih =>
  intro k
  cases k with
  | zero => simp [zrun]
  | succ k =>
   rw [zrun]
   have := ih k
   split
   · rw [List.length_cons]; omega
   · omega
theorem zrun_zero (l : List UInt8) : zrun l 0 = 0 := by cases l <;> rfl
def wrGo : List UInt8 → List UInt8
 | [] => []
 | c :: r => if c = 0 then bitsL 0 4 ++ (bitsL (zrun r 63) 6 ++ wrGo (r.drop (zrun r 63))) else bitsL c.toNat 4 ++ wrGo r
termination_by l => l.length
decreasing_by
 · rw [List.length_drop, List.length_cons]; omega
 · rw [List.length_cons]; omega
theorem wrGo_nil : wrGo [] = [] := by rw [wrGo]
theorem wrGo_zero (r : List UInt8) (c : UInt8) (h : c = 0) : wrGo (c :: r) = bitsL 0 4 ++ (bitsL (zrun r 63) 6 ++ wrGo (r.drop (zrun r 63))) := by rw [wrGo, if_pos h]
theorem wrGo_one (r : List UInt8) (c : UInt8) (h : c ≠ 0) : wrGo (c :: r) = bitsL c.toNat 4 ++ wrGo r := by rw [wrGo, if_neg h]
theorem wrGo_len : ∀ (n : Nat) (l : List UInt8), l.length ≤ n → (wrGo l).length ≤ 10 * l.length := by
 intro n
 induction n with
 | zero => intro l h; rw [List.eq_nil_of_length_eq_zero (Nat.le_zero.1 h), wrGo_nil]; simp
 | succ n ih =>
  intro l h
  cases l with
  | nil => rw [wrGo_nil]; simp
  | cons c r =>
   rw [List.length_cons] at h
   by_cases hc : c = 0
   · rw [wrGo_zero r c hc, List.length_append, List.length_append, bitsL_len, bitsL_len]
     have h1 := ih (r.drop (zrun r 63)) (by rw [List.length_drop]; omega)
     have h2 := (zrun_le r 63).2
     rw [List.length_drop] at h1
     rw [List.length_cons]; omega
   · rw [wrGo_one r c hc, List.length_append, bitsL_len]
     have h1 := ih r (by omega)
     rw [List.length_cons]; omega
theorem zrun_on (l : List UInt8) (i k : Nat) (h : i < l.length) (h0 : l[i] = 0) : zrun (l.drop i) (k + 1) = zrun (l.drop (i + 1)) k + 1 := by
 rw [List.drop_eq_getElem_cons h, zrun, if_pos h0]
theorem zrun_off (l : List UInt8) (i k : Nat) (h : i < l.length) (h0 : l[i] ≠ 0) : zrun (l.drop i) k = 0 := by
 rw [List.drop_eq_getElem_cons h]
 cases k with
 | zero => rfl
 | succ k => rw [zrun, if_neg h0]
theorem zrun_end (l : List UInt8) (i k : Nat) (h : l.length ≤ i) : zrun (l.drop i) k = 0 := by rw [List.drop_eq_nil_of_le h]; rfl
def clsK (v : Nat) : Nat := Nat.log2 v
def rstK (v : Nat) : Nat := v - 2 ^ Nat.log2 v
theorem cls_le (v : Nat) (h : 1 ≤ v) : 2 ^ clsK v ≤ v := Nat.log2_self_le (by omega)
theorem cls_lt (v : Nat) : v < 2 ^ (clsK v + 1) := Nat.lt_log2_self
theorem rst_lt (v : Nat) (h : 1 ≤ v) : rstK v < 2 ^ clsK v := by
 have h1 := cls_le v h
 have h2 := cls_lt v
 unfold rstK clsK at *
 rw [Nat.pow_succ] at h2; omega
theorem cls_small (v k : Nat) (h : 1 ≤ v) (h2 : v < 2 ^ k) : clsK v < k := by
 have h1 := cls_le v h
 exact (Nat.pow_lt_pow_iff_right (by omega)).1 (Nat.lt_of_le_of_lt h1 h2)
theorem cls_of (v b : Nat) (h1 : 2 ^ b ≤ v) (h2 : v < 2 ^ (b + 1)) : clsK v = b := by
 have hp := Nat.two_pow_pos b
 have h3 := cls_le v (by omega)
 have h4 := cls_lt v
 have h5 : clsK v < b + 1 := (Nat.pow_lt_pow_iff_right (show 1 < 2 by omega)).1 (Nat.lt_of_le_of_lt h3 h2)
 have h6 : b < clsK v + 1 := (Nat.pow_lt_pow_iff_right (show 1 < 2 by omega)).1 (Nat.lt_of_le_of_lt h1 h4)
 omega
structure Pce where
 sym : Nat
 len : Nat
 dist : Nat
 far : Nat
 deriving DecidableEq
def pieceK (t : Tok) : Pce := if t.len = 0 then ⟨t.lit.toNat, 0, 0, 0⟩ else ⟨257 + clsK (t.len - 2), rstK (t.len - 2), clsK t.dist, rstK t.dist⟩
theorem mayT_len (t : Tok) (h : mayT t = true) (h0 : t.len ≠ 0) : t.lit = 0 ∧ 3 ≤ t.len ∧ t.len ≤ 257 ∧ 1 ≤ t.dist ∧ t.dist ≤ 4095 := by
 unfold mayT at h
 rw [if_neg h0] at h
 simp only [Bool.and_eq_true, decide_eq_true_eq] at h
 exact ⟨h.1.1.1.1, h.1.1.1.2, h.1.1.2, h.1.2, h.2⟩
theorem piece_bounds (t : Tok) (h : mayT t = true) : (pieceK t).sym < 265 ∧ (pieceK t).dist < 12 ∧ (pieceK t).len < 256 ∧ (pieceK t).far < 4096 ∧ ((pieceK t).sym < 256 ↔ t.len = 0) ∧ (t.len ≠ 0 → 257 ≤ (pieceK t).sym) := by
 unfold pieceK
 by_cases h0 : t.len = 0
 · rw [if_pos h0]
   have := t.lit.toNat_lt
   exact ⟨by show t.lit.toNat < 265; omega, by show 0 < 12; omega, by show 0 < 256; omega, by show 0 < 4096; omega, by show t.lit.toNat < 256 ↔ _; omega, fun h => absurd h0 h⟩
 · rw [if_neg h0]
   obtain ⟨_, h1, h2, h3, h4⟩ := mayT_len t h h0
   have c1 := cls_small (t.len - 2) 8 (by omega) (by have : (2 : Nat) ^ 8 = 256 := rfl; omega)
   have c2 := cls_small t.dist 12 h3 (by have : (2 : Nat) ^ 12 = 4096 := rfl; omega)
   have r1 : rstK (t.len - 2) ≤ t.len - 2 := Nat.sub_le _ _
   have r2 : rstK t.dist ≤ t.dist := Nat.sub_le _ _
   exact ⟨by show 257 + clsK (t.len - 2) < 265; omega, c2, by show rstK _ < 256; omega, by show rstK _ < 4096; omega, by show 257 + clsK (t.len - 2) < 256 ↔ _; omega, fun _ => by show 257 ≤ 257 + _; omega⟩
def symsN (l : List Tok) (k : Nat) : Nat := l.countP fun t => (pieceK t).sym == k
def farsN (l : List Tok) (k : Nat) : Nat := l.countP fun t => decide (t.len ≠ 0) && ((pieceK t).dist == k)
theorem symsN_snoc (l : List Tok) (t : Tok) (k : Nat) : symsN (l ++ [t]) k = symsN l k + if (pieceK t).sym = k then 1 else 0 := by simp [symsN, List.countP_append, List.countP_cons]
theorem farsN_snoc (l : List Tok) (t : Tok) (k : Nat) : farsN (l ++ [t]) k = farsN l k + if t.len ≠ 0 ∧ (pieceK t).dist = k then 1 else 0 := by simp [farsN, List.countP_append, List.countP_cons]
theorem symsN_le (l : List Tok) (k : Nat) : symsN l k ≤ l.length := List.countP_le_length
theorem farsN_le (l : List Tok) (k : Nat) : farsN l k ≤ l.length := List.countP_le_length
def symsL (l : List Tok) : List Nat := (List.range 265).map fun k => symsN l k + if k = 256 then 1 else 0
def farsL (l : List Tok) : List Nat := (List.range 12).map (farsN l)
def wrK (a : List UInt8) : List UInt8 := if okK a then wrGo a else []
def ptK (a : List UInt8) (s : Nat) : List UInt8 := if okK a then bitK a s else []
def tokK (a b : List UInt8) (t : Tok) : List UInt8 :=
 ptK a (pieceK t).sym ++ if t.len = 0 then [] else bitsL (pieceK t).len ((pieceK t).sym - 257) ++ (ptK b (pieceK t).dist ++ bitsL (pieceK t).far (pieceK t).dist)
def toksK (a b : List UInt8) (l : List Tok) : List UInt8 := l.flatMap (tokK a b)
def allK (a b : List UInt8) (l : List Tok) : List UInt8 := ((wrK a ++ wrK b) ++ toksK a b l) ++ ptK a 256
theorem toksK_snoc (a b : List UInt8) (l : List Tok) (t : Tok) : toksK a b (l ++ [t]) = toksK a b l ++ tokK a b t := by simp [toksK]
theorem wrK_len (a : List UInt8) : (wrK a).length ≤ 10 * a.length := by
 unfold wrK
 split
 · exact wrGo_len a.length a (Nat.le_refl _)
 · simp
theorem tokK_len (a b : List UInt8) (t : Tok) (hm : mayT t = true) (ha : ∀ c ∈ a, c.toNat ≤ 15) (hb : ∀ c ∈ b, c.toNat ≤ 15) : (tokK a b t).length ≤ 50 := by
 have pl : ∀ (x : List UInt8) s, (∀ c ∈ x, c.toNat ≤ 15) → (ptK x s).length ≤ 15 := fun x s h => by
  unfold ptK
  split
  · exact bitK_len x s h
  · simp
 have h1 := pl a (pieceK t).sym ha
 have h2 := pl b (pieceK t).dist hb
 obtain ⟨p1, p2, p3, p4, p5, p6⟩ := piece_bounds t hm
 unfold tokK
 split
 · simp; omega
 · simp only [List.length_append, bitsL_len]; omega
theorem toksK_len (a b : List UInt8) (ha : ∀ c ∈ a, c.toNat ≤ 15) (hb : ∀ c ∈ b, c.toNat ≤ 15) (l : List Tok) (hm : ∀ t ∈ l, mayT t = true) : (toksK a b l).length ≤ 50 * l.length := by
 induction l with
 | nil => simp [toksK]
 | cons t l ih =>
  have h1 := tokK_len a b t (hm t (by simp)) ha hb
  have h2 := ih (fun t h => hm t (by simp [h]))
  unfold toksK at *
  rw [List.flatMap_cons, List.length_append, List.length_cons]; omega
def bitU (x : Nat) : Nat := if x % 2 = 1 then (x / 2) ^^^ 3988292384 else x / 2
def byteU (x c : Nat) : Nat := bitU (bitU (bitU (bitU (bitU (bitU (bitU (bitU (x ^^^ c))))))))
def crcGo (x : Nat) (l : List UInt8) : Nat := l.foldl (fun x c => byteU x c.toNat) x
def sumU (l : List UInt8) : Nat := 4294967295 - crcGo 4294967295 l
def tabU (i : Nat) : Nat := bitU (bitU (bitU (bitU i)))
theorem bitU_xor (a b : Nat) : bitU (a ^^^ b) = bitU a ^^^ bitU b := by
 have h := bit_xor a b 0
 simp only [Nat.pow_zero, Nat.div_one] at h
 unfold bitU
 rw [Nat.xor_div_two]
 by_cases h1 : a % 2 = 1 <;> by_cases h2 : b % 2 = 1
 · rw [if_neg (by rw [h]; simp [h1, h2]), if_pos h1, if_pos h2, xor_cross, Nat.xor_self, Nat.xor_zero]
 · rw [if_pos (by rw [h]; simp [h1, h2]), if_pos h1, if_neg h2, Nat.xor_assoc, Nat.xor_assoc, Nat.xor_comm (b / 2)]
 · rw [if_pos (by rw [h]; simp [h1, h2]), if_neg h1, if_pos h2, Nat.xor_assoc]
 · rw [if_neg (by rw [h]; simp [h1, h2]), if_neg h1, if_neg h2]
theorem bitU_lt (x : Nat) (h : x < 4294967296) : bitU x < 4294967296 := by
 unfold bitU
 have h1 : x / 2 < 2 ^ 32 := by omega
 split
 · exact Nat.xor_lt_two_pow h1 (by decide)
 · omega
theorem split16 (x : Nat) : x = (x / 16 * 16) ^^^ (x % 16) := by
 apply Nat.eq_of_testBit_eq
 intro j
 rw [Nat.testBit_xor, show (16 : Nat) = 2 ^ 4 from rfl, Nat.testBit_mul_two_pow, Nat.testBit_mod_two_pow, Nat.testBit_div_two_pow]
 by_cases h : 4 ≤ j
 · rw [show j - 4 + 4 = j by omega]; simp [h]; rw [decide_eq_false (by omega : ¬ j < 4)]; simp
 · simp [h]; omega
theorem tab_step (x : Nat) : bitU (bitU (bitU (bitU x))) = (x / 16) ^^^ tabU (x % 16) := by
 have e : bitU (bitU (bitU (bitU x))) = bitU (bitU (bitU (bitU ((x / 16 * 16) ^^^ (x % 16))))) := by rw [← split16]
 rw [e, bitU_xor, bitU_xor, bitU_xor, bitU_xor]
 have h : ∀ y, bitU (2 * y) = y := fun y => by unfold bitU; rw [if_neg (by omega)]; omega
 rw [show x / 16 * 16 = 2 * (2 * (2 * (2 * (x / 16)))) by omega, h, h, h, h]
 rfl
theorem byte_nib (x c : Nat) : byteU x c = ((x ^^^ c) / 16 ^^^ tabU ((x ^^^ c) % 16)) / 16 ^^^ tabU (((x ^^^ c) / 16 ^^^ tabU ((x ^^^ c) % 16)) % 16) := by
 unfold byteU
 rw [tab_step (x ^^^ c), tab_step]
theorem tabU_lt (i : Nat) (h : i < 16) : tabU i < 4294967296 := bitU_lt _ (bitU_lt _ (bitU_lt _ (bitU_lt _ (by omega))))
theorem byteU_lt (x c : Nat) (hx : x < 4294967296) (hc : c < 256) : byteU x c < 4294967296 := by
 have : x ^^^ c < 2 ^ 32 := Nat.xor_lt_two_pow hx (by omega)
 exact bitU_lt _ (bitU_lt _ (bitU_lt _ (bitU_lt _ (bitU_lt _ (bitU_lt _ (bitU_lt _ (bitU_lt _ this)))))))
theorem crcGo_lt (l : List UInt8) : ∀ x, x < 4294967296 → crcGo x l < 4294967296 := by
 induction l with
 | nil => intro x h; exact h
 | cons c l ih => intro x h; exact ih _ (byteU_lt x _ h c.toNat_lt)
theorem crcGo_snoc (x : Nat) (l : List UInt8) (k : Nat) (h : k < l.length) : crcGo x (l.take (k + 1)) = byteU (crcGo x (l.take k)) (l[k]).toNat := by
 unfold crcGo
 rw [List.take_succ_eq_append_getElem h, List.foldl_append]; rfl
theorem crcGo_app (x : Nat) (a b : List UInt8) : crcGo x (a ++ b) = crcGo (crcGo x a) b := by unfold crcGo; rw [List.foldl_append]
def putB (l : List UInt8) : List UInt8 := l ++ [UInt8.ofNat (sumU l % 256), UInt8.ofNat (sumU l / 256 % 256), UInt8.ofNat (sumU l / 65536 % 256), UInt8.ofNat (sumU l / 16777216 % 256)]
theorem sumU_lt (l : List UInt8) : sumU l < 4294967296 := by unfold sumU; omega
def risesGo (bound : Nat) : Nat → List Nat → Bool
 | _, [] => true
 | lo, x :: l => decide (lo ≤ x) && decide (x < bound) && risesGo bound (x + 1) l
theorem rises_cons (bound lo : Nat) (l : List Nat) (k : Nat) (h : k < l.length) : risesGo bound lo (l.drop k) = (decide (lo ≤ l[k]) && decide (l[k] < bound) && risesGo bound (l[k] + 1) (l.drop (k + 1))) := by
 rw [List.drop_eq_getElem_cons h, risesGo]
theorem rises_lt (bound : Nat) (l : List Nat) : ∀ lo, risesGo bound lo l = true → ∀ x ∈ l, x < bound := by
 induction l with
 | nil => intro lo _ x hx; simp at hx
 | cons y l ih =>
  intro lo h x hx
  rw [risesGo] at h
  simp only [Bool.and_eq_true, decide_eq_true_eq] at h
  rcases List.mem_cons.1 hx with rfl | hx
  · exact h.1.2
  · exact ih _ h.2 x hx
theorem rises_len (bound : Nat) (l : List Nat) : ∀ lo, lo ≤ bound → risesGo bound lo l = true → lo + l.length ≤ bound := by
 induction l with
 | nil => intro lo h _; simpa using h
 | cons y l ih =>
  intro lo hlo h
  rw [risesGo] at h
  simp only [Bool.and_eq_true, decide_eq_true_eq] at h
  have := ih (y + 1) (by omega) h.2
  rw [List.length_cons]; omega
def efLow (w : Nat) (l : List Nat) : List UInt8 := (l.map fun x => bitsL (x % 2 ^ w) w).flatten
theorem efLow_snoc (w : Nat) (l : List Nat) (k : Nat) (h : k < l.length) : efLow w (l.take (k + 1)) = efLow w (l.take k) ++ bitsL (l[k] % 2 ^ w) w := by
 unfold efLow; exact flat_map_snoc _ l k h
theorem efLow_len (w : Nat) (l : List Nat) : (efLow w l).length = l.length * w := by
 induction l with
 | nil => simp [efLow]
 | cons x l ih => simp only [efLow, List.map_cons, List.flatten_cons, List.length_append, bitsL_len] at *; rw [ih, List.length_cons, Nat.add_mul]; omega
def efHigh (w : Nat) : Nat → List Nat → List UInt8
 | _, [] => []
 | was, x :: l => unaryL (x / 2 ^ w - was) ++ efHigh w (x / 2 ^ w) l
theorem efHigh_cons (w was : Nat) (l : List Nat) (k : Nat) (h : k < l.length) : efHigh w was (l.drop k) = unaryL (l[k] / 2 ^ w - was) ++ efHigh w (l[k] / 2 ^ w) (l.drop (k + 1)) := by
 rw [List.drop_eq_getElem_cons h, efHigh]
theorem unaryL_len (n : Nat) : (unaryL n).length = n + 1 := by simp [unaryL]
def efL (bound : Nat) (l : List Nat) : List UInt8 :=
 numB l.length ++ if l = [] then [] else packW (efLow (Nat.log2 (bound / l.length)) l ++ efHigh (Nat.log2 (bound / l.length)) 0 l)
theorem log2_le (q k : Nat) (h1 : 2 ^ k ≤ q) (h2 : q < 2 ^ (k + 1)) : Nat.log2 q = k := (Nat.log2_eq_iff (by have := Nat.two_pow_pos k; omega)).2 ⟨h1, h2⟩
theorem getD_at {α : Type} (l : List α) (i : Nat) (d : α) (h : i < l.length) : l.getD i d = l[i] := by
 rw [List.getD_eq_getElem?_getD, List.getElem?_eq_getElem h]; rfl
def addP (l1 : List UInt8) (c : Nat) (b : List UInt8) : List UInt8 := l1.zipWith (fun x y => UInt8.ofNat (x.toNat ^^^ mulN c y.toNat)) b
def rowT (M : List UInt8) (C i : Nat) (ds : List (List UInt8)) (L : Nat) : Nat → List UInt8
 | 0 => List.replicate L 0
 | j + 1 => addP (rowT M C i ds L j) (M.getD (i * C + j) 0).toNat (ds.getD j [])
def timesL (M : List UInt8) (C R : Nat) (ds : List (List UInt8)) (L : Nat) : List (List UInt8) := (List.range R).map fun i => rowT M C i ds L C
theorem rowT_len (M : List UInt8) (C i : Nat) (ds : List (List UInt8)) (L j : Nat) (hl : ∀ p ∈ ds, p.length = L) (hj : j ≤ ds.length) : (rowT M C i ds L j).length = L := by
 induction j with
 | zero => simp [rowT]
 | succ j ih =>
  have h1 := ih (by omega)
  have h2 : (ds.getD j []).length = L := by
   rw [List.getD_eq_getElem?_getD, List.getElem?_eq_getElem (by omega)]
   exact hl _ (List.getElem_mem _)
  rw [rowT, addP, List.length_zipWith, h1, h2, Nat.min_self]
theorem timesL_len (M : List UInt8) (C R : Nat) (ds : List (List UInt8)) (L : Nat) : (timesL M C R ds L).length = R := by simp [timesL]
theorem addP_len (l1 b : List UInt8) (c : Nat) (h : l1.length = b.length) : (addP l1 c b).length = l1.length := by unfold addP; rw [List.length_zipWith]; omega
theorem addP_zero (l b : List UInt8) (h : l.length = b.length) : addP l 0 b = l := by
 apply List.ext_getElem
 · simp [addP, h]
 · intro i h1 h2
   simp [addP, nil_mul]
theorem addP_at (l b : List UInt8) (c i : Nat) (h1 : i < l.length) (h2 : i < b.length) (h3 : i < (addP l c b).length) : (addP l c b)[i] = UInt8.ofNat (l[i].toNat ^^^ mulN c b[i].toNat) := by
 simp [addP]
def cellT (M : List UInt8) (C i : Nat) (ds : List (List UInt8)) (n : Nat) : Nat → Nat
 | 0 => 0
 | j + 1 => cellT M C i ds n j ^^^ mulN (M.getD (i * C + j) 0).toNat ((ds.getD j []).getD n 0).toNat
theorem cellT_lt (M : List UInt8) (C i : Nat) (ds : List (List UInt8)) (n j : Nat) : cellT M C i ds n j < 256 := by
 induction j with
 | zero => simp [cellT]
 | succ j ih => exact Nat.xor_lt_two_pow (n := 8) ih (mul_lt _ _ (UInt8.toNat_lt _))
theorem rowT_at (M : List UInt8) (C i : Nat) (ds : List (List UInt8)) (L n j : Nat) (hl : ∀ p ∈ ds, p.length = L) (hj : j ≤ ds.length) (hn : n < L) : (rowT M C i ds L j)[n]'(by rw [rowT_len M C i ds L j hl hj]; exact hn) = UInt8.ofNat (cellT M C i ds n j) := by
 induction j with
 | zero => simp [rowT, cellT]
 | succ j ih =>
  have h1 := ih (by omega)
  have hlen := rowT_len M C i ds L j hl (by omega)
  have h2 : (ds.getD j []).length = L := by
   rw [List.getD_eq_getElem?_getD, List.getElem?_eq_getElem (by omega)]
   exact hl _ (List.getElem_mem _)
  have h3 : (rowT M C i ds L (j + 1)) = addP (rowT M C i ds L j) (M.getD (i * C + j) 0).toNat (ds.getD j []) := rfl
  have h4 := addP_at (rowT M C i ds L j) (ds.getD j []) (M.getD (i * C + j) 0).toNat n (by omega) (by omega) (by rw [← h3, rowT_len M C i ds L (j + 1) hl hj]; exact hn)
  simp only [h3]
  rw [h4, h1, cellT]
  have e1 : (UInt8.ofNat (cellT M C i ds n j)).toNat = cellT M C i ds n j := by
   rw [UInt8.toNat_ofNat']; exact Nat.mod_eq_of_lt (cellT_lt M C i ds n j)
  rw [e1]
  rw [getD_at (ds.getD j []) n 0 (by omega)]
theorem timesL_at (M : List UInt8) (C R : Nat) (ds : List (List UInt8)) (L i : Nat) (hi : i < R) (h : i < (timesL M C R ds L).length) : (timesL M C R ds L)[i] = rowT M C i ds L C := by
 simp [timesL]
def ltK (key : Nat → Nat) (a b : Nat) : Prop := key a < key b ∨ (key a = key b ∧ a < b)
theorem ltK_trans {key : Nat → Nat} {a b c : Nat} (h : ltK key a b) (k : ltK key b c) : ltK key a c := by unfold ltK at *; omega
theorem ltK_asymm {key : Nat → Nat} {a b : Nat} (h : ltK key a b) : ¬ ltK key b a := by unfold ltK at *; omega
abbrev SrtK (key : Nat → Nat) (l : List Nat) : Prop := l.Pairwise (ltK key)
theorem srtK_unique {key : Nat → Nat} {l m : List Nat} (hp : l.Perm m) (h1 : SrtK key l) (h2 : SrtK key m) : l = m :=
 hp.eq_of_pairwise (fun _ _ _ _ h k => absurd k (ltK_asymm h)) h1 h2
def downTo (f : Nat → Bool) : Nat → Nat
 | 0 => 0
 | n + 1 => if f n then downTo f n else n + 1
theorem downTo_le (f : Nat → Bool) (n : Nat) : downTo f n ≤ n := by
 induction n with
 | zero => exact Nat.le_refl _
 | succ n ih => rw [downTo]; split <;> omega
theorem downTo_pass (f : Nat → Bool) (n : Nat) : ∀ i, downTo f n ≤ i → i < n → f i = true := by
 induction n with
 | zero => intro i _ h; omega
 | succ n ih =>
  intro i h1 h2
  rw [downTo] at h1
  split at h1
  · by_cases e : i = n
    · subst e; assumption
    · exact ih i h1 (by omega)
  · omega
theorem downTo_stop (f : Nat → Bool) (n : Nat) (h : downTo f n ≠ 0) : f (downTo f n - 1) = false := by
 induction n with
 | zero => exact absurd rfl h
 | succ n ih =>
  rw [downTo] at h ⊢
  split
  · rename_i hf; rw [if_pos hf] at h; exact ih h
  · rename_i hf; simpa using hf
def putK (key : Nat → Nat) (l : List Nat) (x : Nat) : List Nat :=
 l.take (downTo (fun i => decide (key x < key (l.getD i 0))) l.length) ++ x :: l.drop (downTo (fun i => decide (key x < key (l.getD i 0))) l.length)
theorem putK_perm (key : Nat → Nat) (l : List Nat) (x : Nat) : (putK key l x).Perm (x :: l) := by
 unfold putK
 refine List.perm_middle.trans ?_
 rw [List.take_append_drop]
theorem putK_srt (key : Nat → Nat) (l : List Nat) (x : Nat) (hs : SrtK key l) (hx : ∀ y ∈ l, y < x) : SrtK key (putK key l x) := by
 unfold putK
 have hd := downTo_le (fun i => decide (key x < key (l.getD i 0))) l.length
 have hpass := downTo_pass (fun i => decide (key x < key (l.getD i 0))) l.length
 have hstop := downTo_stop (fun i => decide (key x < key (l.getD i 0))) l.length
 generalize downTo (fun i => decide (key x < key (l.getD i 0))) l.length = d at *
 have h1 : ∀ y ∈ l.take d, ltK key y x := by
  intro y hy
  obtain ⟨i, hi, rfl⟩ := List.getElem_of_mem hy
  have hi' : i < d := by have := hi; rw [List.length_take] at this; omega
  have hil : i < l.length := by omega
  rw [List.getElem_take]
  have hst := hstop (by omega)
  simp only [decide_eq_false_iff_not, Nat.not_lt, List.getD_eq_getElem?_getD, List.getElem?_eq_getElem (show d - 1 < l.length by omega), Option.getD_some] at hst
  have hle : key l[i] ≤ key (l[d - 1]'(by omega)) := by
   by_cases e : i = d - 1
   · subst e; exact Nat.le_refl _
   · have := List.pairwise_iff_getElem.1 hs i (d - 1) hil (by omega) (by omega)
     unfold ltK at this; omega
  have := hx l[i] (List.getElem_mem hil)
  unfold ltK; omega
 have h2 : ∀ y ∈ l.drop d, ltK key x y := by
  intro y hy
  obtain ⟨i, hi, rfl⟩ := List.getElem_of_mem hy
  have hi' : d + i < l.length := by have := hi; rw [List.length_drop] at this; omega
  rw [List.getElem_drop]
  have := hpass (d + i) (by omega) hi'
  simp only [decide_eq_true_eq, List.getD_eq_getElem?_getD, List.getElem?_eq_getElem hi', Option.getD_some] at this
  exact .inl this
 refine List.pairwise_append.2 ⟨hs.sublist (List.take_sublist _ _), List.pairwise_cons.2 ⟨h2, hs.sublist (List.drop_sublist _ _)⟩, fun a ha b hb => ?_⟩
 rcases List.mem_cons.1 hb with rfl | hb
 · exact h1 a ha
 · exact ltK_trans (h1 a ha) (h2 b hb)
def usedK (key : Nat → Nat) (l : List Nat) : List Nat := l.foldl (putK key) []
theorem usedK_of (key : Nat → Nat) : ∀ (l acc : List Nat), SrtK key acc → (∀ y ∈ acc, ∀ x ∈ l, y < x) → l.Pairwise (· < ·) → SrtK key (l.foldl (putK key) acc) ∧ (l.foldl (putK key) acc).Perm (acc ++ l) := by
 intro l
 induction l with
 | nil => intro acc hs _ _; exact ⟨hs, by simp⟩
 | cons x l ih =>
  intro acc hs hlt hp
  have hp' := List.pairwise_cons.1 hp
  have hpm := putK_perm key acc x
  obtain ⟨h1, h2⟩ := ih (putK key acc x) (putK_srt key acc x hs fun y hy => hlt y hy x (by simp)) (fun y hy z hz => by
   rcases List.mem_cons.1 (hpm.mem_iff.1 hy) with rfl | hy
   · exact hp'.1 z hz
   · exact hlt y hy z (by simp [hz])) hp'.2
  refine ⟨h1, h2.trans ?_⟩
  exact (hpm.append_right l).trans (List.perm_middle.symm)
theorem usedK_srt (key : Nat → Nat) (l : List Nat) (hp : l.Pairwise (· < ·)) : SrtK key (usedK key l) := (usedK_of key l [] List.Pairwise.nil (by simp) hp).1
theorem usedK_perm (key : Nat → Nat) (l : List Nat) (hp : l.Pairwise (· < ·)) : (usedK key l).Perm l := by
 have h := (usedK_of key l [] List.Pairwise.nil (by simp) hp).2
 rw [List.nil_append] at h
 exact h
theorem usedK_eq (key : Nat → Nat) (l m : List Nat) (hp : l.Pairwise (· < ·)) (hm : m.Perm l) (hs : SrtK key m) : m = usedK key l :=
 srtK_unique (hm.trans (usedK_perm key l hp).symm) hs (usedK_srt key l hp)
end Go.Fk
