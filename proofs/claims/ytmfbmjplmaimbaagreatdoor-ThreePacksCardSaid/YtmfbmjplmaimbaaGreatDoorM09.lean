/- Parts of the proof of ThreePacks: SpecS2 SpecS3 SpecS4 SpecL SpecL2 SpecT SpecT2. -/
import Derived.Test.YtmfbmjplmaimbaaGreatDoorM08
set_option linter.unusedVariables false
set_option linter.unusedSectionVars false
set_option linter.unusedSimpArgs false
set_option maxHeartbeats 8000000
namespace Go.Fk
def segF (f : Nat → Nat) (a b : Nat) : List Nat := (List.range (b - a)).map fun i => f (a + i)
theorem segF_len (f : Nat → Nat) (a b : Nat) : (segF f a b).length = b - a := by simp [segF]
theorem segF_split (f : Nat → Nat) (a m b : Nat) (h1 : a ≤ m) (h2 : m ≤ b) : segF f a b = segF f a m ++ segF f m b := by
 unfold segF
 rw [show b - a = (m - a) + (b - m) by omega, List.range_add, List.map_append, List.map_map]
 congr 1
 refine List.map_congr_left fun i _ => ?_
 show f (a + (m - a + i)) = f (m + i)
 congr 1; omega
theorem segF_congr (f g : Nat → Nat) (a b : Nat) (h : ∀ p, a ≤ p → p < b → f p = g p) : segF f a b = segF g a b := by
 unfold segF
 refine List.map_congr_left fun i hi => ?_
 have := List.mem_range.1 hi
 exact h _ (by omega) (by omega)
theorem segF_shift (f g : Nat → Nat) (a b c d : Nat) (hl : b - a = d - c) (h : ∀ i, i < b - a → f (a + i) = g (c + i)) : segF f a b = segF g c d := by
 unfold segF
 rw [← hl]
 exact List.map_congr_left fun i hi => h i (List.mem_range.1 hi)
theorem mem_segF (f : Nat → Nat) (a b x : Nat) : x ∈ segF f a b ↔ ∃ p, a ≤ p ∧ p < b ∧ f p = x := by
 unfold segF
 rw [List.mem_map]
 constructor
 · rintro ⟨i, hi, rfl⟩; have := List.mem_range.1 hi; exact ⟨a + i, by omega, by omega, rfl⟩
 · rintro ⟨p, h1, h2, rfl⟩; exact ⟨p - a, List.mem_range.2 (by omega), by congr 1; omega⟩
theorem segF_at (f : Nat → Nat) (a b i : Nat) (h : i < (segF f a b).length) : (segF f a b)[i] = f (a + i) := by simp [segF]
def RearF (f f' : Nat → Nat) (a b : Nat) : Prop := (∀ p, p < a ∨ b ≤ p → f' p = f p) ∧ (segF f' a b).Perm (segF f a b)
theorem RearF.refl (f : Nat → Nat) (a b : Nat) : RearF f f a b := ⟨fun _ _ => rfl, List.Perm.refl _⟩
theorem RearF.trans {f g h : Nat → Nat} {a b : Nat} (h1 : RearF f g a b) (h2 : RearF g h a b) : RearF f h a b := ⟨fun p hp => (h2.1 p hp).trans (h1.1 p hp), h2.2.trans h1.2⟩
theorem RearF.congr {f g g' : Nat → Nat} {a b : Nat} (h1 : RearF f g a b) (h2 : ∀ p, g' p = g p) : RearF f g' a b := by
 have : g' = g := funext h2
 rw [this]; exact h1
theorem RearF.widen {f f' : Nat → Nat} {a b a' b' : Nat} (h : RearF f f' a b) (h1 : a' ≤ a) (h2 : a ≤ b) (h3 : b ≤ b') : RearF f f' a' b' := by
 refine ⟨fun p hp => h.1 p (by omega), ?_⟩
 rw [segF_split f' a' a b' h1 (by omega), segF_split f' a b b' h2 h3, segF_split f a' a b' h1 (by omega), segF_split f a b b' h2 h3]
 rw [segF_congr f' f a' a (fun p _ hp => h.1 p (by omega)), segF_congr f' f b b' (fun p hp _ => h.1 p (by omega))]
 exact (List.Perm.refl _).append (h.2.append (List.Perm.refl _))
theorem RearF.mem {f f' : Nat → Nat} {a b : Nat} (h : RearF f f' a b) (p : Nat) (h1 : a ≤ p) (h2 : p < b) : ∃ q, a ≤ q ∧ q < b ∧ f' p = f q := by
 have : f' p ∈ segF f a b := h.2.mem_iff.1 ((mem_segF f' a b _).2 ⟨p, h1, h2, rfl⟩)
 obtain ⟨q, h3, h4, h5⟩ := (mem_segF f a b _).1 this
 exact ⟨q, h3, h4, h5.symm⟩
def rotF (f : Nat → Nat) (a m b p : Nat) : Nat := if a ≤ p ∧ p < a + (b - m) then f (p + m - a) else if a + (b - m) ≤ p ∧ p < b then f (p - (b - m)) else f p
theorem rotF_rear (f : Nat → Nat) (a m b : Nat) (h1 : a ≤ m) (h2 : m ≤ b) : RearF f (rotF f a m b) a b := by
 refine ⟨fun p hp => by unfold rotF; rw [if_neg (by omega), if_neg (by omega)], ?_⟩
 rw [segF_split (rotF f a m b) a (a + (b - m)) b (by omega) (by omega), segF_split f a m b h1 h2]
 rw [segF_shift (rotF f a m b) f a (a + (b - m)) m b (by omega) (fun i hi => by unfold rotF; rw [if_pos (by omega)]; congr 1; omega)]
 rw [segF_shift (rotF f a m b) f (a + (b - m)) b a m (by omega) (fun i hi => by unfold rotF; rw [if_neg (by omega), if_pos (by omega)]; congr 1; omega)]
 exact List.perm_append_comm
def swpF (f : Nat → Nat) (a b n p : Nat) : Nat := if a ≤ p ∧ p < a + n then f (p - a + b) else if b ≤ p ∧ p < b + n then f (p - b + a) else f p
theorem swpF_zero (f : Nat → Nat) (a b p : Nat) : swpF f a b 0 p = f p := by unfold swpF; rw [if_neg (by omega), if_neg (by omega)]
def sw2 (f : Nat → Nat) (i j p : Nat) : Nat := if p = j then f i else if p = i then f j else f p
theorem swpF_succ (f : Nat → Nat) (a b n p : Nat) (h : a + n < b) : sw2 (swpF f a b n) (a + n) (b + n) p = swpF f a b (n + 1) p := by
 unfold sw2 swpF
 repeat' split
 all_goals first
  | rfl
  | (congr 1; omega)
  | (exfalso; omega)
theorem rot_even (f : Nat → Nat) (m i p : Nat) (h : i ≤ m) : swpF f (m - i) m i p = rotF f (m - i) m (m + i) p := by
 unfold swpF rotF
 repeat' split
 all_goals first
  | rfl
  | (congr 1; omega)
  | (exfalso; omega)
theorem rot_left (f : Nat → Nat) (m i j p : Nat) (h : i ≤ m) (hj : j < i) : rotF (swpF f (m - i) m j) (m - (i - j)) m (m + j) p = rotF f (m - i) m (m + j) p := by
 unfold rotF swpF
 repeat' split
 all_goals first
  | rfl
  | (congr 1; omega)
  | (exfalso; omega)
theorem rot_right (f : Nat → Nat) (m i j p : Nat) (h : i ≤ m) (hj : i < j) : rotF (swpF f (m - i) (m + j - i) i) (m - i) m (m + (j - i)) p = rotF f (m - i) m (m + j) p := by
 unfold rotF swpF
 repeat' split
 all_goals first
  | rfl
  | (congr 1; omega)
  | (exfalso; omega)
theorem rot_up (f : Nat → Nat) (a k p : Nat) (h : a ≤ k) : sw2 (rotF f a (a + 1) (k + 1)) k (k + 1) p = rotF f a (a + 1) (k + 2) p := by
 unfold sw2 rotF
 repeat' split
 all_goals first
  | rfl
  | (congr 1; omega)
  | (exfalso; omega)
theorem rot_down (f : Nat → Nat) (m k p : Nat) (h : k ≤ m) (hk : 0 < k) : sw2 (rotF f k m (m + 1)) k (k - 1) p = rotF f (k - 1) m (m + 1) p := by
 unfold sw2 rotF
 repeat' split
 all_goals first
  | rfl
  | (congr 1; omega)
  | (exfalso; omega)
theorem rotF_id1 (f : Nat → Nat) (a b p : Nat) (h : a ≤ b) : rotF f a a b p = f p := by
 unfold rotF
 repeat' split
 all_goals first
  | rfl
  | (congr 1; omega)
  | (exfalso; omega)
theorem rotF_id2 (f : Nat → Nat) (a m p : Nat) : rotF f a m m p = f p := by
 unfold rotF
 repeat' split
 all_goals first
  | rfl
  | (congr 1; omega)
  | (exfalso; omega)
def SrtF (key : Nat → Nat) (f : Nat → Nat) (a b : Nat) : Prop := ∀ i j, a ≤ i → i < j → j < b → ltK key (f i) (f j)
theorem SrtF.list {key f : Nat → Nat} {a b : Nat} (h : SrtF key f a b) : SrtK key (segF f a b) := by
 rw [SrtK, List.pairwise_iff_getElem]
 intro i j hi hj hij
 rw [segF_at, segF_at]
 rw [segF_len] at hi hj
 exact h _ _ (by omega) (by omega) (by omega)
theorem SrtF.sub {key f : Nat → Nat} {a b c d : Nat} (h : SrtF key f a b) (h1 : a ≤ c) (h2 : d ≤ b) : SrtF key f c d := fun i j x y z => h i j (by omega) y (by omega)
theorem SrtF.congr {key f g : Nat → Nat} {a b : Nat} (h : SrtF key f a b) (he : ∀ p, a ≤ p → p < b → g p = f p) : SrtF key g a b := fun i j x y z => by rw [he i x (by omega), he j (by omega) z]; exact h i j x y z
def insF (g : Nat → Nat) (j i p : Nat) : Nat := rotF g j i (i + 1) p
theorem insF_srt (key g : Nat → Nat) (a j i : Nat) (hg : SrtF key g a i) (h1 : a ≤ j) (h2 : j ≤ i) (hlo : ∀ p, a ≤ p → p < j → ltK key (g p) (g i)) (hhi : ∀ p, j ≤ p → p < i → ltK key (g i) (g p)) : SrtF key (insF g j i) a (i + 1) := by
 have e1 : ∀ p, p < j → insF g j i p = g p := fun p hp => by unfold insF rotF; rw [if_neg (by omega), if_neg (by omega)]
 have e2 : insF g j i j = g i := by unfold insF rotF; rw [if_pos (by omega)]; congr 1; omega
 have e3 : ∀ p, j < p → p ≤ i → insF g j i p = g (p - 1) := fun p hp hq => by unfold insF rotF; rw [if_neg (by omega), if_pos (by omega)]; congr 1; omega
 intro p q hp hpq hq
 rcases Nat.lt_trichotomy p j with c | c | c
 · rw [e1 p c]
   rcases Nat.lt_trichotomy q j with d | d | d
   · rw [e1 q d]; exact hg p q hp hpq (by omega)
   · rw [d, e2]; exact hlo p hp c
   · rw [e3 q d (by omega)]; exact hg p (q - 1) hp (by omega) (by omega)
 · rw [c, e2, e3 q (by omega) (by omega)]; exact hhi _ (by omega) (by omega)
 · rw [e3 p c (by omega), e3 q (by omega) (by omega)]; exact hg _ _ (by omega) (by omega) (by omega)
def AheadF (f : Nat → Nat) (a m b : Nat) : Prop := ∀ p q, a ≤ p → p < m → m ≤ q → q < b → f p < f q
theorem ahead_lt {key f : Nat → Nat} {a m b : Nat} (h : AheadF f a m b) {p q : Nat} (h1 : a ≤ p) (h2 : p < m) (h3 : m ≤ q) (h4 : q < b) : (key (f q) < key (f p) ↔ ltK key (f q) (f p)) ∧ (¬ key (f q) < key (f p) ↔ ltK key (f p) (f q)) := by
 have := h p q h1 h2 h3 h4
 unfold ltK; omega
theorem merge_one (key f : Nat → Nat) (a b i : Nat) (hs : SrtF key f (a + 1) b) (h1 : a + 1 ≤ i) (h2 : i ≤ b) (hlo : ∀ p, a + 1 ≤ p → p < i → ltK key (f p) (f a)) (hhi : ∀ p, i ≤ p → p < b → ltK key (f a) (f p)) : SrtF key (rotF f a (a + 1) i) a b := by
 have e1 : ∀ p, a ≤ p → p < i - 1 → rotF f a (a + 1) i p = f (p + 1) := fun p hp hq => by unfold rotF; rw [if_pos (by omega)]; congr 1; omega
 have e2 : rotF f a (a + 1) i (i - 1) = f a := by unfold rotF; rw [if_neg (by omega), if_pos (by omega)]; congr 1; omega
 have e3 : ∀ p, i ≤ p → rotF f a (a + 1) i p = f p := fun p hp => by unfold rotF; rw [if_neg (by omega), if_neg (by omega)]
 intro p q hp hpq hq
 rcases Nat.lt_trichotomy p (i - 1) with c | c | c
 · rw [e1 p hp c]
   rcases Nat.lt_trichotomy q (i - 1) with d | d | d
   · rw [e1 q (by omega) d]; exact hs _ _ (by omega) (by omega) (by omega)
   · rw [d, e2]; exact hlo _ (by omega) (by omega)
   · rw [e3 q (by omega)]; exact hs _ _ (by omega) (by omega) (by omega)
 · rw [c, e2, e3 q (by omega)]; exact hhi _ (by omega) (by omega)
 · rw [e3 p (by omega), e3 q (by omega)]; exact hs _ _ (by omega) (by omega) (by omega)
theorem sym_join (key f g : Nat → Nat) (a mid b : Nat) (h1 : SrtF key g a mid) (h2 : SrtF key g mid b) (hr1 : ∀ p, a ≤ p → p < mid → ∃ q, a ≤ q ∧ q < mid ∧ g p = f q) (hr2 : ∀ p, mid ≤ p → p < b → ∃ q, mid ≤ q ∧ q < b ∧ g p = f q) (hx : ∀ p q, a ≤ p → p < mid → mid ≤ q → q < b → ltK key (f p) (f q)) : SrtF key g a b := by
 intro p q hp hpq hq
 by_cases c : q < mid
 · exact h1 p q hp hpq c
 · by_cases d : mid ≤ p
   · exact h2 p q d hpq hq
   · obtain ⟨p', a1, a2, a3⟩ := hr1 p hp (by omega)
     obtain ⟨q', b1, b2, b3⟩ := hr2 q (by omega) hq
     rw [a3, b3]; exact hx p' q' a1 a2 b1 b2
theorem rot_in1 (f : Nat → Nat) (s m e p : Nat) (h : p < s) : rotF f s m e p = f p := by unfold rotF; rw [if_neg (by omega), if_neg (by omega)]
theorem rot_in2 (f : Nat → Nat) (s m e p : Nat) (h : s ≤ p) (h2 : p < s + (e - m)) : rotF f s m e p = f (p + m - s) := by unfold rotF; rw [if_pos (by omega)]
theorem rot_in3 (f : Nat → Nat) (s m e p : Nat) (h : s + (e - m) ≤ p) (h2 : p < e) : rotF f s m e p = f (p - (e - m)) := by unfold rotF; rw [if_neg (by omega), if_pos (by omega)]
theorem rot_in4 (f : Nat → Nat) (s m e p : Nat) (h : e ≤ p) (hs : s ≤ m) (hm : m ≤ e) : rotF f s m e p = f p := by unfold rotF; rw [if_neg (by omega), if_neg (by omega)]
section
variable {key f : Nat → Nat} {a m b mid s e : Nat} (h1 : a ≤ s) (h2 : s ≤ m) (h3 : m ≤ e) (h4 : e ≤ b) (h5 : e + s = mid + m)
include h1 h2 h3 h4 h5
theorem sym_low (p : Nat) (ha : a ≤ p) (hp : p < mid) : (p < s ∧ rotF f s m e p = f p) ∨ (s ≤ p ∧ m ≤ p + m - s ∧ p + m - s < e ∧ rotF f s m e p = f (p + m - s)) := by
 by_cases c : p < s
 · exact .inl ⟨c, rot_in1 f s m e p c⟩
 · exact .inr ⟨by omega, by omega, by omega, rot_in2 f s m e p (by omega) (by omega)⟩
theorem sym_high (p : Nat) (ha : mid ≤ p) (hp : p < b) : (p < e ∧ s ≤ p - (e - m) ∧ p - (e - m) < m ∧ rotF f s m e p = f (p - (e - m))) ∨ (e ≤ p ∧ rotF f s m e p = f p) := by
 by_cases c : p < e
 · exact .inl ⟨c, by omega, by omega, rot_in3 f s m e p (by omega) c⟩
 · exact .inr ⟨by omega, rot_in4 f s m e p (by omega) h2 h3⟩
theorem sym_cross (hs1 : SrtF key f a m) (hs2 : SrtF key f m b) (hx1 : a < s → e < b → ltK key (f (s - 1)) (f e)) (hx2 : s < m → m < e → ltK key (f (e - 1)) (f s)) :
  ∀ p q, a ≤ p → p < mid → mid ≤ q → q < b → ltK key (rotF f s m e p) (rotF f s m e q) := by
 intro p q ha hp hq hb
 have le1 : ∀ x y, a ≤ x → x ≤ y → y < m → ∀ z, ltK key (f y) z → ltK key (f x) z := fun x y i j k z hz => by
  by_cases c : x = y
  · rw [c]; exact hz
  · exact ltK_trans (hs1 x y i (by omega) k) hz
 have le2 : ∀ x y, m ≤ x → x ≤ y → y < b → ∀ z, ltK key z (f x) → ltK key z (f y) := fun x y i j k z hz => by
  by_cases c : x = y
  · rw [← c]; exact hz
  · exact ltK_trans hz (hs2 x y i (by omega) k)
 have le3 : ∀ x y, m ≤ x → x ≤ y → y < b → ∀ z, ltK key (f y) z → ltK key (f x) z := fun x y i j k z hz => by
  by_cases c : x = y
  · rw [c]; exact hz
  · exact ltK_trans (hs2 x y i (by omega) k) hz
 have le4 : ∀ x y, a ≤ x → x ≤ y → y < m → ∀ z, ltK key z (f x) → ltK key z (f y) := fun x y i j k z hz => by
  by_cases c : x = y
  · rw [← c]; exact hz
  · exact ltK_trans hz (hs1 x y i (by omega) k)
 rcases sym_low (f := f) h1 h2 h3 h4 h5 p ha hp with ⟨c1, c2⟩ | ⟨c1, c2, c3, c4⟩
 · rcases sym_high (f := f) h1 h2 h3 h4 h5 q hq hb with ⟨d1, d2, d3, d4⟩ | ⟨d1, d2⟩
   · rw [c2, d4]; exact hs1 _ _ ha (by omega) d3
   · rw [c2, d2]
     exact le1 p (s - 1) ha (by omega) (by omega) _ (le2 e q h3 d1 hb _ (hx1 (by omega) (by omega)))
 · rcases sym_high (f := f) h1 h2 h3 h4 h5 q hq hb with ⟨d1, d2, d3, d4⟩ | ⟨d1, d2⟩
   · rw [c4, d4]
     exact le3 _ (e - 1) c2 (by omega) (by omega) _ (le4 s _ h1 d2 d3 _ (hx2 (by omega) (by omega)))
   · rw [c4, d2]; exact hs2 _ _ c2 (by omega) hb
theorem sym_srt1 (hs1 : SrtF key f a m) : SrtF key (rotF f s m e) a s := (hs1.sub (Nat.le_refl a) h2).congr fun p _ hp => rot_in1 f s m e p hp
theorem sym_srt2 (hs2 : SrtF key f m b) : SrtF key (rotF f s m e) s mid := fun i j x y z => by
 rw [rot_in2 f s m e i x (by omega), rot_in2 f s m e j (by omega) (by omega)]
 exact hs2 _ _ (by omega) (by omega) (by omega)
theorem sym_srt3 (hs1 : SrtF key f a m) : SrtF key (rotF f s m e) mid e := fun i j x y z => by
 rw [rot_in3 f s m e i (by omega) (by omega), rot_in3 f s m e j (by omega) (by omega)]
 exact hs1 _ _ (by omega) (by omega) (by omega)
theorem sym_srt4 (hs2 : SrtF key f m b) : SrtF key (rotF f s m e) e b := (hs2.sub h3 (Nat.le_refl b)).congr fun p hp _ => rot_in4 f s m e p hp h2 h3
theorem sym_ah1 (hA : AheadF f a m b) : AheadF (rotF f s m e) a s mid := fun p q x y z t => by
 rw [rot_in1 f s m e p y, rot_in2 f s m e q z (by omega)]
 exact hA _ _ x (by omega) (by omega) (by omega)
theorem sym_ah2 (hA : AheadF f a m b) : AheadF (rotF f s m e) mid e b := fun p q x y z t => by
 rw [rot_in3 f s m e p (by omega) y, rot_in4 f s m e q z h2 h3]
 exact hA _ _ (by omega) (by omega) (by omega) t
end
theorem search_in (key f : Nat → Nat) (a m b lo hi p c : Nat) (hs1 : SrtF key f a m) (hs2 : SrtF key f m b) (h1 : a ≤ lo) (h2 : hi ≤ m) (h3 : ∀ x, lo ≤ x → x < hi → m ≤ p - x ∧ p - x < b ∧ x ≤ p) (hc1 : lo ≤ c) (hc2 : c < hi) :
  (ltK key (f c) (f (p - c)) → ∀ x, lo ≤ x → x < c + 1 → ltK key (f x) (f (p - x))) ∧ (ltK key (f (p - c)) (f c) → ∀ x, c ≤ x → x < hi → ltK key (f (p - x)) (f x)) := by
 refine ⟨fun h x hx1 hx2 => ?_, fun h x hx1 hx2 => ?_⟩
 · by_cases e : x = c
   · rw [e]; exact h
   · have a1 := hs1 x c (by omega) (by omega) (by omega)
     have k1 := h3 x hx1 (by omega)
     have k2 := h3 c hc1 hc2
     have a2 := hs2 (p - c) (p - x) k2.1 (by omega) k1.2.1
     exact ltK_trans a1 (ltK_trans h a2)
 · by_cases e : x = c
   · rw [e]; exact h
   · have a1 := hs1 c x (by omega) (by omega) (by omega)
     have k1 := h3 x (by omega) hx2
     have k2 := h3 c hc1 hc2
     have a2 := hs2 (p - x) (p - c) k1.1 (by omega) k2.2.1
     exact ltK_trans a2 (ltK_trans h a1)
theorem blk_iff (c t i : Nat) (hc : 0 < c) : i / c = t ↔ c * t ≤ i ∧ i < c * t + c := by
 constructor
 · intro h
   subst h
   have h1 := Nat.div_add_mod i c
   have h2 := Nat.mod_lt i hc
   omega
 · rintro ⟨h1, h2⟩
   refine Nat.le_antisymm ?_ ?_
   · refine Nat.le_of_lt_succ ((Nat.div_lt_iff_lt_mul hc).2 ?_)
     rw [Nat.mul_comm, Nat.mul_succ]; omega
   · rw [Nat.le_div_iff_mul_le hc, Nat.mul_comm]; exact h1
structure BlkF (key f0 f : Nat → Nat) (c n lim : Nat) : Prop where
 rear : RearF f0 f 0 n
 loc : ∀ p, p < n → ∃ q, q < n ∧ q / c = p / c ∧ f p = f0 q
 srt : ∀ i j, i < j → j < n → j < lim → i / c = j / c → ltK key (f i) (f j)
theorem BlkF.start (key f0 : Nat → Nat) (c n : Nat) : BlkF key f0 f0 c n 0 := ⟨RearF.refl _ _ _, fun p h => ⟨p, h, rfl, rfl⟩, fun i j _ _ h _ => by omega⟩
theorem BlkF.double {key f0 f : Nat → Nat} {c n : Nat} (h : BlkF key f0 f c n n) : BlkF key f0 f (2 * c) n 0 :=
 ⟨h.rear, fun p hp => by
  obtain ⟨q, h1, h2, h3⟩ := h.loc p hp
  exact ⟨q, h1, by rw [Nat.mul_comm 2 c, ← Nat.div_div_eq_div_mul, ← Nat.div_div_eq_div_mul, h2], h3⟩, fun i j _ _ h _ => by omega⟩
theorem BlkF.step {key f0 g g' h : Nat → Nat} {c n t b : Nat} (hc : 0 < c) (hb : BlkF key f0 g c n (c * t)) (hh : ∀ p, c * t ≤ p → g p = h p) (hr : RearF g g' (c * t) b) (hs : SrtF key g' (c * t) b) (htb : c * t ≤ b) (hbn : b ≤ n) (hbc : b ≤ c * t + c) (hb2 : b = c * t + c ∨ b = n) :
  BlkF key f0 g' c n b ∧ ∀ p, b ≤ p → g' p = h p := by
 refine ⟨⟨hb.rear.trans (hr.widen (Nat.zero_le _) htb hbn), fun p hp => ?_, fun i j hij hj hl he => ?_⟩, fun p hp => ?_⟩
 · by_cases c1 : c * t ≤ p ∧ p < b
   · obtain ⟨q, h1, h2, h3⟩ := hr.mem p c1.1 c1.2
     obtain ⟨r, r1, r2, r3⟩ := hb.loc q (by omega)
     refine ⟨r, r1, ?_, by rw [h3, r3]⟩
     rw [r2, (blk_iff c t q hc).2 ⟨h1, by omega⟩, (blk_iff c t p hc).2 ⟨c1.1, by omega⟩]
   · rw [hr.1 p (by omega)]; exact hb.loc p hp
 · by_cases c1 : j < c * t
   · rw [hr.1 i (by omega), hr.1 j (by omega)]; exact hb.srt i j hij hj c1 he
   · have hjt : j / c = t := (blk_iff c t j hc).2 ⟨by omega, by omega⟩
     have hit := (blk_iff c t i hc).1 (he.trans hjt)
     exact hs i j hit.1 hij hl
 · rw [hr.1 p (by omega)]; exact hh p (by omega)
theorem BlkF.parts {key f0 f : Nat → Nat} {c n t b : Nat} (hc : 0 < c) (hb : BlkF key f0 f c n n) (hup : ∀ p q, p < q → q < n → f0 p < f0 q) (h1 : 2 * c * t + c ≤ b) (hbn : b ≤ n) (hbc : b ≤ 2 * c * t + 2 * c) :
  AheadF f (2 * c * t) (2 * c * t + c) b ∧ SrtF key f (2 * c * t) (2 * c * t + c) ∧ SrtF key f (2 * c * t + c) b := by
 have e1 : 2 * c * t = c * (2 * t) := by simp [Nat.mul_comm, Nat.mul_left_comm]
 have e2 : 2 * c * t + c = c * (2 * t + 1) := by rw [e1, Nat.mul_succ]
 refine ⟨fun p q a1 a2 a3 a4 => ?_, fun i j a1 a2 a3 => ?_, fun i j a1 a2 a3 => ?_⟩
 · obtain ⟨p', b1, b2, b3⟩ := hb.loc p (by omega)
   obtain ⟨q', d1, d2, d3⟩ := hb.loc q (by omega)
   have k1 : p / c = 2 * t := (blk_iff c (2 * t) p hc).2 ⟨by omega, by omega⟩
   have k2 : q / c = 2 * t + 1 := (blk_iff c (2 * t + 1) q hc).2 ⟨by omega, by omega⟩
   have m1 := (blk_iff c (2 * t) p' hc).1 (b2.trans k1)
   have m2 := (blk_iff c (2 * t + 1) q' hc).1 (d2.trans k2)
   rw [b3, d3]
   exact hup p' q' (by omega) d1
 · have k1 : i / c = 2 * t := (blk_iff c (2 * t) i hc).2 ⟨by omega, by omega⟩
   have k2 : j / c = 2 * t := (blk_iff c (2 * t) j hc).2 ⟨by omega, by omega⟩
   exact hb.srt i j a2 (by omega) (by omega) (k1.trans k2.symm)
 · have k1 : i / c = 2 * t + 1 := (blk_iff c (2 * t + 1) i hc).2 ⟨by omega, by omega⟩
   have k2 : j / c = 2 * t + 1 := (blk_iff c (2 * t + 1) j hc).2 ⟨by omega, by omega⟩
   exact hb.srt i j a2 (by omega) (by omega) (k1.trans k2.symm)
theorem BlkF.rest {key f0 f : Nat → Nat} {c n t : Nat} (hc : 0 < c) (hb : BlkF key f0 f c n n) (hn : n ≤ 2 * c * t + c) : SrtF key f (2 * c * t) n := fun i j a1 a2 a3 => by
 have e1 : 2 * c * t = c * (2 * t) := by simp [Nat.mul_comm, Nat.mul_left_comm]
 have k1 : i / c = 2 * t := (blk_iff c (2 * t) i hc).2 ⟨by omega, by omega⟩
 have k2 : j / c = 2 * t := (blk_iff c (2 * t) j hc).2 ⟨by omega, by omega⟩
 exact hb.srt i j a2 a3 a3 (k1.trans k2.symm)
theorem BlkF.whole {key f0 f : Nat → Nat} {c n : Nat} (hb : BlkF key f0 f c n n) (hn : n ≤ c) : SrtF key f 0 n := fun i j _ a2 a3 =>
 hb.srt i j a2 a3 a3 (by rw [Nat.div_eq_of_lt (by omega), Nat.div_eq_of_lt (by omega)])
theorem BlkF.okay {key f0 f : Nat → Nat} {c n lim : Nat} (hb : BlkF key f0 f c n lim) {ok : Nat → Prop} (hok : ∀ p, p < n → ok (f0 p)) : ∀ p, p < n → ok (f p) := fun p hp => by
 obtain ⟨q, h1, _, h3⟩ := hb.loc p hp
 rw [h3]; exact hok q h1
structure It where
 w : UInt64
 leaf : Bool
 syms : List Nat
instance : Inhabited It := ⟨⟨0, false, []⟩⟩
def pairsI : List It → List It
 | a :: b :: l => ⟨a.w + b.w, false, a.syms ++ b.syms⟩ :: pairsI l
 | _ => []
def mergeI : List It → List It → List It
 | [], ks => ks
 | l :: ls, [] => l :: ls
 | l :: ls, k :: ks => if l.w ≤ k.w then l :: mergeI ls (k :: ks) else k :: mergeI (l :: ls) ks
termination_by a b => a.length + b.length
theorem mergeI_nil (a : List It) : mergeI a [] = a := by cases a <;> simp [mergeI]
theorem nil_mergeI (a : List It) : mergeI [] a = a := by simp [mergeI]
theorem mergeI_len : ∀ a b : List It, (mergeI a b).length = a.length + b.length := by
 intro a b
 induction a, b using mergeI.induct with
 | case1 ks => simp [mergeI]
 | case2 l ls => simp [mergeI]
 | case3 l ls k ks h ih => rw [mergeI, if_pos h, List.length_cons, ih]; simp; omega
 | case4 l ls k ks h ih => rw [mergeI, if_neg h, List.length_cons, ih]; simp; omega
theorem pairsI_len : ∀ l : List It, (pairsI l).length = l.length / 2
 | [] => rfl
 | [_] => by simp [pairsI]
 | a :: b :: l => by rw [pairsI, List.length_cons, pairsI_len l]; simp only [List.length_cons]; omega
def rowI (lv : List It) : Nat → List It
 | 0 => lv
 | r + 1 => mergeI lv (pairsI (rowI lv r))
theorem rowI_len (lv : List It) (r : Nat) : (rowI lv r).length ≤ 2 * lv.length := by
 induction r with
 | zero => simp [rowI]; omega
 | succ r ih => rw [rowI, mergeI_len, pairsI_len]; omega
theorem rowI_long (lv : List It) : ∀ r, 2 * lv.length ≤ (rowI lv r).length + (lv.length + 2 ^ r - 1) / 2 ^ r := by
 intro r
 induction r with
 | zero => simp [rowI]; omega
 | succ r ih =>
  rw [rowI, mergeI_len, pairsI_len]
  have h : (lv.length + 2 ^ (r + 1) - 1) / 2 ^ (r + 1) = ((lv.length + 2 ^ r - 1) / 2 ^ r + 1) / 2 := by
   rw [Nat.pow_succ, ← Nat.div_div_eq_div_mul]
   have hp := Nat.two_pow_pos r
   have e : lv.length + 2 ^ r * 2 - 1 = (lv.length + 2 ^ r - 1) + 2 ^ r * 1 := by omega
   rw [e, Nat.add_mul_div_left _ _ hp]
  rw [h]; omega
theorem rowI_enough (lv : List It) (r : Nat) (h : lv.length ≤ 2 * 2 ^ r) : 2 * lv.length - 2 ≤ (rowI lv r).length := by
 have h1 := rowI_long lv r
 have hp := Nat.two_pow_pos r
 have h2 : (lv.length + 2 ^ r - 1) / 2 ^ r ≤ 2 := by
  refine Nat.le_of_lt_succ ((Nat.div_lt_iff_lt_mul hp).2 ?_)
  omega
 omega
def leavesN (l : List It) : Nat := (l.filter (·.leaf)).length
theorem leavesN_le (l : List It) : leavesN l ≤ l.length := List.length_filter_le _ _
theorem merge_take (ls : List It) (hl : ∀ x ∈ ls, x.leaf = true) (ks : List It) (hk : ∀ x ∈ ks, x.leaf = false) :
  ∀ t, t ≤ (mergeI ls ks).length → ∃ n m, n + m = t ∧ n ≤ ls.length ∧ m ≤ ks.length ∧ leavesN ((mergeI ls ks).take t) = n ∧
   ((mergeI ls ks).take t).filter (·.leaf) = ls.take n ∧ ((mergeI ls ks).take t).filter (fun x => !x.leaf) = ks.take m := by
 induction ls, ks using mergeI.induct with
 | case1 ks =>
  intro t ht
  rw [nil_mergeI] at *
  have e1 : (ks.take t).filter (·.leaf) = [] := List.filter_eq_nil_iff.2 fun x hx => by simp [hk x (List.mem_of_mem_take hx)]
  have e2 : (ks.take t).filter (fun x => !x.leaf) = ks.take t := List.filter_eq_self.2 fun x hx => by simp [hk x (List.mem_of_mem_take hx)]
  exact ⟨0, t, by omega, by simp, ht, by rw [leavesN, e1]; rfl, by rw [e1]; simp, e2⟩
 | case2 l ls =>
  intro t ht
  rw [mergeI_nil] at *
  have e1 : ((l :: ls).take t).filter (·.leaf) = (l :: ls).take t := List.filter_eq_self.2 fun x hx => hl x (List.mem_of_mem_take hx)
  have e2 : ((l :: ls).take t).filter (fun x => !x.leaf) = [] := List.filter_eq_nil_iff.2 fun x hx => by simp [hl x (List.mem_of_mem_take hx)]
  exact ⟨t, 0, by omega, ht, by simp, by rw [leavesN, e1, List.length_take]; omega, e1, by rw [e2]; simp⟩
 | case3 l ls k ks h ih =>
  intro t ht
  rw [mergeI, if_pos h] at *
  cases t with
  | zero => exact ⟨0, 0, rfl, by simp, by simp, by simp [leavesN], by simp, by simp⟩
  | succ t =>
   obtain ⟨n, m, h1, h2, h3, h4, h5, h6⟩ := ih (fun x hx => hl x (by simp [hx])) hk t (by simpa using ht)
   have e := hl l (by simp)
   refine ⟨n + 1, m, by omega, by simpa using h2, h3, ?_, ?_, ?_⟩
   · rw [leavesN, List.take_succ_cons, List.filter_cons_of_pos (by exact e), List.length_cons]; exact congrArg (· + 1) h4
   · rw [List.take_succ_cons, List.filter_cons_of_pos (by exact e), h5, List.take_succ_cons]
   · rw [List.take_succ_cons, List.filter_cons_of_neg (by simp [e]), h6]
 | case4 l ls k ks h ih =>
  intro t ht
  rw [mergeI, if_neg h] at *
  cases t with
  | zero => exact ⟨0, 0, rfl, by simp, by simp, by simp [leavesN], by simp, by simp⟩
  | succ t =>
   obtain ⟨n, m, h1, h2, h3, h4, h5, h6⟩ := ih hl (fun x hx => hk x (by simp [hx])) t (by simpa using ht)
   have e := hk k (by simp)
   refine ⟨n, m + 1, by omega, h2, by simpa using h3, ?_, ?_, ?_⟩
   · rw [leavesN, List.take_succ_cons, List.filter_cons_of_neg (by simp [e])]; exact h4
   · rw [List.take_succ_cons, List.filter_cons_of_neg (by simp [e]), h5]
   · rw [List.take_succ_cons, List.filter_cons_of_pos (by simp [e]), h6, List.take_succ_cons]
theorem pairsI_leaf : ∀ (l : List It), ∀ x ∈ pairsI l, x.leaf = false
 | [], x, h => by simp [pairsI] at h
 | [_], x, h => by simp [pairsI] at h
 | a :: b :: l, x, h => by
  rw [pairsI] at h
  rcases List.mem_cons.1 h with rfl | h
  · rfl
  · exact pairsI_leaf l x h
def symsI (l : List It) : List Nat := (l.map (·.syms)).flatten
theorem symsI_cons (x : It) (l : List It) : symsI (x :: l) = x.syms ++ symsI l := rfl
theorem symsI_app (l m : List It) : symsI (l ++ m) = symsI l ++ symsI m := by simp [symsI]
theorem pairsI_take : ∀ (l : List It) (m : Nat), m ≤ l.length / 2 → symsI ((pairsI l).take m) = symsI (l.take (2 * m))
 | [], m, h => by simp at h; subst h; rfl
 | [_], m, h => by simp at h; subst h; rfl
 | a :: b :: l, 0, h => by simp
 | a :: b :: l, m + 1, h => by
  rw [pairsI, List.take_succ_cons, symsI_cons, pairsI_take l m (by simp at h; omega), show 2 * (m + 1) = 2 * m + 2 by omega, List.take_succ_cons, List.take_succ_cons, symsI_cons, symsI_cons, List.append_assoc]
theorem count_parts (s : Nat) (l : List It) : (symsI l).count s = (symsI (l.filter (·.leaf))).count s + (symsI (l.filter (fun x => !x.leaf))).count s := by
 induction l with
 | nil => rfl
 | cons x l ih =>
  rw [symsI_cons, List.count_append, ih]
  by_cases h : x.leaf = true
  · rw [List.filter_cons_of_pos (p := fun x : It => x.leaf) h, List.filter_cons_of_neg (by simp [h]), symsI_cons, List.count_append]; omega
  · rw [List.filter_cons_of_neg (p := fun x : It => x.leaf) h, List.filter_cons_of_pos (by simp [h]), symsI_cons, List.count_append]; omega
def downI (lv : List It) : Nat → Nat → Nat → Nat
 | 0, t, s => (symsI (lv.take (leavesN ((rowI lv 0).take t)))).count s
 | r + 1, t, s => (symsI (lv.take (leavesN ((rowI lv (r + 1)).take t)))).count s + downI lv r (2 * (t - leavesN ((rowI lv (r + 1)).take t))) s
theorem down_eq (lv : List It) (hl : ∀ x ∈ lv, x.leaf = true) (s : Nat) : ∀ r t, t ≤ (rowI lv r).length → (symsI ((rowI lv r).take t)).count s = downI lv r t s := by
 intro r
 induction r with
 | zero =>
  intro t ht
  have e1 : (lv.take t).filter (·.leaf) = lv.take t := List.filter_eq_self.2 fun x hx => hl x (List.mem_of_mem_take hx)
  have ht' : t ≤ lv.length := ht
  show (symsI (lv.take t)).count s = (symsI (lv.take (leavesN (lv.take t)))).count s
  rw [leavesN, e1, List.length_take, Nat.min_eq_left ht']
 | succ r ih =>
  intro t ht
  obtain ⟨n, m, h1, h2, h3, h4, h5, h6⟩ := merge_take lv hl (pairsI (rowI lv r)) (pairsI_leaf _) t ht
  rw [pairsI_len] at h3
  show _ = (symsI (lv.take (leavesN ((mergeI lv (pairsI (rowI lv r))).take t)))).count s + downI lv r (2 * (t - leavesN ((mergeI lv (pairsI (rowI lv r))).take t))) s
  rw [h4, count_parts]
  show (symsI (((mergeI lv (pairsI (rowI lv r))).take t).filter (·.leaf))).count s + (symsI (((mergeI lv (pairsI (rowI lv r))).take t).filter (fun x => !x.leaf))).count s = _
  rw [h5, h6, pairsI_take _ _ h3, show t - n = m by omega, ih _ (by omega)]
theorem down_room (lv : List It) (hl : ∀ x ∈ lv, x.leaf = true) (r t : Nat) (ht : t ≤ (rowI lv (r + 1)).length) : leavesN ((rowI lv (r + 1)).take t) ≤ t ∧ leavesN ((rowI lv (r + 1)).take t) ≤ lv.length ∧ 2 * (t - leavesN ((rowI lv (r + 1)).take t)) ≤ (rowI lv r).length := by
 obtain ⟨n, m, h1, h2, h3, h4, h5, h6⟩ := merge_take lv hl (pairsI (rowI lv r)) (pairsI_leaf _) t ht
 rw [pairsI_len] at h3
 show leavesN ((mergeI lv (pairsI (rowI lv r))).take t) ≤ t ∧ leavesN ((mergeI lv (pairsI (rowI lv r))).take t) ≤ lv.length ∧ 2 * (t - leavesN ((mergeI lv (pairsI (rowI lv r))).take t)) ≤ _
 rw [h4]; omega
def dR (lv : List It) : Nat → Nat → Nat → Nat
 | 0, _, _ => 0
 | q + 1, t, s => (symsI (lv.take (leavesN ((rowI lv q).take t)))).count s + dR lv q (2 * (t - leavesN ((rowI lv q).take t))) s
theorem dR_down (lv : List It) (s : Nat) : ∀ r t, dR lv (r + 1) t s = downI lv r t s := by
 intro r
 induction r with
 | zero => intro t; rw [dR, dR, downI]; rfl
 | succ r ih => intro t; rw [dR, ih, downI]
theorem dR_all (lv : List It) (hl : ∀ x ∈ lv, x.leaf = true) (r t s : Nat) (h : t ≤ (rowI lv r).length) : dR lv (r + 1) t s = (symsI ((rowI lv r).take t)).count s := by
 rw [dR_down, ← down_eq lv hl s r t h]
theorem leavesN_snoc (l : List It) (k : Nat) (h : k < l.length) : leavesN (l.take (k + 1)) = leavesN (l.take k) + if l[k].leaf then 1 else 0 := by
 unfold leavesN
 rw [List.take_succ_eq_append_getElem h, List.filter_append, List.length_append]
 by_cases c : l[k].leaf = true
 · rw [List.filter_cons_of_pos (p := fun x : It => x.leaf) c, if_pos c]; rfl
 · rw [List.filter_cons_of_neg (p := fun x : It => x.leaf) c, if_neg c]; rfl
theorem symsI_snoc (l : List It) (k : Nat) (h : k < l.length) (s : Nat) (hs : l[k].syms = [s]) : symsI (l.take (k + 1)) = symsI (l.take k) ++ [s] := by
 rw [List.take_succ_eq_append_getElem h, symsI_app]
 show _ ++ (l[k].syms ++ []) = _
 rw [hs]; rfl
theorem leaves_room (lv : List It) (hl : ∀ x ∈ lv, x.leaf = true) (q t : Nat) (h : t ≤ (rowI lv q).length) : leavesN ((rowI lv q).take t) ≤ t ∧ leavesN ((rowI lv q).take t) ≤ lv.length ∧ (0 < q → 2 * (t - leavesN ((rowI lv q).take t)) ≤ (rowI lv (q - 1)).length) := by
 cases q with
 | zero =>
  have h1 := leavesN_le (lv.take t)
  rw [List.length_take] at h1
  refine ⟨?_, ?_, fun h => by omega⟩
  · show leavesN (lv.take t) ≤ t; omega
  · show leavesN (lv.take t) ≤ lv.length; omega
 | succ r =>
  obtain ⟨h1, h2, h3⟩ := down_room lv hl r t h
  exact ⟨h1, h2, fun _ => h3⟩
theorem leavesN_mono (l : List It) (j t : Nat) (h : j ≤ t) : leavesN (l.take j) ≤ leavesN (l.take t) := by
 unfold leavesN
 have : l.take j = (l.take t).take j := by rw [List.take_take, Nat.min_eq_left h]
 rw [this]
 exact List.Sublist.length_le ((List.take_sublist _ _).filter _)
theorem rowI_syms (lv : List It) (L : Nat) (hl : ∀ x ∈ lv, x.syms.length ≤ 1 ∧ ∀ s ∈ x.syms, s < L) : ∀ r, ∀ x ∈ rowI lv r, x.syms.length ≤ 2 ^ r ∧ ∀ s ∈ x.syms, s < L := by
 have mem_merge : ∀ a b : List It, ∀ x ∈ mergeI a b, x ∈ a ∨ x ∈ b := by
  intro a b
  induction a, b using mergeI.induct with
  | case1 ks => intro x h; rw [nil_mergeI] at h; exact .inr h
  | case2 l ls => intro x h; rw [mergeI_nil] at h; exact .inl h
  | case3 l ls k ks h ih =>
   intro x hx
   rw [mergeI, if_pos h] at hx
   rcases List.mem_cons.1 hx with rfl | hx
   · exact .inl (by simp)
   · exact (ih x hx).imp (fun h => by simp [h]) id
  | case4 l ls k ks h ih =>
   intro x hx
   rw [mergeI, if_neg h] at hx
   rcases List.mem_cons.1 hx with rfl | hx
   · exact .inr (by simp)
   · exact (ih x hx).imp id (fun h => by simp [h])
 have mem_pairs : ∀ (l : List It) (c : Nat), (∀ x ∈ l, x.syms.length ≤ c ∧ ∀ s ∈ x.syms, s < L) → ∀ x ∈ pairsI l, x.syms.length ≤ 2 * c ∧ ∀ s ∈ x.syms, s < L := by
  intro l c
  induction l using pairsI.induct with
  | case1 a b l ih =>
   intro h x hx
   rw [pairsI] at hx
   rcases List.mem_cons.1 hx with rfl | hx
   · have h1 := h a (by simp)
     have h2 := h b (by simp)
     refine ⟨by rw [List.length_append]; omega, fun s hs => ?_⟩
     rcases List.mem_append.1 hs with hs | hs
     · exact h1.2 s hs
     · exact h2.2 s hs
   · exact ih (fun x hx => h x (by simp [hx])) x hx
  | case2 l hl => intro _ x hx; unfold pairsI at hx; split at hx <;> simp_all
 intro r
 induction r with
 | zero => intro x hx; exact ⟨by have := (hl x hx).1; simpa using this, (hl x hx).2⟩
 | succ r ih =>
  intro x hx
  rcases mem_merge _ _ x hx with h | h
  · have h1 := hl x h
    exact ⟨Nat.le_trans h1.1 (Nat.one_le_two_pow), h1.2⟩
  · have h1 := mem_pairs _ _ ih x h
    exact ⟨by rw [Nat.pow_succ]; omega, h1.2⟩
def cutP (l : List UInt8) (at_ n : Nat) : List UInt8 := (List.range n).map fun i => l.getD (at_ + i) 0
theorem cutP_len (l : List UInt8) (a n : Nat) : (cutP l a n).length = n := by simp [cutP]
theorem cutP_snoc (l : List UInt8) (a n : Nat) : cutP l a (n + 1) = cutP l a n ++ [l.getD (a + n) 0] := by simp [cutP, List.range_succ]
def partsS (l : List UInt8) (c a k : Nat) : List (List UInt8) := (List.range k).map fun i => cutP l (a + i * c) c
theorem partsS_len (l : List UInt8) (c a k : Nat) : (partsS l c a k).length = k := by simp [partsS]
theorem partsS_snoc (l : List UInt8) (c a k : Nat) : partsS l c a (k + 1) = partsS l c a k ++ [cutP l (a + k * c) c] := by simp [partsS, List.range_succ]
theorem partsS_all (l : List UInt8) (c a k : Nat) : ∀ p ∈ partsS l c a k, p.length = c := by
 intro p hp
 simp only [partsS, List.mem_map] at hp
 obtain ⟨i, _, rfl⟩ := hp
 exact cutP_len _ _ _
def putsL (ls : List (List UInt8)) : List UInt8 := (ls.map putB).flatten
theorem putsL_snoc (ls : List (List UInt8)) (p : List UInt8) : putsL (ls ++ [p]) = putsL ls ++ putB p := by simp [putsL]
theorem putsL_app (a b : List (List UInt8)) : putsL (a ++ b) = putsL a ++ putsL b := by simp [putsL]
theorem putB_len (p : List UInt8) : (putB p).length = p.length + 4 := by simp [putB]
theorem putsL_len (ls : List (List UInt8)) (c : Nat) (h : ∀ p ∈ ls, p.length = c) : (putsL ls).length = ls.length * (c + 4) := by
 induction ls with
 | nil => simp [putsL]
 | cons p ls ih =>
  have : putsL (p :: ls) = putB p ++ putsL ls := by simp [putsL]
  rw [this, List.length_append, putB_len, ih (fun q hq => h q (List.mem_cons_of_mem _ hq)), h p (List.mem_cons_self ..), List.length_cons, Nat.add_mul]
  omega
def padL (l : List UInt8) (n : Nat) : List UInt8 := l ++ (List.replicate n 0).drop l.length
theorem padL_len (l : List UInt8) (n : Nat) (h : l.length ≤ n) : (padL l n).length = n := by simp [padL]; omega
theorem padL_at (l : List UInt8) (n i : Nat) : (padL l n).getD i 0 = l.getD i 0 := by
 unfold padL
 rw [List.getD_eq_getElem?_getD, List.getD_eq_getElem?_getD]
 by_cases h : i < l.length
 · rw [List.getElem?_append_left h]
 · rw [List.getElem?_append_right (by omega), List.getElem?_eq_none (l := l) (by omega), List.getElem?_drop, List.getElem?_replicate]
   split <;> rfl
theorem part_eq (l : List UInt8) (n A d j c : Nat) (hl : l.length ≤ n) (hA : A + d ≤ n) (hj : j + c ≤ d) : ((((padL l n).drop A).take d).drop j).take c = cutP l (A + j) c := by
 have hp := padL_len l n hl
 apply List.ext_getElem
 · rw [cutP_len, List.length_take, List.length_drop, List.length_take, List.length_drop, hp]; omega
 · intro i h1 h2
   rw [cutP_len] at h2
   have e := padL_at l n (A + j + i)
   rw [getD_at _ _ _ (by rw [hp]; omega)] at e
   simp only [cutP, List.getElem_take, List.getElem_drop, List.getElem_map, List.getElem_range]
   rw [← e]
   congr 1
   omega
end Go.Fk
