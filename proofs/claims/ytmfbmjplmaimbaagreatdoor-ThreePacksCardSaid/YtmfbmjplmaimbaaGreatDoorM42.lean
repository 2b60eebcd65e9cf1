/- Parts of the proof of ThreePacks: D1 D2 D3 D4 D5. -/
import Derived.Test.YtmfbmjplmaimbaaGreatDoorM25
import Derived.Test.YtmfbmjplmaimbaaGreatDoorM39
import Derived.Test.YtmfbmjplmaimbaaGreatDoorM16
import Derived.Test.YtmfbmjplmaimbaaGreatDoorM40
import Derived.Test.YtmfbmjplmaimbaaGreatDoorM41
set_option linter.unusedVariables false
set_option linter.unusedSectionVars false
set_option linter.unusedSimpArgs false
set_option maxHeartbeats 8000000
namespace Go.Proofs.YtmfbmjplmaimbaaGreatDoor
open Go.RowKit Go.Fk
structure SmallL (l : List Rec) : Prop where
 len : l.length ≤ 60
 wt : wtS wt1 l ≤ 4000
theorem wtS_mem {α : Type} (f : α → Nat) : ∀ (l : List α) (x : α), x ∈ l → f x ≤ wtS f l
 | [], x, h => by cases h
 | y :: l, x, h => by
  simp only [wtS, List.map_cons, List.sum_cons]
  rcases List.mem_cons.1 h with rfl | h
  · omega
  · have := wtS_mem f l x h
    unfold wtS at this
    omega
theorem SmallL.each {l : List Rec} (h : SmallL l) : ∀ r ∈ l, r.source.length + r.text.length ≤ 3984 := fun r hr => by
 have h1 := wtS_mem wt1 l r hr
 have h2 := h.wt
 unfold wt1 at h1 h2
 omega
theorem SmallL.ok {l : List Rec} (h : SmallL l) : okLog l = true := by
 unfold okLog
 rw [decide_eq_true (by have := h.len; omega), decide_eq_true (by have := h.wt; omega)]
 simp only [Bool.and_true, Bool.true_and]
 rw [List.all_eq_true]
 intro r hr
 have := h.each r hr
 unfold longR
 rw [decide_eq_false (by omega), decide_eq_false (by omega)]
 rfl
theorem wtS_split {α : Type} (f g : α → Nat) (l : List α) (c : Nat) (h : ∀ x ∈ l, f x = c + g x) : wtS f l = l.length * c + wtS g l := by
 induction l with
 | nil => simp [wtS]
 | cons x l ih =>
  have i1 := ih (fun y hy => h y (by simp [hy]))
  have i2 := h x (by simp)
  simp only [wtS, List.map_cons, List.sum_cons, List.length_cons] at *
  rw [i1, i2, Nat.add_mul]; omega
theorem SmallL.texts {l : List Rec} (h : SmallL l) : wtS (fun r : TS => r.text.length + r.source.length) (l.map Rec.ts) ≤ 4000 - 16 * l.length := by
 have e : wtS (fun r : TS => r.text.length + r.source.length) (l.map Rec.ts) = wtS (fun r : Rec => r.text.length + r.source.length) l := by
  unfold wtS; rw [List.map_map]; rfl
 have h1 := wtS_split wt1 (fun r : Rec => r.text.length + r.source.length) l 16 (fun r _ => by unfold wt1; omega)
 have := h.wt
 rw [e]; omega
theorem small_prod : ∀ x, x < 61 → (4000 - 16 * x) * (2 * x + 10) ≤ 400000 := by decide
theorem SmallL.idx {l : List Rec} (h : SmallL l) : IdxOk l.length (idxT (l.map Rec.ts)) (idxL (l.map Rec.ts)) := by
 have hL : (l.map Rec.ts).length = l.length := List.length_map _
 have hr : ∀ q ∈ idxL (l.map Rec.ts), risesGo l.length 0 q = true := fun q hq => by
  obtain ⟨t, _, rfl⟩ := List.mem_map.1 hq
  have := ids_rises (l.map Rec.ts) t
  rwa [hL] at this
 have hT := idxT_len (l.map Rec.ts)
 have hx := h.texts
 have hl := h.len
 refine ⟨⟨idxT_ris _, idxT_each _, by omega⟩, by omega, by simp [idxL], fun q hq => ?_, hr, by omega, ?_⟩
 · obtain ⟨t, ht, rfl⟩ := List.mem_map.1 hq
   exact ids_ne _ t ht
 · unfold postRest
   rw [flat_len]
   refine Nat.le_trans (wtS_le _ (2 * l.length + 10) _ fun q hq => ?_) ?_
   · exact efL_len _ q (by omega) (hr q hq)
   · have e : (idxL (l.map Rec.ts)).length = (idxT (l.map Rec.ts)).length := by simp [idxL]
     rw [e]
     refine Nat.le_trans (Nat.mul_le_mul_right _ (Nat.le_trans hT hx)) (small_prod l.length (by omega))
theorem oneB_small (r : Rec) (h : r.source.length + r.text.length ≤ 3984) : (oneB false r).length ≤ r.source.length + r.text.length + 20 := by
 have h1 := numB_le r.source.length (by omega)
 have h2 := numB_le r.text.length (by omega)
 unfold oneB textB
 simp only [Bool.false_eq_true, if_false, List.nil_append, List.length_append]
 omega
theorem wtS_sub {α : Type} (f : α → Nat) {g l : List α} (h : g.Sublist l) : wtS f g ≤ wtS f l := by
 induction h with
 | slnil => exact Nat.le_refl _
 | cons a _ ih => simp only [wtS, List.map_cons, List.sum_cons] at *; omega
 | cons_cons a _ ih => simp only [wtS, List.map_cons, List.sum_cons] at *; omega
theorem SmallL.bytes {l : List Rec} (h : SmallL l) (g : List Rec) (hg : g.Sublist l) : (bytesB false g).length ≤ 6000 := by
 have h1 : (bytesB false g).length ≤ (bytesB false l).length := by
  unfold bytesB
  rw [flat_len, flat_len]
  exact wtS_sub _ hg
 have h2 : (bytesB false l).length ≤ wtS (fun r => wt1 r + 4) l := by
  unfold bytesB
  rw [flat_len]
  refine wtS_mono _ _ l fun r hr => ?_
  have := oneB_small r (h.each r hr)
  unfold wt1; omega
 have h3 := wtS_split (fun r => wt1 r + 4) wt1 l 4 (fun r _ => by omega)
 have := h.wt
 have := h.len
 omega
def frmL (p : Bool) (l : List Rec) (cs : List Nat) (k : Nat) : List UInt8 := blockB p (bytesB false ((l.take (cs.take (k + 1)).sum).drop (cs.take k).sum))
def frTo (fr : Nat → List UInt8) (k : Nat) : List (List UInt8) := (List.range k).map fr
theorem frTo_succ (fr : Nat → List UInt8) (k : Nat) : frTo fr (k + 1) = frTo fr k ++ [fr k] := by unfold frTo; rw [List.range_succ, List.map_append]; rfl
def prTo (cs : List Nat) (fr : Nat → List UInt8) (k : Nat) : List UInt8 := ((List.range k).map fun i => numB (cs.getD i 0) ++ numB (fr i).length).flatten
theorem prTo_succ (cs : List Nat) (fr : Nat → List UInt8) (k : Nat) (h : k < cs.length) : prTo cs fr (k + 1) = prTo cs fr k ++ numB cs[k] ++ numB (fr k).length := by
 unfold prTo
 rw [List.range_succ, List.map_append, List.flatten_append]
 simp [h]
def dirL (cs : List Nat) (fr : Nat → List UInt8) (a b : Nat) : List UInt8 := (((numB cs.sum ++ numB cs.length) ++ prTo cs fr cs.length) ++ numB a) ++ numB b
def joinL (cs : List Nat) (fr : Nat → List UInt8) (col idx : List UInt8) : List UInt8 :=
 (frTo fr cs.length).flatten ++ col ++ idx ++ putB (dirL cs fr col.length idx.length) ++ fixB 4 (putB (dirL cs fr col.length idx.length)).length
def bodyL (sz bu : Nat) (p : Bool) (l : List Rec) : List UInt8 :=
 joinL (groupsL sz (lenR false) l) (frmL p l (groupsL sz (lenR false) l)) (putB (columnsL l)) (putB (postB bu l.length (idxT (l.map Rec.ts)) (idxL (l.map Rec.ts))))
theorem putB_len (l : List UInt8) : (putB l).length = l.length + 4 := by simp [putB]
theorem columnsL_len (l : List Rec) (h : l.length ≤ 60) : (columnsL l).length ≤ 1300 := by
 have h1 := timesGo_len (l.map fun r => r.time.toNat) 0
 have h2 := levelsL_len (l.map (·.level)) (by simp; omega)
 unfold columnsL
 rw [List.length_append]
 simp only [List.length_map] at h1 h2
 omega
theorem groups_sum_le (cs : List Nat) (k : Nat) : (cs.take k).sum ≤ cs.sum := by
 conv => rhs; rw [← List.take_append_drop k cs]
 rw [List.sum_append]; omega
theorem groups_len {α : Type} (S : Nat) (f : α → Nat) (l : List α) : (groupsL S f l).length ≤ l.length := by
 have h1 := groupsL_sum S f l
 have h2 : ∀ x ∈ groupsL S f l, 1 ≤ x := by
  cases l with
  | nil => intro x hx; cases hx
  | cons r l => exact grpGo_pos S f l 1 (f r) (Nat.le_refl _)
 have key : ∀ m : List Nat, (∀ x ∈ m, 1 ≤ x) → m.length ≤ m.sum := by
  intro m
  induction m with
  | nil => intro _; simp
  | cons x m ih =>
   intro h
   have i1 := ih (fun y hy => h y (by simp [hy]))
   have i2 := h x (by simp)
   simp only [List.length_cons, List.sum_cons]; omega
 have := key _ h2
 omega
theorem SmallL.frm {l : List Rec} (h : SmallL l) (p : Bool) (cs : List Nat) (k : Nat) : (bytesB false ((l.take (cs.take (k + 1)).sum).drop (cs.take k).sum)).length ≤ 6000 ∧ (frmL p l cs k).length ≤ 6025 := by
 have h1 := h.bytes ((l.take (cs.take (k + 1)).sum).drop (cs.take k).sum) ((List.drop_sublist _ _).trans (List.take_sublist _ _))
 refine ⟨h1, ?_⟩
 have := blockB_len p _ (Nat.lt_of_le_of_lt h1 (by omega))
 unfold frmL; omega
theorem frTo_len (fr : Nat → List UInt8) (b : Nat) (h : ∀ k, (fr k).length ≤ b) (k : Nat) : (frTo fr k).flatten.length ≤ k * b := by
 unfold frTo
 rw [flat_len]
 refine Nat.le_trans (wtS_le _ b _ fun i _ => h i) ?_
 rw [List.length_range]; exact Nat.le_refl _
theorem prTo_len (cs : List Nat) (fr : Nat → List UInt8) (b : Nat) (hb : b < 1000000) (h : ∀ k, (fr k).length ≤ b) (hc : ∀ x ∈ cs, x < 1000000) (k : Nat) : (prTo cs fr k).length ≤ k * 20 := by
 unfold prTo
 rw [flat_len]
 refine Nat.le_trans (wtS_le _ 20 _ fun i _ => ?_) ?_
 · have h1 := numB_le (fr i).length (by have := h i; omega)
   have h2 : cs.getD i 0 < 1000000 := by
    by_cases hi : i < cs.length
    · simp only [List.getD_eq_getElem?_getD, List.getElem?_eq_getElem hi]
      exact hc _ (List.getElem_mem hi)
    · simp [List.getD_eq_getElem?_getD, List.getElem?_eq_none (by omega : cs.length ≤ i)]
   have h3 := numB_le (cs.getD i 0) (by omega)
   show (numB (cs.getD i 0) ++ numB (fr i).length).length ≤ 20
   rw [List.length_append]; omega
 · rw [List.length_range]; exact Nat.le_refl _
theorem bcheck_any (o : Opt) (w : World) : Calls Tryz.prog 24 #[optV o] w fun e w' => e = .returned (.int .i64 (if opt2 o then 0 else 9)) ∧ Fr w w' := by
 have HC := hid (fun W => OCheck2_any ⟨o.b, o.plain, o.bu, 0, 0, 0⟩ ⟨rfl, rfl, rfl⟩ W)
 have HE : Hid ((if opt2 ⟨o.b, o.plain, o.bu, 0, 0, 0⟩ then (0 : Int) else 9) = if opt2 o then 0 else 9) := rfl
 rw [HE.out] at HC
 generalize (if opt2 o then (0 : Int) else 9) = R at *
 go_enter Tryz.func24, Tryz.ntmps24
 go_wp2_with fail
 refine (HC.out _).mono ?_
 rintro e w1 ⟨rfl, hf1⟩
 go_wp2_with fail
 go_ret
 exact ⟨rfl, ((Fr.refl w).alloc _).trans hf1⟩
theorem rbcheck_any (o : Opt) (w : World) : Calls Tryz.prog 43 #[optV o] w fun e w' => e = .returned (.int .i64 (if opt2 o then 0 else 9)) ∧ Fr w w' := by
 have HC := hid (fun W => ROCheck2_any ⟨o.b, o.plain, o.bu, 0, 0, 0⟩ ⟨rfl, rfl, rfl⟩ W)
 have HE : Hid ((if opt2 ⟨o.b, o.plain, o.bu, 0, 0, 0⟩ then (0 : Int) else 9) = if opt2 o then 0 else 9) := rfl
 rw [HE.out] at HC
 generalize (if opt2 o then (0 : Int) else 9) = R at *
 go_enter Tryz.func43, Tryz.ntmps43
 go_wp2_with fail
 refine (HC.out _).mono ?_
 rintro e w1 ⟨rfl, hf1⟩
 go_wp2_with fail
 go_ret
 exact ⟨rfl, ((Fr.refl w).alloc _).trans hf1⟩
theorem numAt {w : World} {v : Value} {l : List Nat} (h : See w eJ v l) (k : Nat) (hk : k < l.length) : ∃ b off cap, v = .slice (some ⟨b, off, none⟩) l.length cap ∧ w.cell? ⟨b, off + k, none⟩ = some (N l[k]) := h.cell1 N rfl k hk
theorem sum_snoc (l : List Nat) (k : Nat) (h : k < l.length) : (l.take (k + 1)).sum = (l.take k).sum + l[k] := by
 rw [List.take_succ_eq_append_getElem h, List.sum_append]; simp
theorem bsum_any (v : Value) (l : List Nat) (w : World) (hs : See w eJ v l) (hl : l.length ≤ 1000000) (hb : l.sum ≤ 1000000000) :
  Calls Tryz.prog 68 #[v] w fun e w' => e = .returned (N l.sum) ∧ w = w' := by
 have HS := hid (fun k hk => numAt hs k hk)
 have HTk := hid (groups_sum_le l)
 have HSn := hid (sum_snoc l)
 have HAl : Hid ((l.take l.length).sum = l.sum) := by show _ = _; rw [List.take_length]
 obtain ⟨a0, cap, hv, hcap1, hcap2, hnone⟩ := hs.shape
 subst hv
 unfold maxLen at hcap2
 generalize l.sum = T at *
 go_enter Tryz.func68, Tryz.ntmps68
 go_wp2_with fail
 go_loopw [3, 8] (fun sv iv wr => ∃ k : Nat, k ≤ l.length ∧ iv = N k ∧ sv = N (l.take k).sum ∧ w = wr) (fun _ iv _ => l.length - (intOf iv).toNat)
 case atStart => exact ⟨0, Nat.zero_le _, rfl, by simp, rfl⟩
 case round =>
  obtain ⟨k, hk, rfl, rfl, rfl⟩ := hrel
  have h1 := HTk.out k
  by_cases hlt : k < l.length
  · obtain ⟨b, off, cap', hv, c0⟩ := HS.out k hlt
    cases hv
    have HN := hid (HSn.out k hlt)
    have h2 := HTk.out (k + 1)
    generalize hm2 : (l.take (k + 1)).sum = m2 at *
    have HM2 := hid hm2
    clear hm2
    generalize (l.take k).sum = m at *
    generalize l[k] = x at *
    have h3 : m2 = m + x := HN.out
    have i1 : (0 : Int) ≤ k := by omega
    have i2 : (k : Int) < l.length := by omega
    have HH := hid h3
    clear h3
    have hw : IntKind.i64.wrap ((m : Int) + x) = (m : Int) + x := IntWalk.i64_in _ (by have := HH.out; omega)
    go_wp2_with fail
    exact ⟨⟨k + 1, by omega, by go_num, by rw [HM2.out, HH.out]; go_num, by first | rfl | trivial⟩, by simp [intOf]; omega⟩
  · obtain rfl : k = l.length := by omega
    have hnl : ¬ (l.length : Int) < l.length := by omega
    rw [HAl.out]
    go_wp2_with fail
    go_ret
    exact ⟨rfl, rfl⟩
def szL (fr : Nat → List UInt8) (k : Nat) : List Nat := (List.range k).map fun i => (fr i).length
set_option maxRecDepth 100000
theorem dbytes_any (g : Nat) (cv sv : Value) (cs : List Nat) (fr : Nat → List UInt8) (a b : Nat) (w : World) (hg : w.heap[g]? = some (.cells #[cv, sv, N a, N b] 57 (0, 0))) (hc : See w eJ cv cs) (hs : See w eJ sv (szL fr cs.length))
  (hl : cs.length ≤ 60) (hsum : cs.sum ≤ 60) (hfr : ∀ k, (fr k).length ≤ 6025) (ha : a ≤ 1000000) (hb : b ≤ 1000000) :
  Calls Tryz.prog 33 #[.pointer (some ⟨g, 0, none⟩)] w fun e w' => ∃ u, e = .returned u ∧ Ow w' w.heap.size eB u (dirL cs fr a b) ∧ Fr w w' := by
 have HNm := hid (fun n (h : n < 18446744073709551616) W => Num_any n h W)
 have HSu := hid (fun W (h : See W eJ cv cs) => bsum_any cv cs W h (by omega) (by omega))
 have hcx : ∀ x ∈ cs, x ≤ 60 := fun x hx => by
  obtain ⟨i, hi, rfl⟩ := List.mem_iff_getElem.1 hx
  have h1 := groups_sum_le cs (i + 1)
  rw [sum_snoc cs i hi] at h1
  omega
 have HCx := hid hcx
 have HPl := hid (fun k => prTo_len cs fr 6025 (by omega) hfr (fun x hx => by have := hcx x hx; omega) k)
 have HSn := hid (fun k h => prTo_succ cs fr k h)
 have HD : Hid (dirL cs fr a b = (((numB cs.sum ++ numB cs.length) ++ prTo cs fr cs.length) ++ numB a) ++ numB b) := rfl
 have HP0 : Hid (prTo cs fr 0 = []) := rfl
 have HFr := hid hfr
 have HSz : Hid (∀ k (h : k < cs.length) (h2 : k < (szL fr cs.length).length), (szL fr cs.length)[k] = (fr k).length) := fun k h h2 => by simp [szL]
 have hszl : (szL fr cs.length).length = cs.length := by simp [szL]
 have HC := hid (fun W (h : Fr w W) k hk => numAt (hc.fr h) k hk)
 have HS := hid (fun W (h : Fr w W) k hk => numAt (hs.fr h) k hk)
 have HCs := hid (fun W (h : Fr w W) => hc.fr h)
 have HSl := hid hszl
 obtain ⟨ca, cc, hcv, _⟩ := hc.shape
 subst hcv
 obtain ⟨sa, sc, hsv, _⟩ := hs.shape
 rw [hszl] at hsv
 subst hsv
 have HG := hid (fun W (h : Fr w W) => h.heap hg)
 clear hc hs hcx hfr hszl
 generalize hT : dirL cs fr a b = T at *
 clear hT
 have x0 : w.cell? ⟨g, 0, none⟩ = some (.slice ca cs.length cc) := by rw [cell_of_heap hg]; rfl
 have hn1 := numB_le cs.sum (by omega)
 have hn2 := numB_le cs.length (by omega)
 have HN1 := hid (HNm.out cs.sum (by omega))
 have HN2 := hid (HNm.out cs.length (by omega))
 have hA1 := fun W va vb sa sb => all2_any va vb (numB cs.sum) (numB cs.length) W sa sb (by omega)
 have HA1 := hid hA1
 have HA0 : Hid (∀ m, m = (numB cs.sum ++ numB cs.length) → m.length ≤ 20) := fun m h => by rw [h, List.length_append]; omega
 clear hA1
 generalize cs.sum = S0 at *
 have hw1 : IntKind.u64.wrap (S0 : Int) = (S0 : Int) := IntWalk.u64_in _ (by omega)
 have hw2 : IntKind.u64.wrap (cs.length : Int) = (cs.length : Int) := IntWalk.u64_in _ (by omega)
 go_enter Tryz.func33, Tryz.ntmps33
 go_upto_region 1 with fail
 go_region_held3 (fun w' => w'.cell? ⟨g, 0, none⟩ = some (.slice ca cs.length cc))
  (first | go_keep)
  ((first
   | (go_at_call 68; refine (HSu.out _ (HCs.out _ (Fr.refl w).drew)).mono ?_; rintro e w1 ⟨rfl, rfl⟩)
   | (go_at_call_of 58 (Value.int IntKind.u64 (S0 : Int)); refine (HN1.out _).mono ?_; rintro e w2 ⟨v2, rfl, hO2, hf2⟩; obtain ⟨p2, z2, hq2⟩ := hO2.shape'; subst hq2; have y0 := hf2.cell x0)
   | (go_at_call_of 58 (Value.int IntKind.u64 (cs.length : Int)); refine (HN2.out _).mono ?_; rintro e w3 ⟨v3, rfl, hO3, hf3⟩; obtain ⟨p3, z3, hq3⟩ := hO3.shape'; subst hq3; have z0 := hf3.cell y0)
   | (go_at_call 35; refine (HA1.out _ _ _ (hO2.fr hf3).see hO3.see).mono ?_; rintro e w4 ⟨v4, rfl, hO4, hf4⟩; have u0 := hf4.cell z0)))
 have hf04 : Fr w w4 := (Fr.refl w).drew.trans (hf2.trans (hf3.trans hf4))
 obtain ⟨m0, hm0⟩ : ∃ m0, m0 = numB S0 ++ numB cs.length := ⟨_, rfl⟩
 have hml := HA0.out m0 hm0
 rw [← hm0] at hO4 HD
 have hO4' : Ow w4 w.heap.size eB v4 m0 := by exact hO4.rebase (by have := ((Fr.refl w).drew.trans (hf2.trans hf3)).size; exact this)
 clear hm0 HA0 HA1 HN1 HN2 HSu hO2 hO3 hO4 hf2 hf3 hf4 x0 y0 z0 hn1 hn2 hw1
 have c4 : w4.cell? ⟨g, 0, none⟩ = some (.slice ca cs.length cc) := u0
 clear u0
 obtain ⟨p4, z4, hq4⟩ := hO4'.shape'
 subst hq4
 go_wp2_with fail
 go_loopw [3, 27] (fun ov iv wr => ∃ k : Nat, k ≤ cs.length ∧ iv = N k ∧ Ow wr w.heap.size eB ov (m0 ++ prTo cs fr k) ∧ Fr w wr) (fun _ iv _ => cs.length - (intOf iv).toNat)
 case atStart => exact ⟨0, Nat.zero_le _, rfl, by rw [HP0.out, List.append_nil]; exact hO4', hf04⟩
 case round =>
  clear hO4' hf04 c4
  obtain ⟨k, hk, rfl, hO, hf⟩ := hrel
  have hgr := HG.out wr hf
  have hpl := HPl.out k
  by_cases hlt : k < cs.length
  · have x1 : wr.cell? ⟨g, 1, none⟩ = some (.slice sa cs.length sc) := by rw [cell_of_heap hgr]; rfl
    obtain ⟨b1, off1, cap1, hv1, d1⟩ := HC.out wr hf k hlt
    cases hv1
    obtain ⟨b2, off2, cap2, hv2, d2⟩ := HS.out wr hf k (by rw [HSl.out]; exact hlt)
    rw [HSl.out] at hv2
    cases hv2
    rw [HSz.out k hlt] at d2
    have hxk := HCx.out _ (List.getElem_mem hlt)
    have hfk := HFr.out k
    have HN := hid (HSn.out k hlt)
    have hpl2 := HPl.out (k + 1)
    generalize hm2 : prTo cs fr (k + 1) = q2 at *
    have HM2 := hid hm2
    clear hm2
    generalize prTo cs fr k = q at *
    generalize cs[k] = x at *
    generalize (fr k).length = y at *
    have HN1 := hid (HNm.out x (by omega))
    have HN2 := hid (HNm.out y (by omega))
    have hn1 := numB_le x (by omega)
    have hn2 := numB_le y (by omega)
    have hkl : k * 20 ≤ 60 * 20 := Nat.mul_le_mul_right _ (by omega)
    obtain ⟨om, hom⟩ : ∃ om, om = m0 ++ q := ⟨_, rfl⟩
    rw [← hom] at hO
    have hol : om.length ≤ 1300 := by rw [hom, List.length_append]; omega
    have HOm := hid hom
    have HA1 := hid (fun W va vb vc sa sb sc => all3_any va vb vc om (numB x) (numB y) W sa sb sc (by omega))
    clear hom hpl hpl2 hkl
    have hw1 : IntKind.u64.wrap (x : Int) = (x : Int) := IntWalk.u64_in _ (by omega)
    have hw3 : IntKind.u64.wrap (y : Int) = (y : Int) := IntWalk.u64_in _ (by omega)
    have i1 : (0 : Int) ≤ k := by omega
    have i2 : (k : Int) < cs.length := by omega
    obtain ⟨oa, oc, hov⟩ := hO.shape'
    subst hov
    go_upto_region 5 with fail
    go_region_held3 (fun w' => w'.cell? ⟨g, 1, none⟩ = some (.slice (some ⟨b2, off2, none⟩) cs.length sc) ∧ w'.cell? ⟨b2, off2 + k, none⟩ = some (N y))
     (first | go_keep)
     ((first
      | (go_at_call_of 58 (Value.int IntKind.u64 (x : Int)); refine (HN1.out _).mono ?_; rintro e w2 ⟨v2, rfl, hO2, hf2⟩; obtain ⟨p2, z2, hq2⟩ := hO2.shape'; subst hq2; have y0 := hf2.cell x1; have y1 := hf2.cell d2)
      | (go_at_call_of 58 (Value.int IntKind.u64 (y : Int)); refine (HN2.out _).mono ?_; rintro e w3 ⟨v3, rfl, hO3, hf3⟩; obtain ⟨p3, z3, hq3⟩ := hO3.shape'; subst hq3; have z0 := hf3.cell y0; have z1 := hf3.cell y1)
      | (go_at_call 35; refine (HA1.out _ _ _ _ (hO.see.fr ((Fr.refl wr).drew.trans (hf2.trans hf3))) (hO2.fr hf3).see hO3.see).mono ?_; rintro e w4 ⟨v4, rfl, hO4, hf4⟩; have u0 := hf4.cell z0; have u1 := hf4.cell z1)))
    have hf4' : Fr w w3 := hf.trans ((Fr.refl wr).drew.trans (hf2.trans hf3))
    have hfin := hf4'.trans hf4
    have hO4' := hO4.rebase hf4'.size
    obtain ⟨p4, z4, hq4⟩ := hO4'.shape'
    subst hq4
    clear x1 d1 d2 y0 y1 z0 z1 u0 u1 hO2 hO3 hO4 hO hf2 hf3 hf4 hf4' hgr
    go_wp2_with fail
    go_roundw
    case rel => exact ⟨k + 1, by omega, by go_num, by rw [HM2.out, HN.out, ← List.append_assoc, ← List.append_assoc, ← HOm.out]; exact hO4', hfin⟩
    case measure => simp [intOf]; omega
  · obtain rfl : k = cs.length := by omega
    have hnl : ¬ (cs.length : Int) < cs.length := by omega
    have x2 : wr.cell? ⟨g, 2, none⟩ = some (N a) := by rw [cell_of_heap hgr]; rfl
    have x3 : wr.cell? ⟨g, 3, none⟩ = some (N b) := by rw [cell_of_heap hgr]; rfl
    obtain ⟨om, hom⟩ : ∃ om, om = m0 ++ prTo cs fr cs.length := ⟨_, rfl⟩
    rw [← hom] at hO HD
    have hol : om.length ≤ 1300 := by rw [hom, List.length_append]; have : cs.length * 20 ≤ 60 * 20 := Nat.mul_le_mul_right _ hl; omega
    have HN1 := hid (HNm.out a (by omega))
    have HN2 := hid (HNm.out b (by omega))
    have hn1 := numB_le a (by omega)
    have hn2 := numB_le b (by omega)
    have HA1 := hid (fun W va vb vc sa sb sc => all3_any va vb vc om (numB a) (numB b) W sa sb sc (by omega))
    rw [← HD.out] at HA1
    clear hom hpl
    have hw1 : IntKind.u64.wrap (a : Int) = (a : Int) := IntWalk.u64_in _ (by omega)
    have hw3 : IntKind.u64.wrap (b : Int) = (b : Int) := IntWalk.u64_in _ (by omega)
    obtain ⟨oa, oc, hov⟩ := hO.shape'
    subst hov
    go_upto_region 7 with fail
    go_region_held3 (fun w' => w'.cell? ⟨g, 2, none⟩ = some (N a) ∧ w'.cell? ⟨g, 3, none⟩ = some (N b))
     (first | go_keep)
     ((first
      | (go_at_call 58; refine (HN1.out _).mono ?_; rintro e w2 ⟨v2, rfl, hO2, hf2⟩; obtain ⟨p2, z2, hq2⟩ := hO2.shape'; subst hq2; have y0 := hf2.cell x2; have y1 := hf2.cell x3; clear HN1)
      | (go_at_call 58; refine (HN2.out _).mono ?_; rintro e w3 ⟨v3, rfl, hO3, hf3⟩; obtain ⟨p3, z3, hq3⟩ := hO3.shape'; subst hq3; have z0 := hf3.cell y0; have z1 := hf3.cell y1)
      | (go_at_call 35; refine (HA1.out _ _ _ _ (hO.see.fr ((Fr.refl wr).drew.trans (hf2.trans hf3))) (hO2.fr hf3).see hO3.see).mono ?_; rintro e w4 ⟨v4, rfl, hO4, hf4⟩; have u0 := hf4.cell z0; have u1 := hf4.cell z1)))
    have hf4' : Fr w w3 := hf.trans ((Fr.refl wr).drew.trans (hf2.trans hf3))
    go_wp2_with fail
    go_ret
    exact ⟨_, rfl, hO4.rebase hf4'.size, hf4'.trans hf4⟩
set_option maxRecDepth 512
set_option maxRecDepth 100000
theorem BMake_bad (o : Opt) (ho : opt2 o = true) (v : Value) (l : List Rec) (w : World) (hs : See w eR v l) (hl : okLog l = false) :
  Calls Tryz.prog 15 #[optV o, v] w fun e w' => e = .returned (.tuple #[.slice none 0 0, .int .i64 6]) ∧ Fr w w' := by
 have HC := hid (fun W => bcheck_any o W)
 rw [if_pos ho] at HC
 have HQ := hid (fun W (h : Fr w W) => QCheck_any v l W (hs.fr h))
 rw [if_neg (by rw [hl]; simp)] at HQ
 obtain ⟨a0, cap, hv, _⟩ := hs.shape
 subst hv
 clear hs hl ho
 go_enter Tryz.func15, Tryz.ntmps15
 go_wp2_with fail
 refine (HC.out _).mono ?_
 rintro e w1 ⟨rfl, hf1⟩
 have hf01 : Fr w w1 := ((Fr.refl w).alloc _).trans hf1
 go_wp2_with fail
 refine (HQ.out _ hf01).mono ?_
 rintro e w2 ⟨rfl, hf2⟩
 go_wp2_with fail
 go_ret2
 exact ⟨rfl, hf01.trans hf2⟩
set_option maxRecDepth 512
theorem owns_append {α : Type} {E : Elt Tryz.prog α} {W : World} {b : Nat} {ps qs : List Hd} {ls ms : List (List α)} (h1 : Owns W b E ps ls) (h2 : Owns W b E qs ms) : Owns W b E (ps ++ qs) (ls ++ ms) := by
 refine ⟨by rw [List.length_append, List.length_append, h1.1, h2.1], fun t a c => ?_⟩
 have e := h1.1
 by_cases ht : t < ps.length
 · rw [List.getElem_append_left ht, List.getElem_append_left (by omega)]
   exact h1.2 t ht (by omega)
 · rw [List.getElem_append_right (by omega), List.getElem_append_right (by omega)]
   simp only [List.length_append] at a c
   have h3 := h2.2 (t - ps.length) (by omega) (by omega)
   simp only [e] at h3 ⊢
   exact h3
theorem owns4 {α : Type} {E : Elt Tryz.prog α} {W : World} {b : Nat} {p0 p1 p2 p3 : Hd} {l0 l1 l2 l3 : List α} (h0 : Ow W b E p0.v l0) (h1 : Ow W b E p1.v l1) (h2 : Ow W b E p2.v l2) (h3 : Ow W b E p3.v l3) : Owns W b E [p0, p1, p2, p3] [l0, l1, l2, l3] := by
 refine ⟨rfl, fun t a c => ?_⟩
 match t, a with
 | 0, _ => exact h0
 | 1, _ => exact h1
 | 2, _ => exact h2
 | 3, _ => exact h3
theorem heads_len4 (l : List (List UInt8)) (n : Nat) (hn : 1 ≤ n) (hn2 : n ≤ 64) (hl : l.length ≤ 4000) (hb : ∀ s ∈ l, s.length ≤ 25) : (((chunksL l n).map fun c => numB (bktB c).length).flatten).length ≤ 40630 := by
 rw [flat_len]
 refine Nat.le_trans (wtS_le _ 10 _ fun c hc => ?_) ?_
 · have h1 := chunk_mem hc
   have h2 := bktB_len 25 (by omega) c (fun s hs => hb s (h1.2 s hs))
   have h3 : c.length * (25 + 20) ≤ 64 * 45 := Nat.mul_le_mul (by omega) (Nat.le_refl _)
   exact numB_le _ (by omega)
 · have h1 := ckN_mul l.length n hn
   have h2 : (chunksL l n).length = ckN l.length n := chunks_len l n
   have h3 : ckN l.length n * 1 ≤ ckN l.length n * n := Nat.mul_le_mul_left _ hn
   omega
theorem bodies_len4 (l : List (List UInt8)) (n : Nat) (hn : 1 ≤ n) (hn2 : n ≤ 64) (hl : l.length ≤ 4000) (hb : ∀ s ∈ l, s.length ≤ 25) : (((chunksL l n).map bktB).flatten).length ≤ 182880 := by
 rw [flat_len]
 refine Nat.le_trans (wtS_le _ (45 * n) _ fun c hc => ?_) ?_
 · have h1 := chunk_mem hc
   have h2 := bktB_len 25 (by omega) c (fun s hs => hb s (h1.2 s hs))
   have h3 : c.length * (25 + 20) ≤ n * 45 := Nat.mul_le_mul h1.1 (Nat.le_refl _)
   have h4 : 45 * n = n * 45 := Nat.mul_comm _ _
   show (bktB c).length ≤ _
   omega
 · have h1 := ckN_mul l.length n hn
   have h2 : (chunksL l n).length ≤ ckN l.length n := by rw [chunks_len]; omega
   have h3 : (chunksL l n).length * (45 * n) ≤ ckN l.length n * (45 * n) := Nat.mul_le_mul_right _ h2
   have h4 : ckN l.length n * (45 * n) = 45 * (ckN l.length n * n) := by rw [Nat.mul_left_comm]
   omega
theorem dictB_len4 (n : Nat) (l : List (List UInt8)) (hn1 : 1 ≤ n) (hn2 : n ≤ 64) (hb25 : ∀ s ∈ l, s.length ≤ 25) (hl : l.length ≤ 4000) : (dictB n l).length ≤ 223520 := by
 have h1 := heads_len4 l n hn1 hn2 hl hb25
 have h2 := bodies_len4 l n hn1 hn2 hl hb25
 have h3 := numB_le l.length (by omega)
 unfold dictB
 rw [List.length_append, List.length_append]
 omega
abbrev opB (sz bu : Nat) (p : Bool) (d q c : Int) : Obj := .cells #[N sz, .bool p, N bu, .int .i64 d, .int .i64 q, .int .i64 c] 23 (0, 0)
abbrev dirB (cv sv : Value) (a b : Nat) : Obj := .cells #[cv, sv, N a, N b] 57 (0, 0)
theorem szL_succ (fr : Nat → List UInt8) (k : Nat) : szL fr (k + 1) = szL fr k ++ [(fr k).length] := by unfold szL; rw [List.range_succ, List.map_append]; rfl
set_option maxRecDepth 100000
theorem BMake_any (sz bu : Nat) (p : Bool) (d q c : Int) (h1 : 16 ≤ sz) (h2 : sz ≤ 32768) (h3 : 1 ≤ bu) (h4 : bu ≤ 64) (v : Value) (l : List Rec) (w : World) (hs : See w eR v l) (hl : SmallL l) (ht : Crc w) :
  Calls Tryz.prog 15 #[optV ⟨(sz : Int), p, (bu : Int), d, q, c⟩, v] w fun e w' => ∃ u, e = .returned (.tuple #[u, .int .i64 0]) ∧ Ow w' w.heap.size eB u (bodyL sz bu p l) ∧ Fr w w' := by
 have ho : opt2 ⟨(sz : Int), p, (bu : Int), d, q, c⟩ = true := (opt2_iff _).2 ⟨by show (16 : Int) ≤ (sz : Int); omega, by show (sz : Int) ≤ 32768; omega, by show (1 : Int) ≤ (bu : Int); omega, by show (bu : Int) ≤ 64; omega⟩
 have HC := hid (fun W => bcheck_any ⟨(sz : Int), p, (bu : Int), d, q, c⟩ W)
 rw [if_pos ho] at HC
 have HQ := hid (fun W (h : Fr w W) => QCheck_any v l W (hs.fr h))
 rw [if_pos hl.ok] at HQ
 have hbd : ∀ r ∈ l, r.source.length ≤ 100000 ∧ r.text.length ≤ 100000 := fun r hr => by have := hl.each r hr; omega
 have HGr := hid (fun W (h : Fr w W) => Groups_any sz (by omega) (by omega) v l W (hs.fr h) (by have := hl.len; omega) hbd)
 have hcsum := groupsL_sum sz (lenR false) l
 have hcl := groups_len sz (lenR false) l
 have HT : Hid (bodyL sz bu p l = joinL (groupsL sz (lenR false) l) (frmL p l (groupsL sz (lenR false) l)) (putB (columnsL l)) (putB (postB bu l.length (idxT (l.map Rec.ts)) (idxL (l.map Rec.ts))))) := rfl
 have HFm := hid (fun cs k => hl.frm p cs k)
 have HCo := hid (fun W (h : Fr w W) => Columns_any v l W (hs.fr h) (by have := hl.len; omega))
 have HBu := hid (fun W (h : Fr w W) => Build_any v l W (hs.fr h) (by have := hl.len; omega) (fun r hr => by have := hbd r hr; omega) (by have := hl.texts; omega))
 have HPB := hid (fun tv lv hs W h5 h6 => PBytes_any bu l.length h3 h4 tv lv (idxT (l.map Rec.ts)) hs (idxL (l.map Rec.ts)) W h5 h6 hl.idx)
 have HPo := hid (fun v q W (h : Fr w W) (h2 : See W eB v q) (h3 : q.length ≤ 1000000) => Put_any v q W h2 h3 (ht.fr h))
 have hpl := dictB_len4 bu (idxT (l.map Rec.ts)) h3 h4 (fun s h => (idxT_each _ s h).2) (by have := idxT_len (l.map Rec.ts); have := hl.texts; omega)
 have hps := hl.idx.sum
 have hpost : (postB bu l.length (idxT (l.map Rec.ts)) (idxL (l.map Rec.ts))).length ≤ 623520 := by unfold postB; rw [List.length_append]; omega
 have hcol := columnsL_len l hl.len
 have hlen := hl.len
 have HSub := hid (fun W (h : Fr w W) i k (h1 : i ≤ k) (h2 : k ≤ l.length) a cap (h3 : v = .slice a l.length cap) => run_mid eR 24 Tryz.underlying24 (by have := hs.fr h; rw [h3] at this; exact this) i k h1 h2)
 have HBy := hid (fun v' (q : List Rec) W (h : See W eR v' q) (h2 : (bytesB false q).length ≤ 6000) (h3 : ∀ r ∈ q, r ∈ l) => Bytes_any v' q W h (by omega) (fun r hr => hbd r (h3 r hr)))
 have HBW := hid (fun v' q W (h : Fr w W) (h2 : See W eB v' q) (h3 : q.length ≤ 32768) => BWrite_any p v' q W h2 h3 (ht.fr h))
 have HFd : Hid (∀ cs k, frmL p l cs k = blockB p (bytesB false ((l.take (cs.take (k + 1)).sum).drop (cs.take k).sum))) := fun cs k => rfl
 obtain ⟨a0, cap, hv, hcap1, hcap2, hnone⟩ := hs.shape
 subst hv
 unfold maxLen at hcap2
 clear hs hl ht hnone hbd hpl hps ho
 generalize bodyL sz bu p l = T at *
 generalize groupsL sz (lenR false) l = cs at *
 generalize hIT : idxT (l.map Rec.ts) = IT at *
 generalize hIL : idxL (l.map Rec.ts) = IL at *
 clear hIT hIL
 generalize hPI : postB bu l.length IT IL = PI at *
 clear hPI
 generalize hCO : columnsL l = CO at *
 clear hCO
 go_enter Tryz.func15, Tryz.ntmps15
 go_wp2_with fail
 refine (HC.out _).mono ?_
 rintro e w1 ⟨rfl, hf1⟩
 have hO1 := hf1.heap (heap_new w (.cells #[N sz, .bool p, N bu, .int .i64 d, .int .i64 q, .int .i64 c] 23) _ rfl)
 have hf01 : Fr w w1 := ((Fr.refl w).alloc _).trans hf1
 clear hf1
 go_wp2_with fail
 refine (HQ.out _ hf01).mono ?_
 rintro e w2 ⟨rfl, hf2⟩
 have hf02 := hf01.trans hf2
 have hO2 := hf2.heap hO1
 have x2 : w2.cell? ⟨w.heap.size, 0, none⟩ = some (N sz) := by rw [cell_of_heap hO2]; rfl
 go_wp2_with fail
 refine (HGr.out _ hf02).mono ?_
 rintro e w3 ⟨v3, rfl, hC3, hf3⟩
 obtain ⟨ca, cc, hcv⟩ := hC3.shape'
 subst hcv
 have hf03 := hf02.trans hf3
 have hO3 := hf3.heap hO2
 have hsz3 : w.heap.size + 1 ≤ w3.heap.size := (Array.getElem?_eq_some_iff.1 hO3).1
 have hfD : Fr w3 (w3.alloc (.cells #[.slice ca cs.length cc, .slice none 0 0, .int .i64 0, .int .i64 0] 57)) := (Fr.refl w3).alloc _
 have hD4 := heap_new w3 (.cells #[.slice ca cs.length cc, .slice none 0 0, .int .i64 0, .int .i64 0] 57) w3.heap.size rfl
 have hO4 := hfD.heap hO3
 have hC4 := (hC3.rebase (b := w.heap.size) hf02.size).fr hfD
 have hf04 := hf03.trans hfD
 clear hO1 hO2 hO3 hf01 hf02 hf03 hf2 hf3 x2 hC3
 go_upto_region 8 with fail
 generalize w3.alloc (.cells #[.slice ca cs.length cc, .slice none 0 0, .int .i64 0, .int .i64 0] 57) = w4 at *
 generalize w3.heap.size = g at *
 obtain ⟨O, hOe⟩ : ∃ O, O = w.heap.size := ⟨_, rfl⟩
 rw [← hOe] at hO4 hsz3
 have HO := hid hOe
 rw [← hOe]
 clear hOe hfD
 have c4 : w4.cell? ⟨g, 0, none⟩ = some (.slice ca cs.length cc) := by rw [cell_of_heap hD4]; rfl
 have HTk := hid (groups_sum_le cs)
 have HSn := hid (sum_snoc cs)
 have HFT := hid (frTo_len (frmL p l cs) 6025 (fun k => (HFm.out cs k).2))
 have HCs := hid hcsum
 clear hcsum
 go_wp2_with fail
 go_loopw [9, 10, 39] (fun pv av iv wr => ∃ (k : Nat) (sv : Value) (ps : List Hd), k ≤ cs.length ∧ iv = N k ∧ av = N (cs.take k).sum ∧ wr.heap[O]? = some (opB sz bu p d q c) ∧ wr.heap[g]? = some (dirB (.slice ca cs.length cc) sv 0 0) ∧ Ow wr O eJ (.slice ca cs.length cc) cs ∧ Ow wr O eJ sv (szL (frmL p l cs) k) ∧ (sv.ownBlock = none ∨ sv.ownBlock ≠ (Value.slice ca cs.length cc).ownBlock) ∧ Ow wr O eHB pv ps ∧ Owns wr O eB ps (frTo (frmL p l cs) k) ∧ Fr w wr) (fun _ _ iv _ => cs.length - (intOf iv).toNat)
 case atStart => exact ⟨0, .slice none 0 0, [], Nat.zero_le _, rfl, by simp, hO4, hD4, by rw [HO.out]; exact hC4, Ow.nil, .inl rfl, Ow.nil, ⟨rfl, fun t a => by simp at a⟩, hf04⟩
 case round =>
  clear hO4 hD4 hC4 hf04 c4
  obtain ⟨k, sv, ps, hk, rfl, rfl, hO, hD, hC, hS, hap, hP, hR, hf⟩ := hrel
  have hszr : O ≤ wr.heap.size := by have := (Array.getElem?_eq_some_iff.1 hO).1; omega
  by_cases hlt : k < cs.length
  · obtain ⟨b1, off1, cap1, hv1, d1⟩ := numAt hC.see k hlt
    cases hv1
    have hs1 := HTk.out k
    have hs2 := HTk.out (k + 1)
    have hss := HCs.out
    have hsn := HSn.out k hlt
    have HFk := hid (HFm.out cs k)
    have HFe := hid (HFd.out cs k)
    have HFs := hid (frTo_succ (frmL p l cs) k)
    have HZs := hid (szL_succ (frmL p l cs) k)
    generalize hm2 : (cs.take (k + 1)).sum = m2 at *
    have HM2 := hid hm2
    clear hm2
    generalize (cs.take k).sum = m at *
    generalize cs[k] = x at *
    have hm2l : m2 ≤ l.length := by omega
    have HMx : Hid (m2 = m + x) := hsn
    obtain ⟨sa, sc, hmid, hsub⟩ := HSub.out wr hf m m2 (by omega) hm2l _ _ rfl
    have hm2c : ((m2 : Nat) : Int) = (m : Int) + x := by omega
    rw [hm2c] at hmid
    generalize hsu : (l.take m2).drop m = su at *
    have HSu := hid (show ∀ r ∈ su, r ∈ l from fun r hr => by rw [← hsu] at hr; exact List.mem_of_mem_take (List.mem_of_mem_drop hr))
    clear hsu hsn hm2c hs1 hs2 hss
    have hxe : m2 - m = x := by have := HMx.out; omega
    rw [hxe] at hmid hsub
    clear hxe
    have HB1 := hid (HBy.out _ su (wr.drew) hsub.drew HFk.out.1 HSu.out)
    generalize hby : bytesB false su = by_ at *
    have HWr := hid (fun W (h : Fr w W) v' (h2 : See W eB v' by_) => HBW.out v' by_ W h h2 (by have := HFk.out.1; omega))
    rw [← HFe.out] at HWr
    have hfl : (frmL p l cs k).length ≤ 6025 := HFk.out.2
    have HFl := hid HFk
    generalize hfe : frmL p l cs k = fk at *
    have HFk2 := hid hfe
    clear hfe hby
    have i1 : (0 : Int) ≤ k := by omega
    have i2 : (k : Int) < cs.length := by omega
    have i3 : (0 : Int) ≤ m := by omega
    have i4 : IntKind.i64.wrap ((m : Int) + x) = (m : Int) + x := IntWalk.i64_in _ (by have := HMx.out; omega)
    have x0 : wr.cell? ⟨O, 1, none⟩ = some (.bool p) := by rw [cell_of_heap hO]; rfl
    obtain ⟨sva, svc, hsv⟩ := hS.shape'
    subst hsv
    obtain ⟨pva, pvc, hpv⟩ := hP.shape'
    subst hpv
    have hpsl : ps.length ≤ 60 := by have := hR.1; simp only [frTo, List.length_map, List.length_range] at this; omega
    have hszl : (szL (frmL p l cs) k).length ≤ 60 := by simp only [szL, List.length_map, List.length_range]; omega
    go_upto_region 13 with fail
    go_region_held3 (fun w' => w'.cell? ⟨O, 1, none⟩ = some (.bool p))
     (first | go_keep)
     ((first
      | (go_at_call 28; refine HB1.out.mono ?_; rintro e w5 ⟨v5, rfl, hO5, hf5⟩; obtain ⟨p5, z5, hq5⟩ := hO5.shape'; subst hq5; have y0 := hf5.cell x0)
      | (go_at_call 27; refine (HWr.out _ (hf.trans ((Fr.refl wr).drew.trans hf5)) _ hO5.see).mono ?_; rintro e w6 ⟨v6, rfl, hO6, hf6⟩; obtain ⟨p6, z6, hq6⟩ := hO6.shape'; subst hq6; have u0 := hf6.cell y0)))
    have hfr6 : Fr wr w6 := (Fr.refl wr).drew.trans (hf5.trans hf6)
    have hO7 := hfr6.heap hO
    have hD7 := hfr6.heap hD
    have hC7 := hC.fr hfr6
    have hS7 := hS.fr hfr6
    have hP7 := hP.fr hfr6
    have hR7 := hR.fr hfr6
    have hf7 := hf.trans hfr6
    have hF7 := hO6.rebase (b := O) (Nat.le_trans hszr ((Fr.refl wr).drew.trans hf5).size)
    have hsz6 : O ≤ w6.heap.size := Nat.le_trans hszr hfr6.size
    clear hO hD hC hS hP hR hf hO5 hO6 hf5 hf6 x0 y0 u0 hmid hsub d1 hfr6 HWr HB1
    go_wp2_with (at_builtin; refine wpList_app1 eHB rfl (.tmp 59) (.tmp 61) 58 rfl Tryz.underlying58 O rfl hP7 [⟨p6, fk.length, z6⟩] _ _ _ rfl rfl rfl ?c1 hsz6 ?_)
    case c1 => first | omega | (simp; omega)
    intro v8 w8 hap8
    have hO8 := hap8.chg'.heap hO7 (hP7.ne_cells hO7 (by decide))
    have hD8 := hap8.chg'.heap hD7 (hP7.ne_cells hD7 (by decide))
    have hC8 := own_app hC7 hP7 hap8 (by decide)
    have hS8 := own_app hS7 hP7 hap8 (by decide)
    have hF8 := own_app hF7 hP7 hap8 (by decide)
    have hR8 : Owns w8 O eB ps (frTo (frmL p l cs) k) := ⟨hR7.1, fun t h1 h2 => own_app (hR7.2 t h1 h2) hP7 hap8 (by decide)⟩
    have hf8 : Fr w w8 := hap8.below hP7 hf7 (by rw [HO.out]; exact Nat.le_refl _) hf7.size
    have hP8 := hap8.own
    have hsz8 : O ≤ w8.heap.size := Nat.le_trans hsz6 hap8.size
    obtain ⟨pv8, pc8, hq8⟩ := hP8.shape'
    subst hq8
    have x8 : w8.cell? ⟨g, 1, none⟩ = some (.slice sva (szL (frmL p l cs) k).length svc) := by rw [cell_of_heap hD8]; rfl
    obtain ⟨zl, hzl⟩ : ∃ zl, zl = szL (frmL p l cs) k := ⟨_, rfl⟩
    rw [← hzl] at hS8 x8 hap hszl hD8
    have HZl := hid hzl
    clear hO7 hD7 hC7 hS7 hP7 hR7 hf7 hF7 hap8 hzl
    go_wp2_with (at_builtin; refine wpList_app1 eJ rfl (.tmp 64) (.tmp 67) 54 rfl Tryz.underlying54 O rfl hS8 [fk.length] _ _ _ rfl rfl rfl ?c1 hsz8 ?_)
    case c1 => first | omega | (simp; omega)
    intro v9 w9 hap9
    have hO9 := hap9.chg'.heap hO8 (hS8.ne_cells hO8 (by decide))
    have hD9 := hap9.chg'.heap hD8 (hS8.ne_cells hD8 (by decide))
    have hC9 := hap9.other hC8 (ne_flip hap)
    have hap99 := hap9.apart hC8 (ne_flip hap)
    have hF9 := own_app hF8 hS8 hap9 (by decide)
    have hP9 := own_app hP8 hS8 hap9 (by decide)
    have hR9 : Owns w9 O eB ps (frTo (frmL p l cs) k) := ⟨hR8.1, fun t h1 h2 => own_app (hR8.2 t h1 h2) hS8 hap9 (by decide)⟩
    have hf9 : Fr w w9 := hap9.below hS8 hf8 (by rw [HO.out]; exact Nat.le_refl _) hf8.size
    have hS9 := hap9.own
    obtain ⟨sv9, sc9, hq9⟩ := hS9.shape'
    subst hq9
    have e9 : w9.cell? ⟨g, 1, none⟩ = some (.slice sva zl.length svc) := by rw [cell_of_heap hD9]; rfl
    have f9 : w9.frozen? ⟨g, 1, none⟩ = false := frozen_of_heap hD9 1
    have HO9 := hid hO9
    have HD9 := hid hD9
    obtain ⟨zl2, hzl2⟩ : ∃ zl2, zl2 = zl ++ [fk.length] := ⟨_, rfl⟩
    rw [← hzl2] at hS9 hap99
    have HZ2 := hid hzl2
    rw [← hzl2]
    clear hO8 hD8 hC8 hS8 hP8 hR8 hf8 hF8 hap9 hzl2 x8 hap hO9 hD9
    have hOg : O ≠ g := fun e => by
     have h1 := HO9.out
     rw [e, HD9.out] at h1
     cases h1
    go_wp2_with fail
    go_roundw
    case rel =>
     have hst := setCell_chg w9 ⟨g, 1, none⟩ (.slice sv9 zl2.length sc9)
     have hall : ∀ {α : Type} {E : Elt Tryz.prog α} {v : Value} {q : List α}, E.e ≠ 57 → Ow w9 O E v q → Ow (w9.setCell ⟨g, 1, none⟩ (.slice sv9 zl2.length sc9)) O E v q := fun hT h => h.chg hst (fun k hk e => h.ne_cells HD9.out (Ne.symm hT) (by rw [hk, e]))
     have r1 : (w9.setCell ⟨g, 1, none⟩ (.slice sv9 zl2.length sc9)).heap[O]? = some (opB sz bu p d q c) := hst.heap HO9.out (by simpa using hOg)
     have r2 : (w9.setCell ⟨g, 1, none⟩ (.slice sv9 zl2.length sc9)).heap[g]? = some (dirB (.slice (some ⟨b1, off1, none⟩) cs.length cc) (.slice sv9 zl2.length sc9) 0 0) := by have := heap_setCell_own HD9.out 1 (.slice sv9 zl2.length sc9); simpa using this
     have r3 := hall (by decide) hC9
     have r4 : Ow (w9.setCell ⟨g, 1, none⟩ (.slice sv9 zl2.length sc9)) O eJ (.slice sv9 zl2.length sc9) (szL (frmL p l cs) (k + 1)) := by
      rw [HZs.out, ← HZl.out, ← HZ2.out]; exact hall (by decide) hS9
     have r5 := hall (by decide) hP9
     have r6 : Owns (w9.setCell ⟨g, 1, none⟩ (.slice sv9 zl2.length sc9)) O eB (ps ++ [(⟨p6, fk.length, z6⟩ : Hd)]) (frTo (frmL p l cs) (k + 1)) := by
      rw [HFs.out]
      refine ⟨by rw [List.length_append, List.length_append, hR9.1]; rfl, fun t a b => ?_⟩
      by_cases ht : t < ps.length
      · have ht2 : t < (frTo (frmL p l cs) k).length := by rw [← hR9.1]; exact ht
        rw [List.getElem_append_left ht, List.getElem_append_left ht2]
        exact hall (by decide) (hR9.2 t ht ht2)
      · have e1 : t = ps.length := by rw [List.length_append, List.length_singleton] at a; omega
        subst e1
        rw [List.getElem_append_right (Nat.le_refl _)]
        have e2 : ps.length = (frTo (frmL p l cs) k).length := hR9.1
        rw [List.getElem_append_right (by rw [← e2]; exact Nat.le_refl _)]
        simp only [Nat.sub_self, e2, List.getElem_cons_zero]
        exact hall (by decide) hF9
     have hgw : w.heap.size ≤ g := by have := HO.out; omega
     have r7 : Fr w (w9.setCell ⟨g, 1, none⟩ (.slice sv9 zl2.length sc9)) := set_below hf9 hgw hf9.size
     have e7 : Value.int .i64 (IntKind.i64.wrap ((m : Int) + x)) = N m2 := by rw [i4, HMx.out]; simp
     rw [List.length_append, List.length_singleton] at r5
     exact ⟨k + 1, _, ps ++ [(⟨p6, fk.length, z6⟩ : Hd)], by omega, by go_num, by rw [HM2.out, HMx.out]; go_num, r1, r2, r3, r4, ne_flip hap99, r5, r6, r7⟩
    case measure => simp [intOf]; omega
  · obtain rfl : k = cs.length := by omega
    have hnl : ¬ (cs.length : Int) < cs.length := by omega
    have x0 : wr.cell? ⟨O, 2, none⟩ = some (N bu) := by rw [cell_of_heap hO]; rfl
    have hfl := HFT.out cs.length
    have hmul : cs.length * 6025 ≤ 60 * 6025 := Nat.mul_le_mul_right _ (by omega)
    have hpsl : ps.length ≤ 60 := by have := hR.1; simp only [frTo, List.length_map, List.length_range] at this; omega
    have HTj : Hid (T = (frTo (frmL p l cs) cs.length).flatten ++ putB CO ++ putB PI ++ putB (dirL cs (frmL p l cs) (putB CO).length (putB PI).length) ++ fixB 4 (putB (dirL cs (frmL p l cs) (putB CO).length (putB PI).length)).length) := HT
    have HDb := hid (fun cv sv W h1 h2 h3 => dbytes_any g cv sv cs (frmL p l cs) (putB CO).length (putB PI).length W h1 h2 h3 (by omega) (by have := HCs.out; omega) (fun k => (HFm.out cs k).2) (by rw [putB_len]; omega) (by rw [putB_len]; omega))
    have hdl : (dirL cs (frmL p l cs) (putB CO).length (putB PI).length).length ≤ 1300 := by
     have i1 := numB_le cs.sum (by have := HCs.out; omega)
     have i2 := numB_le cs.length (by omega)
     have i3 := numB_le (putB CO).length (by rw [putB_len]; omega)
     have i4 := numB_le (putB PI).length (by rw [putB_len]; omega)
     have i5 := prTo_len cs (frmL p l cs) 6025 (by omega) (fun k => (HFm.out cs k).2) (fun x hx => by
      obtain ⟨i, hi, rfl⟩ := List.mem_iff_getElem.1 hx
      have h1 := groups_sum_le cs (i + 1)
      rw [sum_snoc cs i hi] at h1
      have := HCs.out
      omega) cs.length
     have i6 : cs.length * 20 ≤ 60 * 20 := Nat.mul_le_mul_right _ (by omega)
     unfold dirL
     simp only [List.length_append]
     omega
    generalize hfr : frTo (frmL p l cs) cs.length = FR at *
    clear hfr
    generalize hde : dirL cs (frmL p l cs) (putB CO).length (putB PI).length = DI_ at *
    clear hde
    have HCl := hid (fun W h => HCo.out W h)
    go_wp2_with fail
    refine (HCo.out _ hf).mono ?_
    rintro e w2 ⟨v2, rfl, hO2, hf2⟩
    have hfw2 := hf.trans hf2
    have HP2 := hid (HPo.out v2 CO w2 hfw2 hO2.see (by omega))
    obtain ⟨p2, z2, hq2⟩ := hO2.shape'
    subst hq2
    obtain ⟨pca, pcc, hpv⟩ := hP.shape'
    subst hpv
    obtain ⟨svz, hsvz⟩ : ∃ q, q = szL (frmL p l cs) cs.length := ⟨_, rfl⟩
    rw [← hsvz] at hS
    have HSz := hid hsvz
    clear hsvz
    go_wp2_with fail
    refine HP2.out.mono ?_
    rintro e w3 ⟨v3, rfl, hO3, hf3⟩
    obtain ⟨p3, z3, hq3⟩ := hO3.shape'
    subst hq3
    have hf23 := hf2.trans hf3
    have y0 := hf23.cell x0
    have hf03 := hf.trans hf23
    have hOr := hf23.heap hO
    have hDr := hf23.heap hD
    have hCr := hC.fr hf23
    have hSr := hS.fr hf23
    have hPr := hP.fr hf23
    have hRr := hR.fr hf23
    have hszO : O ≤ w2.heap.size := Nat.le_trans hszr hf2.size
    have hK3 := hO3.rebase hszO
    clear hO hD hC hS hP hR hf hf2 hf3 hf23 hO2 hO3 x0 HP2 HCl HCo
    go_upto_region 21 with fail
    go_region_held3 (fun w' => w'.cell? ⟨O, 2, none⟩ = some (N bu))
     (first | go_keep)
     ((first
      | (go_at_call 32; refine (HBu.out _ (hf03.trans (Fr.refl w3).drew)).mono ?_; rintro e w4 ⟨tv, lv, hs4, rfl, hT4, hL4, hf4⟩; have u0 := hf4.cell y0)
      | (go_at_call 31; refine (HPB.out _ _ _ _ hT4 hL4).mono ?_; rintro e w5 ⟨v5, rfl, hO5, hf5⟩; obtain ⟨p5, z5, hq5⟩ := hO5.shape'; subst hq5; have t0 := hf5.cell u0)))
    have hf35 : Fr w3 w5 := (Fr.refl w3).drew.trans (hf4.trans hf5)
    have hf05 := hf03.trans hf35
    have HP5 := hid (HPo.out _ PI w5 hf05 hO5.see (by omega))
    have hO5r := hf35.heap hOr
    have hD5r := hf35.heap hDr
    have hC5 := hCr.fr hf35
    have hS5 := hSr.fr hf35
    have hP5r := hPr.fr hf35
    have hR5 := hRr.fr hf35
    have hK5 := hK3.fr hf35
    have hsz5 : O ≤ w5.heap.size := by rw [HO.out]; exact hf05.size
    clear y0 u0 t0 hf4 hT4 hL4 hOr hDr hCr hSr hPr hRr hK3 hO5 hf03 hf35 hf5 hszO
    go_wp2_with fail
    refine HP5.out.mono ?_
    rintro e w6 ⟨v6, rfl, hO6, hf6⟩
    obtain ⟨p6, z6, hq6⟩ := hO6.shape'
    subst hq6
    have hO6r := hf6.heap hO5r
    have hD6 := hf6.heap hD5r
    have hC6 := hC5.fr hf6
    have hS6 := hS5.fr hf6
    have hP6 := hP5r.fr hf6
    have hR6 := hR5.fr hf6
    have hK6 := hK5.fr hf6
    have hI6 := hO6.rebase hsz5
    have hf06 := hf05.trans hf6
    have e2 : w6.cell? ⟨g, 2, none⟩ = some (N 0) := by rw [cell_of_heap hD6]; rfl
    have e3 : w6.cell? ⟨g, 3, none⟩ = some (N 0) := by rw [cell_of_heap hD6]; rfl
    have f2 := frozen_of_heap hD6 2
    have f3 := frozen_of_heap hD6 3
    clear hO5r hD5r hC5 hS5 hP5r hR5 hK5 hO6 hf6 hf05 HP5 hsz5
    generalize hA : (putB CO).length = A at *
    generalize hB : (putB PI).length = B at *
    have hAb : A ≤ 1304 := by rw [← hA, putB_len]; omega
    have hBb : B ≤ 623524 := by rw [← hB, putB_len]; omega
    go_upto_region 26 with fail
    have hst2 := setCell_chg w6 ⟨g, 2, none⟩ (N A)
    have hst3 := setCell_chg (w6.setCell ⟨g, 2, none⟩ (N A)) ⟨g, 3, none⟩ (N B)
    have hall : ∀ {α : Type} {E : Elt Tryz.prog α} {v : Value} {q : List α}, E.e ≠ 57 → Ow w6 O E v q → Ow ((w6.setCell ⟨g, 2, none⟩ (N A)).setCell ⟨g, 3, none⟩ (N B)) O E v q := fun hT h =>
     (h.chg hst2 (fun k hk e => h.ne_cells hD6 (Ne.symm hT) (by rw [hk, e]))).chg hst3 (fun k hk e => h.ne_cells hD6 (Ne.symm hT) (by rw [hk, e]))
    have hD7 : ((w6.setCell ⟨g, 2, none⟩ (N A)).setCell ⟨g, 3, none⟩ (N B)).heap[g]? = some (dirB (.slice ca cs.length cc) sv A B) := by
     have h7 := heap_setCell_own hD6 2 (N A)
     have h8 := heap_setCell_own h7 3 (N B)
     simpa using h8
    have hgw : w.heap.size ≤ g := by have := HO.out; omega
    have hf07 : Fr w ((w6.setCell ⟨g, 2, none⟩ (N A)).setCell ⟨g, 3, none⟩ (N B)) := set_below (set_below hf06 hgw hf06.size) hgw (by simp; exact hf06.size)
    have hC7 := hall (by decide) hC6
    have hS7 := hall (by decide) hS6
    have hP7 := hall (by decide) hP6
    have hK7 := hall (by decide) hK6
    have hI7 := hall (by decide) hI6
    have hR7 : Owns ((w6.setCell ⟨g, 2, none⟩ (N A)).setCell ⟨g, 3, none⟩ (N B)) O eB ps FR := ⟨hR6.1, fun t a b => hall (by decide) (hR6.2 t a b)⟩
    clear hall hst2 hst3 hC6 hS6 hP6 hK6 hI6 hR6 hD6 hO6r e2 e3 f2 f3 hf06
    change Code.wp _ _ _ _ ((w6.setCell ⟨g, 2, none⟩ (N A)).setCell ⟨g, 3, none⟩ (N B))
    generalize (w6.setCell ⟨g, 2, none⟩ (N A)).setCell ⟨g, 3, none⟩ (N B) = w7 at *
    rw [HSz.out] at hS7
    have HD8 := hid (HDb.out _ _ w7 hD7 hC7.see hS7.see)
    have hszO7 : O ≤ w7.heap.size := by rw [HO.out]; exact hf07.size
    clear hD7 hC7 hS7 HDb
    go_wp2_with fail
    refine HD8.out.mono ?_
    rintro e w8 ⟨v8, rfl, hO8, hf8⟩
    have hf08 := hf07.trans hf8
    have HP8 := hid (HPo.out v8 DI_ w8 hf08 hO8.see (by omega))
    obtain ⟨p8, z8, hq8⟩ := hO8.shape'
    subst hq8
    go_wp2_with fail
    refine HP8.out.mono ?_
    rintro e w9 ⟨v9, rfl, hO9, hf9⟩
    obtain ⟨p9, z9, hq9⟩ := hO9.shape'
    subst hq9
    have hf79 := hf8.trans hf9
    have hf09 := hf07.trans hf79
    have hP9 := hP7.fr hf79
    have hR9 := hR7.fr hf79
    have hK9 := hK7.fr hf79
    have hI9 := hI7.fr hf79
    have hE9 := hO9.rebase (b := O) (Nat.le_trans hszO7 hf8.size)
    have hdl2 : (putB DI_).length ≤ 1304 := by rw [putB_len]; omega
    have h256 : (putB DI_).length < 256 ^ 4 := by rw [show (256 : Nat) ^ 4 = 4294967296 from by decide]; omega
    have HFi := hid (Fixed_any (putB DI_).length 4 (by omega) (by omega) h256 (by omega))
    have hfxl : (fixB 4 (putB DI_).length).length = 4 := fixB_len 4 _
    clear hP7 hR7 hK7 hI7 hO8 hO9 hf8 hf9 HP8 HD8 hf08 hf07
    generalize hPD : putB DI_ = PD at *
    clear hPD
    generalize hFX : fixB 4 PD.length = FX at *
    clear hFX
    have HFX := hid hfxl
    clear hfxl
    have hw4 : IntKind.u64.wrap (PD.length : Int) = (PD.length : Int) := IntWalk.u64_in _ (by omega)
    go_wp2_with fail
    refine (HFi.out _).mono ?_
    rintro e w10 ⟨v10, rfl, hO10, hf10⟩
    obtain ⟨p10, z10, hq10⟩ := hO10.shape'
    subst hq10
    have hf910 : O ≤ w9.heap.size := Nat.le_trans hszO7 hf79.size
    have hP10 := hP9.fr hf10
    have hR10 := hR9.fr hf10
    have hK10 := hK9.fr hf10
    have hI10 := hI9.fr hf10
    have hE10 := hE9.fr hf10
    have hF10 := hO10.rebase (b := O) hf910
    have hf010 := hf09.trans hf10
    have hsz10 : O ≤ w10.heap.size := Nat.le_trans hf910 hf10.size
    clear hP9 hR9 hK9 hI9 hE9 hO10 hf09 hf10 hf910 hf79
    go_wp2_with (at_builtin; refine wpList_app1 eHB rfl (.tmp 107) (.tmp 112) 58 rfl Tryz.underlying58 O rfl hP10 [⟨p3, A, z3⟩, ⟨p6, B, z6⟩, ⟨p9, PD.length, z9⟩, ⟨p10, FX.length, z10⟩] _ _ _ rfl rfl rfl ?c1 hsz10 ?_)
    case c1 => first | omega | (simp; omega)
    intro v11 w11 hap
    have hK11 := own_app hK10 hP10 hap (by decide)
    have hI11 := own_app hI10 hP10 hap (by decide)
    have hE11 := own_app hE10 hP10 hap (by decide)
    have hF11 := own_app hF10 hP10 hap (by decide)
    have hR11 : Owns w11 O eB ps FR := ⟨hR10.1, fun t h1 h2 => own_app (hR10.2 t h1 h2) hP10 hap (by decide)⟩
    have hf11 : Fr w w11 := hap.below hP10 hf010 (by rw [HO.out]; exact Nat.le_refl _) hf010.size
    have hP11 := hap.own
    have hsee : Sees2 w11 eHB eB v11 (ps ++ [⟨p3, A, z3⟩, ⟨p6, B, z6⟩, ⟨p9, PD.length, z9⟩, ⟨p10, FX.length, z10⟩]) (FR ++ [putB CO, putB PI, PD, FX]) :=
     (owns_append hR11 (owns4 (p0 := ⟨p3, A, z3⟩) (p1 := ⟨p6, B, z6⟩) (p2 := ⟨p9, PD.length, z9⟩) (p3 := ⟨p10, FX.length, z10⟩) hK11 hI11 hE11 hF11)).sees2 hP11.see
    have hT2 : (FR ++ [putB CO, putB PI, PD, FX]).flatten = T := by rw [HTj.out]; simp
    have HAll := hid (All_any v11 _ _ w11 hsee (by
     have := HFX.out
     simp only [List.flatten_append, List.length_append, List.flatten_cons, List.flatten_nil, List.length_nil]
     omega))
    rw [hT2] at HAll
    have hbs : O ≤ w11.heap.size := Nat.le_trans hsz10 hap.size
    clear hsee hT2 hK11 hI11 hE11 hF11 hR11 hK10 hI10 hE10 hF10 hR10 hP10 hap hf010
    have hl4 : (ps ++ [(⟨p3, A, z3⟩ : Hd), ⟨p6, B, z6⟩, ⟨p9, PD.length, z9⟩, ⟨p10, FX.length, z10⟩]).length = ps.length + 4 := by rw [List.length_append]; rfl
    obtain ⟨p11, z11, hq11⟩ := hP11.shape'
    rw [hl4] at hq11
    clear hl4
    subst hq11
    clear hP11
    go_wp2_with fail
    refine HAll.out.mono ?_
    rintro e w12 ⟨v12, rfl, hO12, hf12⟩
    obtain ⟨p12, z12, hq12⟩ := hO12.shape'
    subst hq12
    have HR := hid (hO12.rebase hbs)
    rw [HO.out] at HR
    clear hO12
    go_wp2_with fail
    go_ret2
    exact ⟨_, rfl, HR.out, hf11.trans hf12⟩
set_option maxRecDepth 512
set_option maxRecDepth 100000
theorem RFrames_any (sz : Nat) (bu : Int) (p : Bool) (d q c : Int) (h1 : 16 ≤ sz) (h2 : sz ≤ 32768) (v : Value) (l : List Rec) (w : World) (hs : See w eR v l) (hl : SmallL l) :
  Calls Tryz.prog 44 #[optV ⟨(sz : Int), p, bu, d, q, c⟩, v] w fun e w' => ∃ fv cv, e = .returned (.tuple #[fv, cv]) ∧ (∃ ps, Sees2 w' eHB eB fv ps (frTo (frmL p l (groupsL sz (lenR false) l)) (groupsL sz (lenR false) l).length)) ∧ See w' eJ cv (groupsL sz (lenR false) l) ∧ Fr w w' := by
 have hbd : ∀ r ∈ l, r.source.length ≤ 100000 ∧ r.text.length ≤ 100000 := fun r hr => by have := hl.each r hr; omega
 have HGr := hid (fun W (h : Fr w W) => RGroups_any false sz (by omega) (by omega) v l W (hs.fr h) (by have := hl.len; omega) hbd)
 have hcsum := groupsL_sum sz (lenR false) l
 have hcl := groups_len sz (lenR false) l
 have HFm := hid (fun cs k => hl.frm p cs k)
 have hlen := hl.len
 have HSub := hid (fun W (h : Fr w W) i k (h1 : i ≤ k) (h2 : k ≤ l.length) a cap (h3 : v = .slice a l.length cap) => run_mid eR 24 Tryz.underlying24 (by have := hs.fr h; rw [h3] at this; exact this) i k h1 h2)
 have HBy := hid (fun v' (q : List Rec) W (h : See W eR v' q) (h2 : (bytesB false q).length ≤ 6000) (h3 : ∀ r ∈ q, r ∈ l) => RBytes_any false v' q W h (by omega) (fun r hr => hbd r (h3 r hr)))
 have HBW := hid (fun v' q W (h2 : See W eB v' q) (h3 : q.length ≤ 32768) => RBWrite_any p v' q W h2 h3)
 have HFd : Hid (∀ cs k, frmL p l cs k = blockB p (bytesB false ((l.take (cs.take (k + 1)).sum).drop (cs.take k).sum))) := fun cs k => rfl
 obtain ⟨a0, cap, hv, hcap1, hcap2, hnone⟩ := hs.shape
 subst hv
 unfold maxLen at hcap2
 clear hs hl hnone hbd
 generalize groupsL sz (lenR false) l = cs at *
 go_enter Tryz.func44, Tryz.ntmps44
 go_wp2_with fail
 refine (HGr.out _ ((Fr.refl w).alloc _)).mono ?_
 rintro e w1 ⟨v1, rfl, hC1, hf1⟩
 have hO1 := hf1.heap (heap_new w (.cells #[N sz, .bool p, .int .i64 bu, .int .i64 d, .int .i64 q, .int .i64 c] 23) _ rfl)
 have hf01 : Fr w w1 := ((Fr.refl w).alloc _).trans hf1
 have hC := hC1.rebase (b := w.heap.size) (by simp)
 clear hC1 hf1
 obtain ⟨ca, cc, hcv⟩ := hC.shape'
 subst hcv
 obtain ⟨O, hOe⟩ : ∃ O, O = w.heap.size := ⟨_, rfl⟩
 rw [← hOe] at hO1 hC
 have HO := hid hOe
 rw [← hOe]
 clear hOe
 have HSn := hid (sum_snoc cs)
 have HTk := hid (groups_sum_le cs)
 have HCs := hid hcsum
 clear hcsum
 go_wp2_with fail
 go_loopw [7, 8, 9] (fun pv av iv wr => ∃ (k : Nat) (ps : List Hd), k ≤ cs.length ∧ iv = N k ∧ av = N (cs.take k).sum ∧ wr.heap[O]? = some (.cells #[N sz, .bool p, .int .i64 bu, .int .i64 d, .int .i64 q, .int .i64 c] 23 (0, 0)) ∧ Ow wr O eJ (.slice ca cs.length cc) cs ∧ Ow wr O eHB pv ps ∧ Owns wr O eB ps (frTo (frmL p l cs) k) ∧ Fr w wr) (fun _ _ iv _ => cs.length - (intOf iv).toNat)
 case atStart => exact ⟨0, [], Nat.zero_le _, rfl, by simp, hO1, hC, Ow.nil, ⟨rfl, fun t a => by simp at a⟩, hf01⟩
 case round =>
  clear hO1 hC hf01
  obtain ⟨k, ps, hk, rfl, rfl, hO, hC, hP, hR, hf⟩ := hrel
  have hszr : O ≤ wr.heap.size := by have := (Array.getElem?_eq_some_iff.1 hO).1; omega
  by_cases hlt : k < cs.length
  · obtain ⟨b1, off1, cap1, hv1, d1⟩ := numAt hC.see k hlt
    cases hv1
    have hs1 := HTk.out k
    have hs2 := HTk.out (k + 1)
    have hss := HCs.out
    have hsn := HSn.out k hlt
    have HFk := hid (HFm.out cs k)
    have HFe := hid (HFd.out cs k)
    have HFs := hid (frTo_succ (frmL p l cs) k)
    generalize hm2 : (cs.take (k + 1)).sum = m2 at *
    have HM2 := hid hm2
    clear hm2
    generalize (cs.take k).sum = m at *
    generalize hx : cs[k] = x at *
    have HX := hid hx
    clear hx
    have hm2l : m2 ≤ l.length := by omega
    have HMx : Hid (m2 = m + x) := hsn
    obtain ⟨sa, sc, hmid, hsub⟩ := HSub.out wr hf m m2 (by omega) hm2l _ _ rfl
    have hm2c : ((m2 : Nat) : Int) = (m : Int) + x := by omega
    rw [hm2c] at hmid
    generalize hsu : (l.take m2).drop m = su at *
    have HSu := hid (show ∀ r ∈ su, r ∈ l from fun r hr => by rw [← hsu] at hr; exact List.mem_of_mem_take (List.mem_of_mem_drop hr))
    clear hsu hsn hm2c hs1 hs2 hss
    have hxe : m2 - m = x := by have := HMx.out; omega
    rw [hxe] at hmid hsub
    clear hxe
    have HB1 := hid (HBy.out _ su (wr.drew) hsub.drew HFk.out.1 HSu.out)
    generalize hby : bytesB false su = by_ at *
    have HWr := hid (fun W v' (h2 : See W eB v' by_) => HBW.out v' by_ W h2 (by have := HFk.out.1; omega))
    rw [← HFe.out] at HWr
    have hfl : (frmL p l cs k).length ≤ 6025 := HFk.out.2
    generalize hfe : frmL p l cs k = fk at *
    have HFk2 := hid hfe
    clear hfe hby
    have i1 : (0 : Int) ≤ k := by omega
    have i2 : (k : Int) < cs.length := by omega
    have i3 : (0 : Int) ≤ m := by omega
    have i4 : IntKind.i64.wrap ((m : Int) + x) = (m : Int) + x := IntWalk.i64_in _ (by have := HMx.out; omega)
    have x0 : wr.cell? ⟨O, 1, none⟩ = some (.bool p) := by rw [cell_of_heap hO]; rfl
    obtain ⟨pva, pvc, hpv⟩ := hP.shape'
    subst hpv
    have hpsl : ps.length ≤ 60 := by have := hR.1; simp only [frTo, List.length_map, List.length_range] at this; omega
    go_upto_region 7 with fail
    go_region_held3 (fun w' => w'.cell? ⟨O, 1, none⟩ = some (.bool p) ∧ w'.cell? ⟨b1, off1 + k, none⟩ = some (N x))
     (first | go_keep)
     ((first
      | (go_at_call 81; refine HB1.out.mono ?_; rintro e w5 ⟨v5, rfl, hO5, hf5⟩; obtain ⟨p5, z5, hq5⟩ := hO5.shape'; subst hq5; have y0 := hf5.cell x0; have y1 := hf5.cell d1)
      | (go_at_call 80; refine (HWr.out _ _ hO5.see).mono ?_; rintro e w6 ⟨v6, rfl, hO6, hf6⟩; obtain ⟨p6, z6, hq6⟩ := hO6.shape'; subst hq6; have u0 := hf6.cell y0; have u1 := hf6.cell y1)))
    have hfr6 : Fr wr w6 := (Fr.refl wr).drew.trans (hf5.trans hf6)
    have hO7 := hfr6.heap hO
    have hC7 := hC.fr hfr6
    have hP7 := hP.fr hfr6
    have hR7 := hR.fr hfr6
    have hf7 := hf.trans hfr6
    have hF7 := hO6.rebase (b := O) (Nat.le_trans hszr ((Fr.refl wr).drew.trans hf5).size)
    have hsz6 : O ≤ w6.heap.size := Nat.le_trans hszr hfr6.size
    clear hO hC hP hR hf hO5 hO6 hf5 hf6 x0 y0 y1 u0 u1 hmid hsub d1 hfr6 HWr HB1
    go_wp2_with (at_builtin; refine wpList_app1 eHB rfl (.tmp 38) (.tmp 40) 58 rfl Tryz.underlying58 O rfl hP7 [⟨p6, fk.length, z6⟩] _ _ _ rfl rfl rfl ?c1 hsz6 ?_)
    case c1 => first | omega | (simp; omega)
    intro v8 w8 hap8
    have hO8 := hap8.chg'.heap hO7 (hP7.ne_cells hO7 (by decide))
    have hC8 := own_app hC7 hP7 hap8 (by decide)
    have hF8 := own_app hF7 hP7 hap8 (by decide)
    have hR8 : Owns w8 O eB ps (frTo (frmL p l cs) k) := ⟨hR7.1, fun t h1 h2 => own_app (hR7.2 t h1 h2) hP7 hap8 (by decide)⟩
    have hf8 : Fr w w8 := hap8.below hP7 hf7 (by rw [HO.out]; exact Nat.le_refl _) hf7.size
    have hP8 := hap8.own
    obtain ⟨b2, off2, cap2, hv2, d2⟩ := numAt hC8.see k hlt
    cases hv2
    have d3 : w8.cell? ⟨b1, off1 + k, none⟩ = some (N x) := by rw [← HX.out]; exact d2
    clear hO7 hC7 hP7 hR7 hf7 hF7 hap8 d2
    go_wp2_with fail
    go_roundw
    case rel =>
     have r6 : Owns w8 O eB (ps ++ [(⟨p6, fk.length, z6⟩ : Hd)]) (frTo (frmL p l cs) (k + 1)) := by
      rw [HFs.out]
      refine owns_append hR8 ⟨rfl, fun t a b => ?_⟩
      match t, a with
      | 0, _ => exact hF8
     exact ⟨k + 1, ps ++ [(⟨p6, fk.length, z6⟩ : Hd)], by omega, by go_num, by rw [HM2.out, HMx.out]; go_num, hO8, hC8, hP8, r6, hf8⟩
    case measure => simp [intOf]; omega
  · obtain rfl : k = cs.length := by omega
    have hnl : ¬ (cs.length : Int) < cs.length := by omega
    go_wp2_with fail
    go_ret2
    exact ⟨_, _, rfl, ⟨ps, hR.sees2 hP.see⟩, hC.see, hf⟩
set_option maxRecDepth 512
set_option maxRecDepth 100000
theorem RJoin_any (fv cv uv xv : Value) (ps : List Hd) (cs : List Nat) (fr : Nat → List UInt8) (co ix : List UInt8) (w : World) (hf0 : Sees2 w eHB eB fv ps (frTo fr cs.length)) (hc0 : See w eJ cv cs) (hu0 : See w eB uv co) (hx0 : See w eB xv ix)
  (hsum : cs.sum ≤ 60) (hlen : cs.length ≤ 60) (hfr : ∀ k, (fr k).length ≤ 6025) (hcl : co.length ≤ 1300) (hxl : ix.length ≤ 623520) :
  Calls Tryz.prog 47 #[N cs.sum, fv, cv, uv, xv] w fun e w' => ∃ u, e = .returned u ∧ Ow w' w.heap.size eB u (joinL cs fr (putB co) (putB ix)) ∧ Fr w w' := by
 have HT : Hid (joinL cs fr (putB co) (putB ix) = (frTo fr cs.length).flatten ++ putB co ++ putB ix ++ putB (dirL cs fr (putB co).length (putB ix).length) ++ fixB 4 (putB (dirL cs fr (putB co).length (putB ix).length)).length) := rfl
 have HD : Hid (dirL cs fr (putB co).length (putB ix).length = (((numB cs.sum ++ numB cs.length) ++ prTo cs fr cs.length) ++ numB (putB co).length) ++ numB (putB ix).length) := rfl
 have hFT := frTo_len fr 6025 hfr
 have hcx : ∀ x ∈ cs, x < 1000000 := fun x hx => by
  obtain ⟨i, hi, rfl⟩ := List.mem_iff_getElem.1 hx
  have h1 := groups_sum_le cs (i + 1)
  rw [sum_snoc cs i hi] at h1
  omega
 have hPl := prTo_len cs fr 6025 (by omega) hfr hcx
 have hPS := prTo_succ cs fr
 have HCx := hid hcx
 have HPl := hid hPl
 have HPS := hid hPS
 have HFS := hid (frTo_succ fr)
 have HFT := hid hFT
 have HFr := hid hfr
 clear hcx hPl hPS hFT hfr
 have HCn := hid (fun W (h : Fr w W) k hk => numAt (hc0.fr h) k hk)
 have hfl : ps.length = cs.length := by rw [hf0.2.1]; simp [frTo]
 have HFn := hid (fun W (h : Fr w W) k (hk : k < ps.length) => (hf0.fr h).1.cell1 (fun (h : Hd) => h.v) rfl k hk)
 have HFk := hid (fun W (h : Fr w W) k (hk : k < ps.length) => (show See W eB ps[k].v (fr k) from by
  have h1 := (hf0.fr h).2.2 k hk (by simp [frTo]; omega)
  simpa [frTo] using h1))
 have HPu := hid (fun W (h : Fr w W) => RPut_any uv co W (hu0.fr h) (by omega))
 have HPx := hid (fun W (h : Fr w W) => RPut_any xv ix W (hx0.fr h) (by omega))
 have HPd := hid (fun v q W (h2 : See W eB v q) (h3 : q.length ≤ 1000000) => RPut_any v q W h2 h3)
 have HNm := hid (fun n (h : n < 18446744073709551616) W => RNum_any n h W)
 obtain ⟨ca, cc, hcv, _⟩ := hc0.shape
 obtain ⟨fa, fc, hfv, _⟩ := hf0.1.shape
 obtain ⟨ua, uc, huv, _⟩ := hu0.shape
 obtain ⟨xa, xc, hxv, _⟩ := hx0.shape
 subst hcv hfv huv hxv
 have HFL := hid hfl
 rw [hfl]
 clear hc0 hf0 hu0 hx0
 clear hfl
 have hpl := putB_len co
 have hpx := putB_len ix
 generalize joinL cs fr (putB co) (putB ix) = T at *
 generalize putB co = CO at *
 generalize putB ix = IX at *
 have hCO : CO.length ≤ 1304 := by omega
 have hIX : IX.length ≤ 623524 := by omega
 clear hpl hpx
 generalize dirL cs fr CO.length IX.length = DI at *
 have HN1 := hid (HNm.out cs.sum (by omega))
 have HN2 := hid (HNm.out cs.length (by omega))
 have hn1 := numB_le cs.sum (by omega)
 have hn2 := numB_le cs.length (by omega)
 have hw1 : IntKind.u64.wrap ((cs.sum : Nat) : Int) = (cs.sum : Int) := IntWalk.u64_in _ (by omega)
 have hw2 : IntKind.u64.wrap ((cs.length : Nat) : Int) = (cs.length : Int) := IntWalk.u64_in _ (by omega)
 go_enter Tryz.func47, Tryz.ntmps47
 go_wp2_with fail
 refine (HN1.out _).mono ?_
 rintro e w1 ⟨v1, rfl, hO1, hf1⟩
 obtain ⟨p1, z1, hq1⟩ := hO1.shape'
 subst hq1
 go_wp2_with fail
 refine (HN2.out _).mono ?_
 rintro e w2 ⟨v2, rfl, hO2, hf2⟩
 have hO1b := hO1.fr hf2
 have hf02 := hf1.trans hf2
 go_wp2_with (at_builtin; refine wpList_app eB rfl (.tmp 21) (.tmp 25) 31 rfl Tryz.underlying31 _ rfl hO1b _ _ rfl hO2.see ?c1 hf02.size ?_)
 case c1 => omega
 intro v3 w3 hap3
 have hD3 := hap3.own
 have hf03 : Fr w w3 := hap3.below hO1b hf02 (Nat.le_refl _) hf02.size
 clear hO1 hO1b hO2 hap3 hf1 hf2 hf02 HN1 HN2
 have hm0 : (numB cs.sum ++ numB cs.length).length ≤ 20 := by rw [List.length_append]; omega
 generalize numB cs.sum ++ numB cs.length = m0 at *
 go_wp2_with fail
 go_loopw [11, 12, 13] (fun ov dv iv wr => ∃ k : Nat, k ≤ cs.length ∧ iv = N k ∧ Ow wr w.heap.size eB dv (m0 ++ prTo cs fr k) ∧ Ow wr w.heap.size eB ov (frTo fr k).flatten ∧ (ov.ownBlock = none ∨ ov.ownBlock ≠ dv.ownBlock) ∧ Fr w wr) (fun _ _ iv _ => cs.length - (intOf iv).toNat)
 case atStart => exact ⟨0, Nat.zero_le _, rfl, by simpa [prTo] using hD3, by simpa [frTo] using Ow.nil, .inl rfl, hf03⟩
 case round =>
  clear hD3 hf03
  obtain ⟨k, hk, rfl, hD, hO, hne, hf⟩ := hrel
  have hpk := HPl.out k
  have hfk := HFT.out k
  have hkl : k * 20 ≤ 60 * 20 := Nat.mul_le_mul_right _ (by omega)
  have hkl2 : k * 6025 ≤ 60 * 6025 := Nat.mul_le_mul_right _ (by omega)
  by_cases hlt : k < cs.length
  · have hltp : k < ps.length := by rw [HFL.out]; exact hlt
    obtain ⟨b1, off1, cap1, hv1, d1⟩ := HCn.out wr hf k hlt
    cases hv1
    have HCd := hid (fun W (h : Fr w W) => HFn.out W h k hltp)
    have HSk := hid (fun W (h : Fr w W) => HFk.out W h k hltp)
    have hxk := HCx.out _ (List.getElem_mem hlt)
    have hyk := HFr.out k
    have HPs := hid (HPS.out k hlt)
    have HFs := hid (HFS.out k)
    generalize hdk : m0 ++ prTo cs fr k = dk at *
    have hdl : dk.length ≤ 1220 := by rw [← hdk, List.length_append]; omega
    have HDk := hid hdk
    clear hdk
    generalize hok : (frTo fr k).flatten = ok at *
    have HOk := hid hok
    clear hok
    generalize cs[k] = x at *
    generalize hpsk : ps[k] = h at *
    clear hpsk
    generalize hfrk : fr k = y at *
    have HY := hid hfrk
    clear hfrk
    obtain ⟨ha, hn, hc⟩ := h
    have hny : hn = y.length := by
     obtain ⟨a2, c2, hh, _⟩ := (HSk.out wr hf).shape
     simp only [Hd.v, Value.slice.injEq] at hh
     exact hh.2.1
    subst hny
    simp only [Hd.v] at HCd HSk
    have HN1 := hid (HNm.out x (by omega))
    have HN2 := hid (HNm.out y.length (by omega))
    have hn3 := numB_le x (by omega)
    have hn4 := numB_le y.length (by omega)
    have hw3 : IntKind.u64.wrap (x : Int) = (x : Int) := IntWalk.u64_in _ (by omega)
    have hw4 : IntKind.u64.wrap (y.length : Int) = (y.length : Int) := IntWalk.u64_in _ (by omega)
    have i1 : (0 : Int) ≤ k := by omega
    have i2 : (k : Int) < cs.length := by omega
    obtain ⟨da, dc, hdv⟩ := hD.shape'
    subst hdv
    obtain ⟨oa, oc, hov⟩ := hO.shape'
    subst hov
    go_wp2_with fail
    refine (HN1.out _).mono ?_
    rintro e w4 ⟨v4, rfl, hO4, hf4⟩
    have hD4 := hD.fr hf4
    have hOo4 := hO.fr hf4
    have hf04 := hf.trans hf4
    clear hD hO d1
    go_wp2_with (at_builtin; refine wpList_app eB rfl (.tmp 33) (.tmp 39) 31 rfl Tryz.underlying31 _ rfl hD4 _ _ rfl hO4.see ?c1 hf04.size ?_)
    case c1 => omega
    intro v5 w5 hap5
    have hD5 := hap5.own
    have hOo5 := hap5.other hOo4 hne
    have hne5 := hap5.apart hOo4 hne
    have hf05 : Fr w w5 := hap5.below hD4 hf04 (Nat.le_refl _) hf04.size
    obtain ⟨b2, off2, cap2, hv2, e2⟩ := HCd.out w5 hf05
    rw [HFL.out] at hv2
    cases hv2
    obtain ⟨d5, hd5⟩ : ∃ q, q = dk ++ numB x := ⟨_, rfl⟩
    rw [← hd5] at hD5
    have hdl5 : d5.length ≤ 1230 := by rw [hd5, List.length_append]; omega
    have HD5 := hid hd5
    clear hd5
    obtain ⟨da5, dc5, hdv5⟩ := hD5.shape'
    subst hdv5
    clear hD4 hOo4 hf04 hO4 hap5 hf4 hne hf
    go_wp2_with fail
    refine (HN2.out _).mono ?_
    rintro e w6 ⟨v6, rfl, hO6, hf6⟩
    have hD6 := hD5.fr hf6
    have hOo6 := hOo5.fr hf6
    have hf06 := hf05.trans hf6
    clear hD5 hOo5 e2
    go_wp2_with (at_builtin; refine wpList_app eB rfl (.tmp 41) (.tmp 48) 31 rfl Tryz.underlying31 _ rfl hD6 _ _ rfl hO6.see ?c1 hf06.size ?_)
    case c1 => omega
    intro v7 w7 hap7
    have hD7 := hap7.own
    have hOo7 := hap7.other hOo6 hne5
    have hne7 := hap7.apart hOo6 hne5
    have hf07 : Fr w w7 := hap7.below hD6 hf06 (Nat.le_refl _) hf06.size
    obtain ⟨b3, off3, cap3, hv3, e3⟩ := HCd.out w7 hf07
    rw [HFL.out] at hv3
    cases hv3
    have hsy := HSk.out w7 hf07
    obtain ⟨d7, hd7⟩ : ∃ q, q = d5 ++ numB y.length := ⟨_, rfl⟩
    rw [← hd7] at hD7
    have HD7 := hid hd7
    clear hd7
    obtain ⟨da7, dc7, hdv7⟩ := hD7.shape'
    subst hdv7
    clear hD6 hOo6 hf06 hO6 hap7 hf6 hne5 hf05
    go_wp2_with (at_builtin; refine wpList_app eB rfl (.tmp 50) (.tmp 54) 31 rfl Tryz.underlying31 _ rfl hOo7 _ _ rfl hsy ?c1 hf07.size ?_)
    case c1 => omega
    intro v8 w8 hap8
    have hO8 := hap8.own
    have hD8 := hap8.other hD7 (ne_flip hne7)
    have hne8 := hap8.apart hD7 (ne_flip hne7)
    have hf08 : Fr w w8 := hap8.below hOo7 hf07 (Nat.le_refl _) hf07.size
    clear e3 hOo7 hD7 hsy
    go_wp2_with fail
    go_roundw
    case rel =>
     refine ⟨k + 1, by omega, by go_num, ?_, ?_, ne_flip hne8, hf08⟩
     · have e1 : m0 ++ prTo cs fr (k + 1) = d7 := by rw [HPs.out, ← List.append_assoc, ← List.append_assoc, HDk.out, ← HD5.out, ← HD7.out]
       rw [e1]; exact hD8
     · have e1 : (frTo fr (k + 1)).flatten = ok ++ y := by rw [HFs.out, List.flatten_append, HOk.out]; simp
       rw [e1]; exact hO8
    case measure => simp [intOf]; omega
  · obtain rfl : k = cs.length := by omega
    have hnl : ¬ (cs.length : Int) < cs.length := by omega
    generalize hdk : m0 ++ prTo cs fr cs.length = dk at *
    have hdl : dk.length ≤ 1220 := by rw [← hdk, List.length_append]; omega
    clear hdk
    generalize (frTo fr cs.length).flatten = ok at *
    have HN1 := hid (HNm.out CO.length (by omega))
    have HN2 := hid (HNm.out IX.length (by omega))
    have hn3 := numB_le CO.length (by omega)
    have hn4 := numB_le IX.length (by omega)
    have hw3 : IntKind.u64.wrap (CO.length : Int) = (CO.length : Int) := IntWalk.u64_in _ (by omega)
    have hw4 : IntKind.u64.wrap (IX.length : Int) = (IX.length : Int) := IntWalk.u64_in _ (by omega)
    obtain ⟨da, dc, hdv⟩ := hD.shape'
    subst hdv
    obtain ⟨oa, oc, hov⟩ := hO.shape'
    subst hov
    go_wp2_with fail
    refine (HPu.out _ hf).mono ?_
    rintro e w2 ⟨v2, rfl, hU2, hf2⟩
    have neUD := apart_of hD hU2 (Nat.le_refl _)
    have neUO := apart_of hO hU2 (Nat.le_refl _)
    obtain ⟨p2, z2, hq2⟩ := hU2.shape'
    subst hq2
    have hf02 := hf.trans hf2
    have hD2 := hD.fr hf2
    have hO2 := hO.fr hf2
    clear hD hO
    go_wp2_with fail
    refine (HPx.out _ hf02).mono ?_
    rintro e w3 ⟨v3, rfl, hX3, hf3⟩
    have neXD := apart_of hD2 hX3 (Nat.le_refl _)
    have neXO := apart_of hO2 hX3 (Nat.le_refl _)
    obtain ⟨p3, z3, hq3⟩ := hX3.shape'
    subst hq3
    have hf03 := hf02.trans hf3
    have hD3 := hD2.fr hf3
    have hO3 := hO2.fr hf3
    have hU3 := hU2.fr hf3
    clear hD2 hO2 hU2 hf2 hf02
    go_wp2_with fail
    refine (HN1.out _).mono ?_
    rintro e w4 ⟨v4, rfl, hA4, hf4⟩
    have hf04 := hf03.trans hf4
    have hD4 := hD3.fr hf4
    have hO4 := hO3.fr hf4
    have hU4 := hU3.fr hf4
    have hX4 := hX3.fr hf4
    clear hD3 hO3 hU3 hX3 hf3 hf03
    go_wp2_with (at_builtin; refine wpList_app eB rfl (.tmp 60) (.tmp 64) 31 rfl Tryz.underlying31 _ rfl hD4 _ _ rfl hA4.see ?c1 hf04.size ?_)
    case c1 => omega
    intro v5 w5 hap5
    have hD5 := hap5.own
    have hO5 := hap5.other hO4 hne
    have hU5 := hap5.other hU4 neUD
    have hX5 := hap5.other hX4 neXD
    have ne5 := hap5.apart hO4 hne
    have neUD5 := hap5.apart hU4 neUD
    have neXD5 := hap5.apart hX4 neXD
    have hf05 : Fr w w5 := hap5.below hD4 hf04 (Nat.le_refl _) hf04.size
    obtain ⟨d5, hd5⟩ : ∃ q, q = dk ++ numB CO.length := ⟨_, rfl⟩
    rw [← hd5] at hD5 HD
    have hdl5 : d5.length ≤ 1230 := by rw [hd5, List.length_append]; omega
    clear hd5
    obtain ⟨da5, dc5, hdv5⟩ := hD5.shape'
    subst hdv5
    clear hD4 hO4 hU4 hX4 hf4 hf04 hA4 hap5 hne neUD neXD
    go_wp2_with fail
    refine (HN2.out _).mono ?_
    rintro e w6 ⟨v6, rfl, hA6, hf6⟩
    have hf06 := hf05.trans hf6
    have hD6 := hD5.fr hf6
    have hO6 := hO5.fr hf6
    have hU6 := hU5.fr hf6
    have hX6 := hX5.fr hf6
    clear hD5 hO5 hU5 hX5 hf05
    go_wp2_with (at_builtin; refine wpList_app eB rfl (.tmp 66) (.tmp 70) 31 rfl Tryz.underlying31 _ rfl hD6 _ _ rfl hA6.see ?c1 hf06.size ?_)
    case c1 => omega
    intro v7 w7 hap7
    have hD7 := hap7.own
    have hO7 := hap7.other hO6 ne5
    have hU7 := hap7.other hU6 neUD5
    have hX7 := hap7.other hX6 neXD5
    have hf07 : Fr w w7 := hap7.below hD6 hf06 (Nat.le_refl _) hf06.size
    rw [← HD.out] at hD7
    have hdl7 : DI.length ≤ 1240 := by rw [HD.out, List.length_append]; omega
    have HP7 := hid (HPd.out v7 DI w7 hD7.see (by omega))
    obtain ⟨da7, dc7, hdv7⟩ := hD7.shape'
    subst hdv7
    clear hD6 hO6 hU6 hX6 hf6 hf06 hA6 hap7 ne5 neUD5 neXD5 hD7
    go_wp2_with fail
    refine HP7.out.mono ?_
    rintro e w8 ⟨v8, rfl, hP8, hf8⟩
    have neP := apart_of hO7 hP8 (Nat.le_refl _)
    have hpdl : (putB DI).length ≤ 1244 := by rw [putB_len]; omega
    generalize hpd : putB DI = PD at *
    clear hpd
    obtain ⟨p8, z8, hq8⟩ := hP8.shape'
    subst hq8
    have hf08 := hf07.trans hf8
    have hO8 := hO7.fr hf8
    have hU8 := hU7.fr hf8
    have hX8 := hX7.fr hf8
    clear hO7 hU7 hX7 hf07 hf8 HP7
    go_wp2_with (at_builtin; refine wpList_app eB rfl (.tmp 73) (.tmp 74) 31 rfl Tryz.underlying31 _ rfl hO8 _ _ rfl hU8.see ?c1 hf08.size ?_)
    case c1 => omega
    intro v9 w9 hap9
    have hO9 := hap9.own
    have hX9 := hap9.other hX8 neXO
    have hP9 := hap9.other hP8 neP
    have neX9 := hap9.apart hX8 neXO
    have neP9 := hap9.apart hP8 neP
    have hf09 : Fr w w9 := hap9.below hO8 hf08 (Nat.le_refl _) hf08.size
    obtain ⟨o9, ho9⟩ : ∃ q, q = ok ++ CO := ⟨_, rfl⟩
    rw [← ho9] at hO9 HT
    have hol9 : o9.length ≤ 370000 := by rw [ho9, List.length_append]; omega
    clear ho9
    obtain ⟨oa9, oc9, hov9⟩ := hO9.shape'
    subst hov9
    clear hO8 hU8 hX8 hP8 hf08 hap9 neXO neP neUO
    go_wp2_with (at_builtin; refine wpList_app eB rfl (.tmp 76) (.tmp 77) 31 rfl Tryz.underlying31 _ rfl hO9 _ _ rfl hX9.see ?c1 hf09.size ?_)
    case c1 => omega
    intro v10 w10 hap10
    have hO10 := hap10.own
    have hP10 := hap10.other hP9 neP9
    have neP10 := hap10.apart hP9 neP9
    have hf010 : Fr w w10 := hap10.below hO9 hf09 (Nat.le_refl _) hf09.size
    obtain ⟨o10, ho10⟩ : ∃ q, q = o9 ++ IX := ⟨_, rfl⟩
    rw [← ho10] at hO10 HT
    have hol10 : o10.length ≤ 1000000 := by rw [ho10, List.length_append]; omega
    clear ho10
    obtain ⟨oa10, oc10, hov10⟩ := hO10.shape'
    subst hov10
    clear hO9 hX9 hP9 hf09 hap10 neX9 neP9
    go_wp2_with (at_builtin; refine wpList_app eB rfl (.tmp 79) (.tmp 80) 31 rfl Tryz.underlying31 _ rfl hO10 _ _ rfl hP10.see ?c1 hf010.size ?_)
    case c1 => omega
    intro v11 w11 hap11
    have hO11 := hap11.own
    have hf011 : Fr w w11 := hap11.below hO10 hf010 (Nat.le_refl _) hf010.size
    obtain ⟨o11, ho11⟩ : ∃ q, q = o10 ++ PD := ⟨_, rfl⟩
    rw [← ho11] at hO11 HT
    have hol11 : o11.length ≤ 1010000 := by rw [ho11, List.length_append]; omega
    clear ho11
    obtain ⟨oa11, oc11, hov11⟩ := hO11.shape'
    subst hov11
    have h256 : PD.length < 256 ^ 4 := by rw [show (256 : Nat) ^ 4 = 4294967296 from by decide]; omega
    have HFi := hid (RFixed_any PD.length 4 (by omega) (by omega) h256 (by omega))
    have hfxl := hid (fixB_len 4 PD.length)
    have hw5 : IntKind.u64.wrap (PD.length : Int) = (PD.length : Int) := IntWalk.u64_in _ (by omega)
    clear hO10 hP10 hf010 hap11 neP10 h256
    generalize fixB 4 PD.length = FX at *
    go_wp2_with fail
    refine (HFi.out _).mono ?_
    rintro e w12 ⟨v12, rfl, hE12, hf12⟩
    have hO12 := hO11.fr hf12
    have hf012 := hf011.trans hf12
    go_wp2_with (at_builtin; refine wpList_app eB rfl (.tmp 89) (.tmp 90) 31 rfl Tryz.underlying31 _ rfl hO12 _ _ rfl hE12.see ?c1 hf012.size ?_)
    case c1 => have := hfxl.out; omega
    intro v13 w13 hap13
    have hO13 := hap13.own
    have hf013 : Fr w w13 := hap13.below hO12 hf012 (Nat.le_refl _) hf012.size
    rw [← HT.out] at hO13
    obtain ⟨oa13, oc13, hov13⟩ := hO13.shape'
    subst hov13
    go_wp2_with fail
    go_ret
    exact ⟨_, rfl, hO13, hf013⟩
set_option maxRecDepth 512
end Go.Proofs.YtmfbmjplmaimbaaGreatDoor
