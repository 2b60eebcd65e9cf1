/- Walks of ask: a span; a leaf. -/
import Derived.Test.YtjepodlalcnecaaDoorW28m
import Derived.WalkSmall
set_option linter.unusedVariables false
namespace Go.Proofs.YtjepodlalcnecaaDoor
open Go.RowKit Go.Fk
/-- the library's greatest length is some number -/
def MaxL (w : World) : Prop := ∃ m, w.cell? ⟨1, 0, none⟩ = some (.int .i64 m)
theorem MaxL.fr {w w' : World} (h : MaxL w) (hf : Fr w w') : MaxL w' := by obtain ⟨m, h⟩ := h; exact ⟨m, hf.cell h⟩
/-- what the library reads -/
def LibT (w : World) : Prop := Pow w ∧ 0 < w.heap.size ∧ Errs w ∧ MaxL w
theorem LibT.fr {w w' : World} (h : LibT w) (hf : Fr w w') : LibT w' :=
  ⟨h.1.fr h.2.1 hf, by have := hf.size; have := h.2.1; omega, h.2.2.1.fr hf, h.2.2.2.fr hf⟩
/-- the reader's block is none of the library's -/
def LibB (B : Nat) : Prop := B ≠ 0 ∧ B ≠ 4 ∧ B ≠ 5 ∧ B ≠ 1
theorem chb_cell {B : Nat} {w w' : World} (h : ChB B w w') {p : Addr} {v : Value} (hp : w.cell? p = some v) (hne : B ≠ p.block) : w'.cell? p = some v := by
  have hb := World.block_lt_of_cell? w p hp
  have := h.block p.block hb (fun e => hne e.symm)
  unfold World.cell? at hp ⊢
  rw [this]; exact hp
theorem LibT.chb {w w' : World} {B : Nat} (h : LibT w) (hl : LibB B) (hc : ChB B w w') : LibT w' := by
  obtain ⟨h1, h2, ⟨⟨t1, p1, h3⟩, t2, p2, h4⟩, m, h5⟩ := h
  obtain ⟨l1, l2, l3, l4⟩ := hl
  refine ⟨?_, by have := hc.size; omega, ⟨⟨t1, p1, chb_cell hc h3 l2⟩, t2, p2, chb_cell hc h4 l3⟩, m, chb_cell hc h5 l4⟩
  have hb := hc.block _ h2 (fun e => l1 e.symm)
  unfold Pow Lib.TabIs World.var? at h1 ⊢
  rw [gPow2] at h1 ⊢
  simp only [Option.bind_some] at h1 ⊢
  rw [hb]; exact h1
theorem index_bef (e : UInt8) : ∀ (l : List UInt8), Lib.indexByte l e = if e ∈ l then ((bef e l).length : Int) else -1 := by
  intro l
  induction l with
  | nil => rfl
  | cons x l ih =>
    rw [Lib.indexByte]
    by_cases h : x = e
    · subst h; simp [bef]
    · have hb : (x == e) = false := by simp [h]
      have hm : e ∈ x :: l ↔ e ∈ l := by simp [Ne.symm h]
      rw [hb, ih]
      by_cases he : e ∈ l
      · rw [if_pos he, if_pos (hm.2 he)]
        have : (((bef e l).length : Int) == -1) = false := by simp
        have hbf : bef e (x :: l) = x :: bef e l := by unfold bef; rw [List.takeWhile_cons, if_pos (by simp [h])]
        rw [this, hbf]; simp
      · rw [if_neg he, if_neg (fun hh => he (hm.1 hh))]; simp
set_option maxRecDepth 100000 in
set_option maxHeartbeats 4000000 in
theorem span_any (op : Int) (e c0 : UInt8) (t : List UInt8) (hne : c0 ≠ e) (B : Nat) (s : List UInt8) (w : World) (hr : RdL w B s (c0 :: t)) (hlen : s.length ≤ 1000000000) (hB : B < w.heap.size) (hT : LibT w) :
    Calls Tryd.prog 76 #[.pointer (some ⟨B, 0, none⟩), .int .i64 op, Fk.u8 e] w (LeafPost w B s (spanP op e (c0 :: t))) := by
  obtain ⟨i, hil, hd, hb⟩ := hr
  obtain ⟨c0', c1, g1⟩ := rd_cells hb
  have i0 : (0 : Int) ≤ i := by omega
  have i1 : (i : Int) + 1 ≤ s.length := by simp at hil; omega
  have xt := extract_from s i s.length (Nat.le_refl _)
  rw [hd] at xt
  have HB := hid hb
  have HD := hid hd
  have HIL := hid hil
  have hIx : ∀ W, Calls Tryd.prog 80 #[S (c0 :: t), Fk.u8 e] W fun x w' => x = .returned (.int .i64 (if e ∈ c0 :: t then ((bef e (c0 :: t)).length : Int) else -1)) ∧ w' = W := by
    intro W
    refine (Tryd.strings_IndexByte ⟨(c0 :: t).toArray⟩ e.toNat W).mono ?_
    rintro x w' ⟨h1, h2⟩
    refine ⟨?_, h2⟩
    rw [h1, ← index_bef]
    congr 3
    simp
  by_cases he : e ∈ c0 :: t
  · simp only [if_pos he] at hIx
    obtain ⟨hba, hbn⟩ := bef_aft e (c0 :: t)
    have hba := hba he
    obtain ⟨inn, hinn⟩ : ∃ inn, bef e (c0 :: t) = c0 :: inn := by
      unfold bef; rw [List.takeWhile_cons, if_pos (by simp [hne])]; exact ⟨_, rfl⟩
    have hSp : spanP op e (c0 :: t) = match (Lib.cut inn [46, 46]).2.2, numL (Lib.cut inn [46, 46]).1, numL (Lib.cut inn [46, 46]).2.1 with
      | true, some a, some b => ([spanS op (UInt64.ofNat a) (UInt64.ofNat b)], aft e (c0 :: t))
      | _, _, _ => ([], c0 :: t) := by
      unfold spanP; rw [if_pos he, hinn]; rfl
    rw [hinn] at hba hIx
    generalize aft e (c0 :: t) = rest at *
    have hd2 : s.drop (i + 1) = inn ++ (e :: rest) := by
      obtain ⟨_, _, h⟩ := drop_at HD.out
      rw [h]; simpa using hba
    have hxi : (⟨s.toArray⟩ : ByteArray).extract (i + 1) (i + (inn.length + 1)) = ⟨inn.toArray⟩ := extract_part s inn (e :: rest) (i + 1) _ hd2 (by omega)
    have hdl := congrArg List.length hd2
    rw [List.length_drop] at hdl
    simp only [List.length_append, List.length_cons] at hdl
    have i2 : (i : Int) + (inn.length + 1) ≤ s.length := by omega
    have hd3 : s.drop (i + (inn.length + 2)) = rest := by
      rw [show i + (inn.length + 2) = (i + 1) + (inn.length + 1) by omega, ← List.drop_drop, hd2, ← List.drop_drop, List.drop_left]; rfl
    have hil3 : i + (inn.length + 2) + rest.length = s.length := by omega
    have hinl : inn.length ≤ 1000000000 := by omega
    have HC : Hid (∀ W, MaxL W → Calls Tryd.prog 81 #[S inn, S [46, 46]] W fun x w' => x = .returned (.tuple #[S (Lib.cut inn [46, 46]).1, S (Lib.cut inn [46, 46]).2.1, .bool (Lib.cut inn [46, 46]).2.2]) ∧ ∃ n, w' = W.drewN n) := by
      rintro W ⟨m, hm⟩
      exact Tryd.strings_Cut ⟨inn.toArray⟩ ⟨#[46, 46]⟩ m W (by simp [ByteArray.size]; omega) hm
    have hcl : (Lib.cut inn [46, 46]).1.length ≤ inn.length ∧ (Lib.cut inn [46, 46]).2.1.length ≤ inn.length := by
      unfold Lib.cut; split
      · simp; omega
      · simp
    have hw1 : IntKind.i64.wrap ((i : Int) + 1) = (i : Int) + 1 := IntWalk.i64_in _ (by omega)
    have hw2 : IntKind.i64.wrap ((i : Int) + ((inn.length : Int) + 1)) = (i : Int) + ((inn.length : Int) + 1) := IntWalk.i64_in _ (by omega)
    have hw3 : IntKind.i64.wrap ((inn.length : Int) + 1 + 1) = (inn.length : Int) + 1 + 1 := IntWalk.i64_in _ (by omega)
    have hw4 : IntKind.i64.wrap ((i : Int) + ((inn.length : Int) + 1 + 1)) = (i : Int) + ((inn.length : Int) + 1 + 1) := IntWalk.i64_in _ (by omega)
    have n1 : ((i : Int) + 1).toNat = i + 1 := by omega
    have n2 : ((i : Int) + ((inn.length : Int) + 1)).toNat = i + (inn.length + 1) := by omega
    have hsl : ∀ W, (Instr.slice 9 (S s) (some (.int .i64 ((i : Int) + 1))) (some (.int .i64 ((i : Int) + ((inn.length : Int) + 1)))) none).run Tryd.prog W = .ok (S inn) W := fun W => by
      rw [run_slice_string W 9 _ _ _ _ _ Tryd.underlying9 (by omega) (by omega) (by simp [ByteArray.size]; omega), n1, n2, hxi]
    clear n1 n2
    have HI := hid hIx
    have HS := hid hSp
    have H3 := hid hd3
    have HI3 := hid hil3
    clear hIx hSp hd hil hb hd2 hdl hd3 hil3 hba hbn hinn he
    generalize (Lib.cut inn [46, 46]).1 = f at *
    generalize (Lib.cut inn [46, 46]).2.1 = u at *
    generalize (Lib.cut inn [46, 46]).2.2 = ok at *
    obtain ⟨hc1, hc2⟩ := hcl
    go_enter Tryd.func76, Tryd.ntmps76
    go_wp2_with fail
    go_quiet ((go_at_call 80; exact Calls.quiet_of_same (HI.out _)))
    have hf1 := (Fr.refl w).drewN nq
    have hb1 := hf1.heap HB.out
    have hT1 := hT.fr hf1
    obtain ⟨d0, d1, g2⟩ := rd_cells hb1
    have HB1 := hid hb1
    have hB1 : B < (w.drewN nq).heap.size := by have := hf1.size; omega
    clear hb1 c0' c1 g1
    generalize w.drewN nq = w1 at *
    go_wp2_with fail
    go_quiet ((go_at_call 81; exact Calls.quiet_of (HC.out _ (hT1.2.2.2.fr ((Fr.refl w1).drewN _)))))
    have hf2 := hf1.trans ((Fr.refl w1).drewN nq)
    have hb2 := ((Fr.refl w1).drewN nq).heap HB1.out
    have hT2 := hT1.fr ((Fr.refl w1).drewN nq)
    have HB2 := hid hb2
    clear hb2 d0 d1 g2 hf1 hT1 HB1 HC
    generalize w1.drewN nq = w2 at *
    go_wp2_with fail
    refine (number_any f _ hT2.1 hT2.2.1 hT2.2.2.1 (by omega)).mono ?_
    rintro x1 w3 ⟨a, rfl, ha, hf3⟩
    have hT3 := hT2.fr hf3
    have hf03 := hf2.trans hf3
    have HB3 := hid (hf3.heap HB2.out)
    go_wp2_with fail
    refine (number_any u _ hT3.1 hT3.2.1 hT3.2.2.1 (by omega)).mono ?_
    rintro x2 w4 ⟨b, rfl, hb, hf4⟩
    have hf04 := hf03.trans hf4
    have HB4 := hid (hf4.heap HB3.out)
    have q1 := numL_lt f
    have q2 := numL_lt u
    cases ok with
    | false =>
      have HN : Hid (spanP op e (c0 :: t) = ([], c0 :: t)) := HS.out
      go_wp2_with fail
      go_ret
      rw [HN.out]
      exact ⟨_, rfl, Own.nil, ⟨i, HIL.out, HD.out, HB4.out⟩, hf04.chg _, fun _ => rfl⟩
    | true =>
    cases hn1 : numL f with
    | none =>
      have HN : Hid (spanP op e (c0 :: t) = ([], c0 :: t)) := by show _ = _; rw [HS.out, hn1]
      clear hn1 ha hb q1 q2
      go_wp2_with fail
      go_ret
      rw [HN.out]
      exact ⟨_, rfl, Own.nil, ⟨i, HIL.out, HD.out, HB4.out⟩, hf04.chg _, fun _ => rfl⟩
    | some a' =>
    cases hn2 : numL u with
    | none =>
      have HN : Hid (spanP op e (c0 :: t) = ([], c0 :: t)) := by show _ = _; rw [HS.out, hn1, hn2]
      clear hn1 hn2 ha hb q1 q2
      go_wp2_with fail
      go_ret
      rw [HN.out]
      exact ⟨_, rfl, Own.nil, ⟨i, HIL.out, HD.out, HB4.out⟩, hf04.chg _, fun _ => rfl⟩
    | some b' =>
      have HN : Hid (spanP op e (c0 :: t) = ([spanS op (UInt64.ofNat a') (UInt64.ofNat b')], rest)) := by show _ = _; rw [HS.out, hn1, hn2]
      obtain rfl := ha a' hn1
      obtain rfl := hb b' hn2
      have q3 : (UInt64.ofNat a').toNat = a' := by have := q1 a' hn1; rw [UInt64.toNat_ofNat']; omega
      have q4 : (UInt64.ofNat b').toNat = b' := by have := q2 b' hn2; rw [UInt64.toNat_ofNat']; omega
      obtain ⟨hs1, hs2⟩ := rd_set HB4.out ((i : Int) + ((inn.length : Int) + 1 + 1))
      have hsz : w.heap.size ≤ (w4.setCell ⟨B, 1, none⟩ (.int .i64 ((i : Int) + ((inn.length : Int) + 1 + 1)))).heap.size := by have := hf04.size; simp [World.setCell]; omega
      have hown := own_lit eT (w4.setCell ⟨B, 1, none⟩ (.int .i64 ((i : Int) + ((inn.length : Int) + 1 + 1)))) #[.int .i64 op, .int .i64 0, .string ⟨#[]⟩, .int .u64 a', .int .u64 b'] [spanS op (UInt64.ofNat a') (UInt64.ofNat b')] 1 rfl (by simp [maxLen]) hsz (by show _ = stpCells _ ++ []; unfold stpCells spanS; simp only [q3, q4, List.append_nil])
      have hz : (w4.setCell ⟨B, 1, none⟩ (.int .i64 ((i : Int) + ((inn.length : Int) + 1 + 1)))).heap.size = w4.heap.size := by simp [World.setCell]
      rw [hz] at hown
      have hlast := hid hown
      have hrd : RdL (w4.setCell ⟨B, 1, none⟩ (.int .i64 ((i : Int) + ((inn.length : Int) + 1 + 1)))) B s rest := ⟨i + (inn.length + 2), HI3.out, H3.out, by rw [hs1]; congr 5⟩
      have HR := hid hrd
      have HC2 := hid (((hf04.chg _).trans hs2 (fun _ _ h => h) : ChB B w _))
      obtain ⟨d0, d1, g2⟩ := rd_cells HB4.out
      clear hn1 hn2 ha hb q1 q2 q3 q4 hs1 hs2 hsz hown hrd hz
      go_wp2_with fail
      go_ret
      rw [HN.out]
      exact ⟨_, rfl, hlast.out, HR.out.fr ((Fr.refl _).alloc _), ChB.fr HC2.out ((Fr.refl _).alloc _), fun h => by cases h⟩
  · simp only [if_neg he] at hIx
    have HS : Hid (spanP op e (c0 :: t) = ([], c0 :: t)) := by show _ = _; unfold spanP; rw [if_neg he]
    have HI := hid hIx
    clear hIx he hd hil hb
    go_enter Tryd.func76, Tryd.ntmps76
    go_wp2_with fail
    go_quiet ((go_at_call 80; exact Calls.quiet_of_same (HI.out _)))
    go_wp2_with fail
    go_ret
    rw [HS.out]
    exact ⟨_, rfl, Own.nil, RdL.fr ⟨i, HIL.out, HD.out, HB.out⟩ ((Fr.refl w).drewN _), ((Fr.refl w).drewN _).chg _, fun _ => rfl⟩
/-- a panic at some place of the text -/
def Gave (s : List UInt8) (e : Ending) : Prop := ∃ k : Nat, k ≤ s.length ∧ e = .panicked [{ v := .iface 67 (.int .i64 (k : Int)), recovered := false }]
/-- what a part's reader leaves -/
def PartPost (w : World) (B : Nat) (s : List UInt8) (x : Rd) (e : Ending) (w' : World) : Prop :=
  match x with
  | .ok (q, l) => ∃ v, e = .returned v ∧ Own w' w.heap.size eT v q ∧ RdS w' B s l ∧ ChB B w w'
  | .error _ => Gave s e ∧ ChB B w w' ∧ w.heap.size ≤ w'.heap.size
theorem ne_b28 (c : UInt8) (n : Nat) (hn : n < 256) (h : ¬ c = UInt8.ofNat n) : ((c.toNat : Int) == n) = false := by
  simp; intro e; apply h; apply UInt8.toNat_inj.1; rw [UInt8.toNat_ofNat']; omega
theorem sgn_head (l : List UInt8) : (skipB l).head? = some (sgn l) ∨ (skipB l = [] ∧ sgn l = 0) := by
  unfold sgn
  cases skipB l with
  | nil => exact .inr ⟨rfl, rfl⟩
  | cons c r => exact .inl rfl
set_option maxRecDepth 100000 in
set_option maxHeartbeats 4000000 in
theorem leaf_rd (B : Nat) (s l : List UInt8) (w : World) (hr : RdS w B s l) (hlen : s.length ≤ 1000000000) (hB : B < w.heap.size) (hT : LibT w) (hL : LibB B) :
    Calls Tryd.prog 70 #[.pointer (some ⟨B, 0, none⟩)] w (PartPost w B s (leafP l)) := by
  have C := signS_any B s l w hr hlen
  have hx : ∀ W, RdL W B s (skipB l) → B < W.heap.size → LibT W → (sgn l = 91 → Calls Tryd.prog 76 #[.pointer (some ⟨B, 0, none⟩), .int .i64 3, Fk.u8 93] W (LeafPost W B s (leafQ (skipB l)))) ∧ (sgn l = 60 → Calls Tryd.prog 76 #[.pointer (some ⟨B, 0, none⟩), .int .i64 4, Fk.u8 62] W (LeafPost W B s (leafQ (skipB l)))) ∧ (sgn l ≠ 91 → sgn l ≠ 60 → Calls Tryd.prog 77 #[.pointer (some ⟨B, 0, none⟩)] W (LeafPost W B s (leafQ (skipB l)))) := by
    intro W h1 h2 h3
    refine ⟨fun h => ?_, fun h => ?_, fun h h' => ?_⟩
    · rcases sgn_head l with hh | ⟨_, h0⟩
      · rw [h] at hh
        have : leafQ (skipB l) = spanP 3 93 (skipB l) := by unfold leafQ; rw [if_pos hh]
        rw [this]
        cases hs : skipB l with
        | nil => rw [hs] at hh; cases hh
        | cons c t => rw [hs] at hh h1; simp at hh; subst hh; exact span_any 3 93 91 t (by decide) B s W h1 hlen h2 h3
      · rw [h0] at h; cases h
    · rcases sgn_head l with hh | ⟨_, h0⟩
      · rw [h] at hh
        have : leafQ (skipB l) = spanP 4 62 (skipB l) := by unfold leafQ; rw [if_neg (by rw [hh]; decide), if_pos hh]
        rw [this]
        cases hs : skipB l with
        | nil => rw [hs] at hh; cases hh
        | cons c t => rw [hs] at hh h1; simp at hh; subst hh; exact span_any 4 62 60 t (by decide) B s W h1 hlen h2 h3
      · rw [h0] at h; cases h
    · have : leafQ (skipB l) = wordP (skipB l) := by
        unfold leafQ
        rcases sgn_head l with hh | ⟨hh, _⟩
        · rw [hh, if_neg (by simpa using h), if_neg (by simpa using h')]
        · rw [hh]; rfl
      rw [this]
      exact word_any B s (skipB l) W h1 hlen h2
  have hP : leafP l = if (leafQ (skipB l)).1 = [] then .error (skipB l).length else .ok (leafQ (skipB l)) := rfl
  generalize leafQ (skipB l) = x at *
  have HC := hid C
  have HX := hid hx
  have HP := hid hP
  clear C hx hP
  go_enter Tryd.func70, Tryd.ntmps70
  go_wp2_with fail
  refine HC.out.mono ?_
  rintro e w1 ⟨rfl, hrd, hc1⟩
  have hs1 := hc1.size
  have hT1 : LibT w1 := hT.chb hL hc1
  obtain ⟨h91, h60, how⟩ := HX.out w1 hrd (by omega) hT1
  obtain ⟨i, hil, hd, hb⟩ := hrd
  obtain ⟨c0, c1, g1⟩ := rd_cells hb
  have i0 : (0 : Int) ≤ i := by omega
  have HI := hid hil
  have HC1 := hid hc1
  clear hil hd hb hc1 hT1 hT hL
  by_cases k91 : sgn l = 91
  · have hZ := h91 k91
    rw [k91]
    clear k91
    have HZ := hid (hZ)
    clear h91 h60 how
    go_wp2_with fail
    refine HZ.out.mono ?_
    rintro e w2 ⟨v, rfl, hown, hrd2, hc2, hn⟩
    by_cases hx0 : x.1 = []
    · have hv := hn hx0
      subst hv
      have hP2 : Hid (leafP l = .error (skipB l).length) := by show _ = _; rw [HP.out, if_pos hx0]
      have heq := fun W => Lib.run_eql_slice_nil (P := Tryd.prog) W 22 34 none 0 0 0 0 Tryd.underlying22
      have hsz := hc2.size
      clear hx0 hn
      go_wp2_with fail
      refine ⟨rfl, ?_⟩
      rw [hP2.out]
      exact ⟨⟨i, by have := HI.out; omega, rfl⟩, HC1.out.trans hc2, by omega⟩
    · obtain ⟨g, cap, hv, _⟩ := hown.atHead hx0
      subst hv
      have hP2 : Hid (leafP l = .ok x) := by show _ = _; rw [HP.out, if_neg hx0]
      have heq := fun W => Lib.run_eql_slice_nil (P := Tryd.prog) W 22 34 (some ⟨g, 0, none⟩) x.1.length cap 0 0 Tryd.underlying22
      clear hx0 hn
      go_wp2_with fail
      go_ret
      rw [hP2.out]
      exact ⟨_, rfl, hown.rebase hs1, hrd2.rds, HC1.out.trans hc2⟩
  by_cases k60 : sgn l = 60
  · have hZ := h60 k60
    rw [k60]
    clear k60 k91
    have HZ := hid (hZ)
    clear h91 h60 how
    go_wp2_with fail
    refine HZ.out.mono ?_
    rintro e w2 ⟨v, rfl, hown, hrd2, hc2, hn⟩
    by_cases hx0 : x.1 = []
    · have hv := hn hx0
      subst hv
      have hP2 : Hid (leafP l = .error (skipB l).length) := by show _ = _; rw [HP.out, if_pos hx0]
      have heq := fun W => Lib.run_eql_slice_nil (P := Tryd.prog) W 22 34 none 0 0 0 0 Tryd.underlying22
      have hsz := hc2.size
      clear hx0 hn
      go_wp2_with fail
      refine ⟨rfl, ?_⟩
      rw [hP2.out]
      exact ⟨⟨i, by have := HI.out; omega, rfl⟩, HC1.out.trans hc2, by omega⟩
    · obtain ⟨g, cap, hv, _⟩ := hown.atHead hx0
      subst hv
      have hP2 : Hid (leafP l = .ok x) := by show _ = _; rw [HP.out, if_neg hx0]
      have heq := fun W => Lib.run_eql_slice_nil (P := Tryd.prog) W 22 34 (some ⟨g, 0, none⟩) x.1.length cap 0 0 Tryd.underlying22
      clear hx0 hn
      go_wp2_with fail
      go_ret
      rw [hP2.out]
      exact ⟨_, rfl, hown.rebase hs1, hrd2.rds, HC1.out.trans hc2⟩
  · have hZ := how k91 k60
    have b91 := ne_b28 (sgn l) 91 (by omega) k91
    have b60 := ne_b28 (sgn l) 60 (by omega) k60
    clear k91 k60
    have HZ := hid (hZ)
    clear h91 h60 how
    go_wp2_with fail
    refine HZ.out.mono ?_
    rintro e w2 ⟨v, rfl, hown, hrd2, hc2, hn⟩
    by_cases hx0 : x.1 = []
    · have hv := hn hx0
      subst hv
      have hP2 : Hid (leafP l = .error (skipB l).length) := by show _ = _; rw [HP.out, if_pos hx0]
      have heq := fun W => Lib.run_eql_slice_nil (P := Tryd.prog) W 22 34 none 0 0 0 0 Tryd.underlying22
      have hsz := hc2.size
      clear hx0 hn
      go_wp2_with fail
      refine ⟨rfl, ?_⟩
      rw [hP2.out]
      exact ⟨⟨i, by have := HI.out; omega, rfl⟩, HC1.out.trans hc2, by omega⟩
    · obtain ⟨g, cap, hv, _⟩ := hown.atHead hx0
      subst hv
      have hP2 : Hid (leafP l = .ok x) := by show _ = _; rw [HP.out, if_neg hx0]
      have heq := fun W => Lib.run_eql_slice_nil (P := Tryd.prog) W 22 34 (some ⟨g, 0, none⟩) x.1.length cap 0 0 Tryd.underlying22
      clear hx0 hn
      go_wp2_with fail
      go_ret
      rw [hP2.out]
      exact ⟨_, rfl, hown.rebase hs1, hrd2.rds, HC1.out.trans hc2⟩
end Go.Proofs.YtjepodlalcnecaaDoor
