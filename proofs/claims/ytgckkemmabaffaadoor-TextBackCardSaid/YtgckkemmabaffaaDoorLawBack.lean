/- Walks of the text laws: lines written and read. -/
import Derived.Test.YtgckkemmabaffaaDoorLawParses
set_option linter.unusedVariables false
namespace Go.Proofs.YtgckkemmabaffaaDoor
open Go.RowKit Go.Fk
/-- a record's parts -/
def toParts (r : Rec) : Parts := (r.time.toNat, r.level.toNat, r.source, r.text)
theorem recP_to (r : Rec) : recP (toParts r) = r := by
  obtain ⟨t, l, s, x⟩ := r
  unfold recP toParts
  simp
theorem ok_to (r : Rec) : okParts (toParts r) := ⟨r.time.toNat_lt, by have := r.level.toNat_lt; show r.level.toNat ≤ 255; omega⟩
theorem lines_to (l : List Rec) : linesP (l.map toParts) = linesL l := by
  unfold linesP linesL
  rw [List.map_map]; rfl
theorem map_to (l : List Rec) : (l.map toParts).map recP = l := by
  rw [List.map_map]
  conv => rhs; rw [← List.map_id l]
  apply List.map_congr_left
  intro r _; exact recP_to r
theorem lines_of (l : List Parts) (h : ∀ q ∈ l, okParts q) : linesL (l.map recP) = linesP l := by
  unfold linesP linesL
  rw [List.map_map]
  congr 1
  apply List.map_congr_left
  rintro ⟨t, lv, u, v⟩ hq
  obtain ⟨h1, h2⟩ := h _ hq
  have := (rec_parts t lv u v h1 h2).2
  show lineOf (recP (t, lv, u, v)) ++ [10] = _
  unfold recP
  simp only [this]
set_option maxRecDepth 100000 in
set_option maxHeartbeats 1000000 in
theorem TextBack_any (v : Value) (l : List Rec) (s : List UInt8) (w : World) (hs : See w eR v l) (ht : Tabs w) (he : Errs w) (hm : MaxL w) :
    Calls Tryd.prog 8 #[v, S s] w fun e w' => e = .returned (.bool true) ∧ Fr w w' := by
  obtain ⟨a, cap, hv, hcap1, hcap2, hnone⟩ := hs.shape
  subst hv
  go_enter Tryd.func8, Tryd.ntmps8
  go_wp2_with fail
  refine (alive_any _ ht).mono ?_
  rintro e w1 ⟨rfl, hf1⟩
  go_wp2_with fail
  refine (Great_any _ l _ (hs.fr hf1) 30 2000 (by omega)).mono ?_
  rintro e w2 ⟨he2, hf2⟩
  have hf02 := hf1.trans hf2
  cases hg : (decide (30 < l.length) || decide (((2000 : Nat) : Int) < wtGo 0 l)) with
  | true =>
    rw [hg] at he2
    subst he2
    go_wp2_with fail
    go_ret
    exact ⟨rfl, hf02⟩
  | false =>
    rw [hg] at he2
    subst he2
    obtain ⟨hl, hb⟩ := great_no (by omega) hg
    clear hg
    by_cases h0 : 2000 < s.length
    · have h0' : (2000 : Int) < s.length := by omega
      go_wp2_with fail
      go_ret
      exact ⟨rfl, hf02⟩
    have h0' : ¬ (2000 : Int) < s.length := by omega
    have hlen : (linesL l).length ≤ 1000000 := by
      have h1 := linesL_le l 2000 (fun r hr => by have := hb r hr; omega)
      have h2 : l.length * (6 * 2000 + 51) ≤ 30 * 12051 := Nat.mul_le_mul (by omega) (by omega)
      omega
    have hp1 : parses (linesL l) 0 = .ok (l.map toParts) := by
      rw [← lines_to]
      exact lines_parses _ 0 (fun q hq => by obtain ⟨r, _, rfl⟩ := List.mem_map.1 hq; exact ok_to r)
    have C1 := Parse_any (linesL l)
    rw [hp1] at C1
    have C2 := Parse_any s
    have hL : ∀ L, parses s 0 = .ok L → linesL (L.map recP) = s ∧ 4 * L.length ≤ s.length ∧ ∀ r ∈ L.map recP, r.source.length ≤ 100000 ∧ r.text.length ≤ 100000 := by
      intro L h
      have h1 := parses_lines _ s 0 L (Nat.le_refl _) h
      have h2 := linesP_ge L
      rw [h1] at h2
      refine ⟨by rw [lines_of L (parses_ok _ s 0 L (Nat.le_refl _) h), h1], h2.1, fun r hr => ?_⟩
      obtain ⟨q, hq, rfl⟩ := List.mem_map.1 hr
      have := h2.2 q hq
      unfold recP
      show q.2.2.1.length ≤ _ ∧ q.2.2.2.length ≤ _
      omega
    have hn : ∀ n b, parses s 0 = .error (n, b) → 1 ≤ n := by
      have key : ∀ (m : Nat) (s : List UInt8) (k n : Nat) (b : Bool), s.length ≤ m → parses s k = .error (n, b) → 1 ≤ n := by
        intro m
        induction m with
        | zero => intro s k n b h hp; obtain rfl := List.eq_nil_of_length_eq_zero (by omega : s.length = 0); rw [parses_nil] at hp; cases hp
        | succ m ih =>
          intro s k n b h hp
          by_cases hs : s = []
          · subst hs; rw [parses_nil] at hp; cases hp
          · have ha := aft_lt s hs
            rw [parses_step s k hs] at hp
            split at hp
            · split at hp
              · cases hp; omega
              · cases hq : parses (aft 10 s) (k + 1) with
                | error e => obtain ⟨n', b'⟩ := e; rw [hq] at hp; simp only [Except.map, Except.error.injEq, Prod.mk.injEq] at hp; obtain ⟨rfl, rfl⟩ := hp; exact ih _ _ _ _ (by omega) hq
                | ok l' => rw [hq] at hp; cases hp
            · cases hp; omega
      exact fun n b h => key _ s 0 n b (Nat.le_refl _) h
    have hb' : ∀ r ∈ l, r.source.length ≤ 100000 ∧ r.text.length ≤ 100000 := fun r hr => by have := hb r hr; omega
    generalize parses s 0 = x at *
    have D1 := hid C1
    have D2 := hid C2
    have HL := hid hL
    have HN := hid hn
    have HB := hid hb'
    have HT := map_to l
    have HT2 := hid HT
    clear C1 C2 hL hn hb hb' hp1 HT
    go_wp2_with fail
    refine (Lines_any _ l _ (ht.fr hf02) (hs.fr hf02) (by omega) HB.out).mono ?_
    rintro e w3 ⟨rfl, hf3⟩
    have hf03 := hf02.trans hf3
    go_wp2_with fail
    refine (D1.out _ (ht.fr hf03) (he.fr hf03) (hm.fr hf03) (by omega)).mono ?_
    intro e w4 h4
    obtain ⟨v4, rfl, hown4, hf4⟩ := h4
    rw [HT2.out] at hown4
    have hf04 := hf03.trans hf4
    clear HT2
    go_wp2_with fail
    refine (Same_any _ _ l l _ (hs.fr hf04) hown4.see (by omega)).mono ?_
    rintro e w5 ⟨he5, hf5⟩
    rw [decide_eq_true rfl] at he5
    subst he5
    have hf05 := hf04.trans hf5
    go_wp2_with fail
    refine (D2.out _ (ht.fr hf05) (he.fr hf05) (hm.fr hf05) (by omega)).mono ?_
    intro e w6 h6
    cases x with
    | error y =>
      obtain ⟨n, b⟩ := y
      have h1 := HN.out n b rfl
      have h1' : (1 : Int) ≤ n := by omega
      cases b
      all_goals
        obtain ⟨rfl, hf6⟩ := h6
        go_wp2_with fail
        go_ret
        exact ⟨rfl, hf05.trans hf6⟩
    | ok L =>
      obtain ⟨k1, k2, k3⟩ := HL.out L rfl
      obtain ⟨v6, rfl, hown6, hf6⟩ := h6
      have hf06 := hf05.trans hf6
      have K1 := hid k1
      have K3 := hid k3
      have C9 := Lines_any v6 (L.map recP)
      rw [k1] at C9
      have D9 := hid C9
      clear HL HN k1 k3 C9
      go_wp2_with fail
      refine (D9.out _ (ht.fr hf06) hown6.see (by simp; omega) K3.out).mono ?_
      rintro e w7 ⟨rfl, hf7⟩
      go_wp2_with fail
      go_ret
      exact ⟨by simp, hf06.trans hf7⟩
end Go.Proofs.YtgckkemmabaffaaDoor
