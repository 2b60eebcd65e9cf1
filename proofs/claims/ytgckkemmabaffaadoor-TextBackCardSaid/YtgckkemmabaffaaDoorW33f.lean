/- Walks of text: lines. -/
import Derived.Test.YtgckkemmabaffaaDoorW33b
import Derived.Test.YtgckkemmabaffaaDoorW33e
import Derived.Test.YtgckkemmabaffaaDoorW17
import Derived.Test.YtgckkemmabaffaaDoorWB
set_option linter.unusedVariables false
namespace Go.Proofs.YtgckkemmabaffaaDoor
open Go.RowKit Go.Fk Go.Sort
/-- the lines of records -/
def linesL (l : List Rec) : List UInt8 := (l.map fun r => lineOf r ++ [10]).flatten
theorem linesL_snoc (l : List Rec) (k : Nat) (h : k < l.length) : linesL (l.take (k + 1)) = linesL (l.take k) ++ lineOf l[k] ++ [10] := by
  unfold linesL; rw [List.take_succ_eq_append_getElem h, List.map_append, List.flatten_append]; simp
theorem lineOf_le (r : Rec) (m : Nat) (h1 : r.source.length ≤ m) (h2 : r.text.length ≤ m) : (lineOf r).length ≤ 6 * m + 50 := by
  have e1 := decDigits_le r.time.toNat r.time.toNat_lt
  have e2 := decDigits_le r.level.toNat (by have := r.level.toNat_lt; omega)
  have e3 := quote_le r.source
  have e4 := quote_le r.text
  simp only [lineOf, List.length_append, List.length_cons]; omega
theorem linesL_le (l : List Rec) (m : Nat) (h : ∀ r ∈ l, r.source.length ≤ m ∧ r.text.length ≤ m) : (linesL l).length ≤ l.length * (6 * m + 51) := by
  induction l with
  | nil => simp [linesL]
  | cons r l ih =>
    have h1 := lineOf_le r m (h r (by simp)).1 (h r (by simp)).2
    have h2 := ih fun x hx => h x (by simp [hx])
    simp only [linesL, List.map_cons, List.flatten_cons, List.length_append, List.length_cons, List.length_nil, Nat.succ_mul] at *
    omega
set_option maxRecDepth 100000 in
set_option maxHeartbeats 1000000 in
theorem RLines_any (v : Value) (l : List Rec) (w : World) (hs : See w eR v l) (hl : l.length ≤ 1000) (hb : ∀ r ∈ l, r.source.length ≤ 100000 ∧ r.text.length ≤ 100000) :
    Calls Tryd.prog 14 #[v] w fun e w' => e = .returned (S (linesL l)) ∧ Fr w w' := by
  obtain ⟨a, cap, hv, hcap1, hcap2, hnone⟩ := hs.shape
  subst hv
  go_enter Tryd.func14, Tryd.ntmps14
  go_wp2_with fail
  go_loopw [3, 4] (fun sv iv wr => ∃ k : Nat, k ≤ l.length ∧ iv = N k ∧ sv = S (linesL (l.take k)) ∧ Fr w wr) (fun _ iv _ => l.length - (intOf iv).toNat)
  case atStart => exact ⟨0, Nat.zero_le _, rfl, rfl, Fr.refl w⟩
  case round =>
    obtain ⟨k, hk, rfl, rfl, hf⟩ := hrel
    by_cases hlt : k < l.length
    · obtain ⟨b, off, cap', hv, c0, c1, c2, c3⟩ := recAt (hs.fr hf) k hlt
      obtain ⟨hb1, hb2⟩ := hb l[k] (List.getElem_mem hlt)
      obtain ⟨r, hr⟩ : ∃ r, l[k] = r := ⟨_, rfl⟩
      have HS : Hid (linesL (l.take (k + 1)) = linesL (l.take k) ++ lineOf r ++ [10]) := by show _ = _; rw [linesL_snoc l k hlt, hr]
      rw [hr] at c0 c1 c2 c3 hb1 hb2
      have m1 := lineOf_le r 100000 hb1 hb2
      have m2 := linesL_le (l.take k) 100000 (fun x hx => hb x (List.mem_of_mem_take hx))
      rw [List.length_take] at m2
      have m3 : min k l.length * (6 * 100000 + 51) ≤ 1000 * 600051 := Nat.mul_le_mul (by omega) (by omega)
      have m4 : (linesL (l.take k)).length + (lineOf r).length ≤ 9223372036854775807 := by omega
      have m5 : (linesL (l.take k)).length + (lineOf r).length + 1 ≤ 9223372036854775807 := by omega
      have m6 : ¬ 9223372036854775807 < (linesL (l.take k)).length + (lineOf r).length := by omega
      have m7 : ¬ 9223372036854775807 < (linesL (l.take k)).length + (lineOf r).length + 1 := by omega
      clear hr m1 m2 m3
      cases hv
      go_wp2_with fail
      refine (RLine_any r _ (by omega) (by omega)).mono ?_
      rintro e w1 ⟨rfl, hf1⟩
      go_wp2_with fail
      go_roundw
      case rel =>
        refine ⟨k + 1, by omega, by go_num, ?_, hf.trans hf1⟩
        rw [HS.out]
        show Value.string ((⟨(linesL (l.take k)).toArray⟩ : ByteArray) ++ ⟨(lineOf r).toArray⟩ ++ ⟨[10].toArray⟩) = _
        simp only [b_add]
      case measure => simp [intOf]; omega
    · rw [List.take_of_length_le (by omega)]
      go_wp2_with fail
      go_ret
      exact ⟨rfl, hf⟩
set_option maxRecDepth 100000 in
set_option maxHeartbeats 1000000 in
theorem Lines_any (v : Value) (l : List Rec) (w : World) (ht : Tabs w) (hs : See w eR v l) (hl : l.length ≤ 1000) (hb : ∀ r ∈ l, r.source.length ≤ 100000 ∧ r.text.length ≤ 100000) :
    Calls Tryd.prog 13 #[v] w fun e w' => e = .returned (S (linesL l)) ∧ Fr w w' := by
  obtain ⟨a, cap, hv, hcap1, hcap2, hnone⟩ := hs.shape
  subst hv
  go_enter Tryd.func13, Tryd.ntmps13
  go_wp2_with fail
  go_loopw [8] (fun iv wr => ∃ (k : Nat) (p x : Value), k ≤ l.length ∧ iv = N k ∧ wr.heap[w.heap.size]? = some (.cells #[p, x] 54 (0, 0)) ∧ (p = .pointer none ∨ p = .pointer (some ⟨w.heap.size, 0, none⟩)) ∧ Own wr (w.heap.size + 1) eB x (linesL (l.take k)) ∧ Fr w wr) (fun iv _ => l.length - (intOf iv).toNat)
  case atStart => 
    refine ⟨0, _, _, Nat.zero_le _, rfl, heap_new _ _ _ rfl, .inl rfl, Own.nil, (Fr.refl w).alloc _⟩
  case round =>
    obtain ⟨k, p, x, hk, rfl, hB, hp, hown, hf⟩ := hrel
    by_cases hlt : k < l.length
    · obtain ⟨b, off, cap', hv, c0, c1, c2, c3⟩ := recAt (hs.fr hf) k hlt
      obtain ⟨hb1, hb2⟩ := hb l[k] (List.getElem_mem hlt)
      obtain ⟨r, hr⟩ : ∃ r, l[k] = r := ⟨_, rfl⟩
      have HS : Hid (linesL (l.take (k + 1)) = linesL (l.take k) ++ lineOf r ++ [10]) := by show _ = _; rw [linesL_snoc l k hlt, hr]
      rw [hr] at c0 c1 c2 c3 hb1 hb2
      clear hr
      cases hv
      have m1 := lineOf_le r 100000 hb1 hb2
      have m2 := linesL_le (l.take k) 100000 (fun x hx => hb x (List.mem_of_mem_take hx))
      rw [List.length_take] at m2
      have m3 : min k l.length * (6 * 100000 + 51) ≤ 1000 * 600051 := Nat.mul_le_mul (by omega) (by omega)
      have m4 : (linesL (l.take k)).length + (lineOf r).length ≤ 1000000000 := by omega
      have hB0 : w.heap.size < wr.heap.size := (Array.getElem?_eq_some_iff.1 hB).1
      clear m1 m2 m3
      have HH := hid hB
      clear hB
      go_wp2_with fail
      refine (Line_any r _ (ht.fr (hf.alloc _)) (by omega) (by omega)).mono ?_
      rintro e w1 ⟨rfl, hf1⟩
      have hf01 := ((Fr.refl wr).alloc _).trans hf1
      have HB1 := hid (hf01.heap HH.out)
      have hown1 := hown.fr hf01
      go_wp2_with fail
      refine (wstr_any w.heap.size (w.heap.size + 1) p x _ _ _ HB1.out hp hown1 (by omega) (by have := hf01.size; omega)).mono ?_
      rintro e w2 ⟨rfl, x2, hB2, hown2, hc2, _⟩
      have HB2 := hid hB2
      have hs2 := hc2.size
      have hs1 := hf01.size
      have hl2 := hown1.lt
      have hl3 := hown2.lt
      clear hB2
      go_wp2_with fail
      refine (wstr_any w.heap.size (w.heap.size + 1) _ x2 _ [10] _ HB2.out (.inr rfl) hown2 (by simp; omega) (by omega)).mono ?_
      rintro e w3 ⟨rfl, x3, hB3, hown3, hc3, _⟩
      have HB3 := hid hB3
      clear hB3
      go_wp2_with fail
      go_roundw
      case rel =>
        refine ⟨k + 1, _, x3, by omega, by go_num, HB3.out, .inr rfl, by rw [HS.out]; exact hown3, ?_⟩
        exact Chg.below (Chg.below (hf.trans hf01) hc2 (by omega) (fun i hi => by rcases hi with rfl | hi; exact Nat.le_refl _; exact Nat.le_trans (by omega) (hl2 i hi).1)) hc3 (by omega) (fun i hi => by rcases hi with rfl | hi; exact Nat.le_refl _; exact Nat.le_trans (by omega) (hl3 i hi).1)
      case measure => simp [intOf]; omega
    · rw [List.take_of_length_le (by omega)] at hown
      have HH := hid hB
      clear hB
      go_wp2_with fail
      refine (bstr_any w.heap.size (w.heap.size + 1) p x _ _ HH.out hp hown (by omega)).mono ?_
      rintro e w' ⟨rfl, hb, _⟩
      go_wp2_with fail
      go_ret
      exact ⟨rfl, Below.trans hf hb⟩
end Go.Proofs.YtgckkemmabaffaaDoor
