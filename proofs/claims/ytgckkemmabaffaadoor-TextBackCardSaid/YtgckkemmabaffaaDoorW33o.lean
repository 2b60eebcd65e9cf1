/- Walks of text: the reference's Read. -/
import Derived.Test.YtgckkemmabaffaaDoorW33n
import Derived.Test.YtgckkemmabaffaaDoorW33l
import Derived.Test.YtgckkemmabaffaaDoorW33k
import Derived.Test.YtgckkemmabaffaaDoorW33e
set_option linter.unusedVariables false
namespace Go.Proofs.YtgckkemmabaffaaDoor
open Go.RowKit Go.Fk
/-- a record's parts as a value -/
def partsV : Option Parts → Value
  | some (t, l, u, v) => .agg #[.int .u64 (t : Nat), .int .u8 (l : Nat), S u, S v]
  | none => .agg #[.int .u64 0, .int .u8 0, .string ⟨#[]⟩, .string ⟨#[]⟩]
def partsE : Option Parts → Value
  | some _ => .int .i64 0
  | none => .int .i64 2
theorem partsV_none : partsV none = .agg #[.int .u64 0, .int .u8 0, .string ⟨#[]⟩, .string ⟨#[]⟩] := rfl
theorem partsE_none : partsE none = .int .i64 2 := rfl
theorem partsV_some (t l : Nat) (u v : List UInt8) : partsV (some (t, l, u, v)) = .agg #[.int .u64 (t : Nat), .int .u8 (l : Nat), S u, S v] := rfl
theorem partsE_some (q : Parts) : partsE (some q) = .int .i64 0 := rfl
theorem blank_int (s : List UInt8) (a : Int) (w : World) (h0 : 0 ≤ a) (ha : a ≤ s.length) (hlen : s.length ≤ 1000000000) :
    Calls Tryd.prog 40 #[S s, .int .i64 a] w fun e w' => e = .returned (.int .i64 (blankAt s a.toNat : Nat)) ∧ w = w' := by
  obtain ⟨n, rfl⟩ := Int.eq_ofNat_of_zero_le h0
  rw [Int.toNat_natCast]
  exact blank_any s n w (by omega) hlen
theorem eq_b (a b : Nat) (h : a = b) : ((a : Int) == b) = true := by simp [h]
theorem neq_b (a b : Nat) (h : ¬ a = b) : ((a : Int) == b) = false := by simp; omega
theorem rec_parts (t l : Nat) (u v : List UInt8) (ht : t < 18446744073709551616) (hl : l ≤ 255) : recV ⟨UInt64.ofNat t, UInt8.ofNat l, u, v⟩ = .agg #[.int .u64 (t : Nat), .int .u8 (l : Nat), S u, S v] ∧ lineOf ⟨UInt64.ofNat t, UInt8.ofNat l, u, v⟩ = lineP t l u v := by
  have e1 : (UInt64.ofNat t).toNat = t := by rw [UInt64.toNat_ofNat']; omega
  have e2 : (UInt8.ofNat l).toNat = l := by rw [UInt8.toNat_ofNat']; omega
  unfold recV lineOf lineP Fk.u8
  simp only [e1, e2]
  exact ⟨trivial, trivial⟩
theorem RLineP_any (t l : Nat) (u v : List UInt8) (w : World) (ht : Hid (t < 18446744073709551616)) (hl : l ≤ 255) (h1 : u.length ≤ 10000000) (h2 : v.length ≤ 10000000) :
    Calls Tryd.prog 12 #[.agg #[.int .u64 (t : Nat), .int .u8 (l : Nat), S u, S v]] w fun e w' => e = .returned (S (lineP t l u v)) ∧ Fr w w' := by
  obtain ⟨e1, e2⟩ := rec_parts t l u v ht.out hl
  rw [← e1, ← e2]
  exact RLine_any ⟨UInt64.ofNat t, UInt8.ofNat l, u, v⟩ w (by show u.length ≤ _; omega) (by show v.length ≤ _; omega)
set_option maxRecDepth 100000 in
set_option maxHeartbeats 4000000 in
theorem RRead_any (s : List UInt8) (w : World) (hlen : s.length ≤ 1000000) :
    Calls Tryd.prog 22 #[S s] w fun e w' => e = .returned (.tuple #[partsV (readL s), partsE (readL s)]) ∧ Fr w w' := by
  have hr := readR_eq s
  unfold readR at hr
  simp only at hr
  obtain ⟨A, hA⟩ : ∃ A, blankAt s 0 = A := ⟨_, rfl⟩
  have lA := blank_le s 0 (by omega)
  rw [hA] at hr lA
  have HA : Hid (blankAt s (0 : Int).toNat = A) := hA
  clear hA
  go_enter Tryd.func22, Tryd.ntmps22
  go_wp2_with fail
  refine (blank_int s _ _ (by omega) (by omega) (by omega)).mono ?_
  rintro e w' ⟨he, rfl⟩
  rw [HA.out] at he
  subst he
  by_cases k1 : A = s.length
  · rw [if_pos k1] at hr
    have HR : Hid (readL s = none) := hr.symm
    have k1' := eq_b _ _ k1
    clear hr k1
    go_wp2_with fail
    exact bodyPost_ret (v := .tuple #[partsV none, partsE none]) (by simp [results, Tryd.results22, go_sem, partsV, partsE]) rfl ⟨by rw [HR.out], by first | exact Fr.refl _ | exact (Fr.refl _).alloc _⟩
  rw [if_neg k1] at hr
  have k1' := neq_b _ _ k1
  have w1 : IntKind.i64.wrap ((A : Int) + 1) = (A : Int) + 1 := IntWalk.i64_in _ (by omega)
  obtain ⟨B, hB⟩ : ∃ B, blankAt s (A + 1) = B := ⟨_, rfl⟩
  have lB := blank_le s (A + 1) (by omega)
  have gB := blank_ge s (A + 1)
  rw [hB] at hr lB gB
  have HB : Hid (blankAt s ((A : Int) + 1).toNat = B) := by rw [show ((A : Int) + 1).toNat = A + 1 by omega]; exact hB
  clear hB
  by_cases k2 : B = s.length
  · rw [if_pos k2] at hr
    have HR : Hid (readL s = none) := hr.symm
    have k2' := eq_b _ _ k2
    have k1'' : (A : Int) + 1 ≤ s.length := by omega
    clear hr k2 k1
    go_wp2_with fail
    refine (blank_int s _ _ (by omega) (by omega) (by omega)).mono ?_
    rintro e w' ⟨he, rfl⟩
    rw [HB.out] at he
    subst he
    go_wp2_with fail
    exact bodyPost_ret (v := .tuple #[partsV none, partsE none]) (by simp [results, Tryd.results22, go_sem, partsV, partsE]) rfl ⟨by rw [HR.out], by first | exact Fr.refl _ | exact (Fr.refl _).alloc _⟩
  rw [if_neg k2] at hr
  have k2' := neq_b _ _ k2
  have w2 : IntKind.i64.wrap ((B : Int) + 1) = (B : Int) + 1 := IntWalk.i64_in _ (by omega)
  obtain ⟨C, hC⟩ : ∃ C, blankAt s (B + 1) = C := ⟨_, rfl⟩
  have lC := blank_le s (B + 1) (by omega)
  have gC := blank_ge s (B + 1)
  rw [hC] at hr lC gC
  have HC : Hid (blankAt s ((B : Int) + 1).toNat = C) := by rw [show ((B : Int) + 1).toNat = B + 1 by omega]; exact hC
  clear hC
  by_cases k3 : C = s.length
  · rw [if_pos k3] at hr
    have HR : Hid (readL s = none) := hr.symm
    have k3' := eq_b _ _ k3
    clear hr k3 k1 k2
    go_wp2_with fail
    refine (blank_int s _ _ (by omega) (by omega) (by omega)).mono ?_
    rintro e w' ⟨he, rfl⟩
    rw [HB.out] at he
    subst he
    go_wp2_with fail
    refine (blank_int s _ _ (by omega) (by omega) (by omega)).mono ?_
    rintro e w' ⟨he, rfl⟩
    rw [HC.out] at he
    subst he
    go_wp2_with fail
    exact bodyPost_ret (v := .tuple #[partsV none, partsE none]) (by simp [results, Tryd.results22, go_sem, partsV, partsE]) rfl ⟨by rw [HR.out], by first | exact Fr.refl _ | exact (Fr.refl _).alloc _⟩
  rw [if_neg k3] at hr
  have k3' := neq_b _ _ k3
  have w3 : IntKind.i64.wrap ((C : Int) + 1) = (C : Int) + 1 := IntWalk.i64_in _ (by omega)
  have x1 := extract_head s A
  have x2 : (⟨s.toArray⟩ : ByteArray).extract (A + 1) B = ⟨((s.take B).drop (A + 1)).toArray⟩ := by rw [ByteArray.extract_mk]; simp [List.drop_take]
  have x3 : (⟨s.toArray⟩ : ByteArray).extract (B + 1) C = ⟨((s.take C).drop (B + 1)).toArray⟩ := by rw [ByteArray.extract_mk]; simp [List.drop_take]
  have x4 := extract_from s (C + 1) s.length (Nat.le_refl _)
  have y1 : (s.take A).length ≤ 1000000 := by simp; omega
  have y2 : ((s.take B).drop (A + 1)).length ≤ 1000000 := by simp; omega
  have y3 : ((s.take C).drop (B + 1)).length ≤ 1000000 := by simp; omega
  have y4 : (s.drop (C + 1)).length ≤ 1000000 := by simp; omega
  generalize s.take A = T1 at *
  generalize (s.take B).drop (A + 1) = T2 at *
  generalize (s.take C).drop (B + 1) = T3 at *
  generalize s.drop (C + 1) = T4 at *
  have k3'' : (C : Int) + 1 ≤ s.length := by omega
  have HR := hid hr
  clear hr k1 k2 k3
  go_wp2_with fail
  refine (blank_int s _ _ (by omega) (by omega) (by omega)).mono ?_
  rintro e w' ⟨he, rfl⟩
  rw [HB.out] at he
  subst he
  go_wp2_with fail
  refine (blank_int s _ _ (by omega) (by omega) (by omega)).mono ?_
  rintro e w' ⟨he, rfl⟩
  rw [HC.out] at he
  subst he
  have q1 := numL_lt T1
  have q3 := unq_le T3
  have q4 := unq_le T4
  have C1 := RNumber_any T1
  have C2 := RNumber_any T2
  have C3 := RUnquote_any T3
  have C4 := RUnquote_any T4
  unfold numT at C1 C2
  unfold unqT at C3 C4
  generalize numL T1 = n1 at *
  generalize numL T2 = n2 at *
  generalize unq T3 = n3 at *
  generalize unq T4 = n4 at *
  have Q1 := hid q1
  have Q3 := hid q3
  have Q4 := hid q4
  clear q1 q3 q4
  have D1 := hid C1
  have D2 := hid C2
  have D3 := hid C3
  have D4 := hid C4
  clear C1 C2 C3 C4
  go_wp2_with fail
  refine (D1.out _ (by omega)).mono ?_
  rintro e w' ⟨rfl, rfl⟩
  go_wp2_with fail
  refine (D2.out _ (by omega)).mono ?_
  rintro e w' ⟨rfl, rfl⟩
  go_wp2_with fail
  refine (D3.out _ (by omega)).mono ?_
  rintro e w1 ⟨rfl, hf1⟩
  go_wp2_with fail
  refine (D4.out _ (by omega)).mono ?_
  rintro e w2 ⟨rfl, hf2⟩
  have hf12 := hf1.trans hf2
  have hb := hf12.heap (heap_new w (.cells #[.int .u64 0, .int .u8 0, .string ⟨#[]⟩, .string ⟨#[]⟩] 28) _ rfl)
  have hf02 : Fr w w2 := ((Fr.refl w).alloc _).trans hf12
  have c0 := cell_of_heap hb 0
  have c1 := cell_of_heap hb 1
  have c2 := cell_of_heap hb 2
  have c3 := cell_of_heap hb 3
  have g := frozen_of_heap hb
  have hsz : w.heap.size < w2.heap.size := by have := hf12.size; rw [size_alloc] at this; omega
  have hne : ¬ w2.heap.size = w.heap.size := by omega
  have hne2 : ¬ w.heap.size = w2.heap.size := by omega
  simp only [List.getElem?_toArray, List.getElem?_cons_zero, List.getElem?_cons_succ] at c0 c1 c2 c3
  have HBK := hid hb
  clear hb
  have fin : ∀ X : Obj, ∀ a b c d : Value, Fr w (((((w2.setCell ⟨w.heap.size, 0, none⟩ a).setCell ⟨w.heap.size, 1, none⟩ b).setCell ⟨w.heap.size, 2, none⟩ c).setCell ⟨w.heap.size, 3, none⟩ d).alloc X) := fun X a b c d => by
    exact Below.alloc (Below.setCell (Below.setCell (Below.setCell (Below.setCell hf02 (by simp) _) (by simp) _) (by simp) _) (by simp) _) (by simp; omega) _
  have HF := hid fin
  clear fin
  cases n1 with
  | none =>
    have HN : Hid (readL s = none) := HR.out.symm
    go_wp2_with fail
    exact bodyPost_ret (v := .tuple #[partsV none, partsE none]) (by simp [results, Tryd.results22, go_sem, partsV, partsE, *]) rfl ⟨by rw [HN.out], HF.out _ _ _ _ _⟩
  | some t =>
  cases n2 with
  | none =>
    have HN : Hid (readL s = none) := HR.out.symm
    go_wp2_with fail
    exact bodyPost_ret (v := .tuple #[partsV none, partsE none]) (by simp [results, Tryd.results22, go_sem, partsV, partsE, *]) rfl ⟨by rw [HN.out], HF.out _ _ _ _ _⟩
  | some l =>
  cases n3 with
  | none =>
    have HN : Hid (readL s = none) := HR.out.symm
    go_wp2_with fail
    exact bodyPost_ret (v := .tuple #[partsV none, partsE none]) (by simp [results, Tryd.results22, go_sem, partsV, partsE, *]) rfl ⟨by rw [HN.out], HF.out _ _ _ _ _⟩
  | some u =>
  cases n4 with
  | none =>
    have HN : Hid (readL s = none) := HR.out.symm
    go_wp2_with fail
    exact bodyPost_ret (v := .tuple #[partsV none, partsE none]) (by simp [results, Tryd.results22, go_sem, partsV, partsE, *]) rfl ⟨by rw [HN.out], HF.out _ _ _ _ _⟩
  | some v =>
  by_cases h255 : 255 < l
  · have HN : Hid (readL s = none) := by show _ = _; rw [← HR.out]; simp only; rw [if_pos h255]
    have h255' : (255 : Int) < l := by omega
    clear h255
    go_wp2_with fail
    exact bodyPost_ret (v := .tuple #[partsV none, partsE none]) (by simp [results, Tryd.results22, go_sem, partsV, partsE, *]) rfl ⟨by rw [HN.out], HF.out _ _ _ _ _⟩
  · have hl : ¬ (255 : Int) < l := by omega
    have hwl : IntKind.u8.wrap (l : Int) = l := IntWalk.u8_in _ (by omega)
    have ql := Q1.out t rfl
    have HQ : Hid (t < 18446744073709551616) := ql
    have hu := Q3.out u rfl
    have hv := Q4.out v rfl
    have HM := HR.out
    simp only at HM
    rw [if_neg h255] at HM
    have HR2 := hid HM
    clear ql HM HR h255
    go_wp2_with fail
    refine (RLineP_any t l u v _ HQ (by omega) (by omega) (by omega)).mono ?_
    rintro e w3 ⟨he, hf3⟩
    have hf23 : Fr w2 w3 := ((Fr.refl w2).alloc _).trans hf3
    have hb := hf23.heap HBK.out
    have hb2 := hf3.heap (heap_new w2 (.cells #[.int .u64 (t : Nat), .int .u8 (l : Nat), S u, S v] 28) _ rfl)
    have a0 := cell_of_heap hb 0
    have a1 := cell_of_heap hb 1
    have a2 := cell_of_heap hb 2
    have a3 := cell_of_heap hb 3
    have b0 := cell_of_heap hb2 0
    have b1 := cell_of_heap hb2 1
    have b2 := cell_of_heap hb2 2
    have b3 := cell_of_heap hb2 3
    have g3 := frozen_of_heap hb
    simp only [List.getElem?_toArray, List.getElem?_cons_zero, List.getElem?_cons_succ] at a0 a1 a2 a3 b0 b1 b2 b3
    have hsz3 : w.heap.size < w3.heap.size := by have := hf23.size; omega
    have fin3 : ∀ a b c d : Value, Fr w ((((w3.setCell ⟨w.heap.size, 0, none⟩ a).setCell ⟨w.heap.size, 1, none⟩ b).setCell ⟨w.heap.size, 2, none⟩ c).setCell ⟨w.heap.size, 3, none⟩ d) := fun a b c d => by
      exact Below.setCell (Below.setCell (Below.setCell (Below.setCell (hf02.trans hf23) (by simp) _) (by simp) _) (by simp) _) (by simp) _
    have HF3 := hid fin3
    clear fin3 hb hb2 c0 c1 c2 c3 g
    by_cases hq : lineP t l u v = s
    · have HN : Hid (readL s = some (t, l, u, v)) := by show _ = _; rw [← HR2.out, if_pos hq]
      rw [hq] at he
      subst he
      clear hq
      go_wp2_with fail
      exact bodyPost_ret (v := .tuple #[partsV (some (t, l, u, v)), partsE (some (t, l, u, v))]) (by simp [results, Tryd.results22, go_sem, partsV, partsE, *]) rfl ⟨by rw [HN.out], HF3.out _ _ _ _⟩
    · have HN : Hid (readL s = none) := by show _ = _; rw [← HR2.out, if_neg hq]
      subst he
      generalize lineP t l u v = q at *
      have hq' : (q == s) = false := by simp; exact hq
      clear hq
      go_wp2_with fail
      exact bodyPost_ret (v := .tuple #[partsV none, partsE none]) (by simp [results, Tryd.results22, go_sem, partsV, partsE, *]) rfl ⟨by rw [HN.out], HF3.out _ _ _ _⟩
end Go.Proofs.YtgckkemmabaffaaDoor
