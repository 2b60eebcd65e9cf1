/- Walks of text: Read. -/
import Derived.Test.YtgckkemmabaffaaDoorW33o
import Derived.Test.YtgckkemmabaffaaDoorW33m
import Derived.Test.YtgckkemmabaffaaDoorW33h
set_option linter.unusedVariables false
namespace Go.Proofs.YtgckkemmabaffaaDoor
open Go.RowKit Go.Fk
/-- the library's greatest length is some number -/
def MaxL (w : World) : Prop := ∃ m, w.cell? ⟨4, 0, none⟩ = some (.int .i64 m)
theorem MaxL.fr {w w' : World} (h : MaxL w) (hf : Fr w w') : MaxL w' := by obtain ⟨m, h⟩ := h; exact ⟨m, hf.cell h⟩
theorem Cut_any (c : UInt8) (s : List UInt8) (w : World) (hm : MaxL w) (hlen : s.length ≤ 1000000000) :
    Calls Tryd.prog 38 #[S s, S [c]] w fun e w' => e = .returned (.tuple #[S (bef c s), S (aft c s), .bool (decide (c ∈ s))]) ∧ Fr w w' := by
  obtain ⟨m, hm⟩ := hm
  refine (Tryd.strings_Cut ⟨s.toArray⟩ ⟨#[c]⟩ m w (by simp [ByteArray.size]; omega) hm).mono ?_
  rintro e w' ⟨rfl, n, rfl⟩
  have e : Lib.cut (⟨s.toArray⟩ : ByteArray).data.toList (⟨#[c]⟩ : ByteArray).data.toList = (bef c s, aft c s, decide (c ∈ s)) := cut_one c s
  rw [e]
  exact ⟨rfl, (Fr.refl w).drewN n⟩
theorem has_any (c : UInt8) (s : List UInt8) (w : World) :
    Calls Tryd.prog 39 #[S s, S [c]] w fun e w' => e = .returned (.bool (match s with | [] => false | x :: _ => decide (x = c))) ∧ w = w' := by
  refine (Tryd.strings_HasPrefix ⟨s.toArray⟩ ⟨#[c]⟩ w).mono ?_
  rintro e w' ⟨rfl, rfl⟩
  refine ⟨?_, rfl⟩
  congr 2
  cases s with
  | nil => rfl
  | cons x r =>
    show [c].isPrefixOf (x :: r) = _
    simp [List.isPrefixOf]
    by_cases h : c = x
    · subst h; simp
    · have h2 : ¬ x = c := fun e => h e.symm
      simp [h, h2]
/-- the block of a record that is a result -/
theorem res_facts {w w5 : World} (hf : Fr (w.alloc (.cells #[.int .u64 0, .int .u8 0, .string ⟨#[]⟩, .string ⟨#[]⟩] 28)) w5) :
    w5.cell? ⟨w.heap.size, 0, none⟩ = some (.int .u64 0) ∧ w5.cell? ⟨w.heap.size, 1, none⟩ = some (.int .u8 0) ∧ w5.cell? ⟨w.heap.size, 2, none⟩ = some (.string ⟨#[]⟩) ∧ w5.cell? ⟨w.heap.size, 3, none⟩ = some (.string ⟨#[]⟩) ∧
    (∀ i, w5.frozen? ⟨w.heap.size, i, none⟩ = false) ∧ w.heap.size < w5.heap.size ∧ ¬ w5.heap.size = w.heap.size ∧ ¬ w.heap.size = w5.heap.size ∧
    Hid (∀ a b c d : Value, Fr w ((((w5.setCell ⟨w.heap.size, 0, none⟩ a).setCell ⟨w.heap.size, 1, none⟩ b).setCell ⟨w.heap.size, 2, none⟩ c).setCell ⟨w.heap.size, 3, none⟩ d)) := by
  have hb := hf.heap (heap_new w (.cells #[.int .u64 0, .int .u8 0, .string ⟨#[]⟩, .string ⟨#[]⟩] 28) _ rfl)
  have h0 := hf.size
  rw [size_alloc] at h0
  have c0 := cell_of_heap hb 0
  have c1 := cell_of_heap hb 1
  have c2 := cell_of_heap hb 2
  have c3 := cell_of_heap hb 3
  simp only [List.getElem?_toArray, List.getElem?_cons_zero, List.getElem?_cons_succ] at c0 c1 c2 c3
  refine ⟨c0, c1, c2, c3, frozen_of_heap hb, by omega, by omega, by omega, fun a b c d => ?_⟩
  have hf0 : Fr w w5 := ((Fr.refl w).alloc _).trans hf
  exact Below.setCell (Below.setCell (Below.setCell (Below.setCell hf0 (by simp) _) (by simp) _) (by simp) _) (by simp) _
set_option maxRecDepth 100000 in
set_option maxHeartbeats 4000000 in
theorem Read_any (s : List UInt8) (w : World) (ht : Tabs w) (he : Errs w) (hm : MaxL w) (hlen : s.length ≤ 1000000) :
    Calls Tryd.prog 21 #[S s] w fun e w' => e = .returned (.tuple #[partsV (readL s), partsE (readL s)]) ∧ Fr w w' := by
  have hr : readL s = readL s := rfl
  conv at hr => lhs; unfold readL
  have b1 := bef_len 32 s
  have b2 := bef_len 32 (aft 32 s)
  have C1 := Cut_any 32 s
  generalize bef 32 s = T at *
  generalize hR1 : aft 32 s = R1 at *
  have C2 := Cut_any 32 R1
  generalize bef 32 R1 = L at *
  generalize aft 32 R1 = R2 at *
  have N1 := Number_any T
  have N2 := Number_any L
  unfold numT at N1 N2
  have Q := quoted_any R2
  have ql := quotedOf_le R2
  have q1 := numL_lt T
  generalize (quotedOf R2).1 = src at *
  generalize (quotedOf R2).2 = n at *
  generalize decide (32 ∈ s) = k1 at *
  generalize decide (32 ∈ R1) = k2 at *
  generalize numL T = n1 at *
  generalize numL L = n2 at *
  clear hR1
  have HR := hid hr
  have D1 := hid C1
  have D2 := hid C2
  have D3 := hid N1
  have D4 := hid N2
  have D5 := hid Q
  have D6 := hid q1
  clear hr C1 C2 N1 N2 Q q1
  go_enter Tryd.func21, Tryd.ntmps21
  go_wp2_with fail
  have hfA : Fr w (w.alloc (.cells #[.int .u64 0, .int .u8 0, .string ⟨#[]⟩, .string ⟨#[]⟩] 28)) := (Fr.refl w).alloc _
  have HA := hid hfA
  clear hfA
  refine (D1.out _ (hm.fr HA.out) (by omega)).mono ?_
  rintro e w1 ⟨rfl, hf1⟩
  go_wp2_with fail
  refine (D2.out _ (hm.fr (HA.out.trans hf1)) (by omega)).mono ?_
  rintro e w2 ⟨rfl, hf2⟩
  have hf02' := hf1.trans hf2
  have hf02 := HA.out.trans hf02'
  go_wp2_with fail
  refine (D3.out _ (ht.fr hf02).2.1 (ht.fr hf02).2.2 (he.fr hf02) (by omega)).mono ?_
  rintro e w3 ⟨rfl, hf3⟩
  have hf03' := hf02'.trans hf3
  have hf03 := hf02.trans hf3
  go_wp2_with fail
  refine (D4.out _ (ht.fr hf03).2.1 (ht.fr hf03).2.2 (he.fr hf03) (by omega)).mono ?_
  rintro e w4 ⟨rfl, hf4⟩
  have hf04' := hf03'.trans hf4
  have hf04 := hf03.trans hf4
  go_wp2_with fail
  refine (D5.out _ (ht.fr hf04).1 (by omega)).mono ?_
  rintro e w5 ⟨rfl, hf5⟩
  have hf05' := hf04'.trans hf5
  have hf05 := hf04.trans hf5
  clear D1 D2 D3 D4 D5 hf1 hf2 hf3 hf4 hf5 hf02 hf03 hf04 hf02' hf03' hf04'
  have HX := res_facts hf05'
  obtain ⟨c0, c1, c2, c3, g, hsz, hne, hne2, HF⟩ := HX
  cases n1 with
  | none =>
    have HN : Hid (readL s = none) := HR.out.symm
    go_wp2_with fail
    exact bodyPost_ret (v := .tuple #[partsV none, partsE none]) (by simp [results, Tryd.results21, go_sem, partsV, partsE, *]) rfl ⟨by rw [HN.out], by first | exact HF.out _ _ _ _ | exact Below.alloc (HF.out _ _ _ _) (by simp; omega) _⟩
  | some t =>
  cases n2 with
  | none =>
    have HN : Hid (readL s = none) := HR.out.symm
    go_wp2_with fail
    exact bodyPost_ret (v := .tuple #[partsV none, partsE none]) (by simp [results, Tryd.results21, go_sem, partsV, partsE, *]) rfl ⟨by rw [HN.out], by first | exact HF.out _ _ _ _ | exact Below.alloc (HF.out _ _ _ _) (by simp; omega) _⟩
  | some l =>
  have hr := HR.out
  simp only at hr
  by_cases h255 : 255 < l
  · rw [if_pos h255] at hr
    have HN : Hid (readL s = none) := hr.symm
    have h255' : (255 : Int) < l := by omega
    clear h255 hr
    go_wp2_with fail
    exact bodyPost_ret (v := .tuple #[partsV none, partsE none]) (by simp [results, Tryd.results21, go_sem, partsV, partsE, *]) rfl ⟨by rw [HN.out], by first | exact HF.out _ _ _ _ | exact Below.alloc (HF.out _ _ _ _) (by simp; omega) _⟩
  rw [if_neg h255] at hr
  have hl : ¬ (255 : Int) < l := by omega
  have hwl : IntKind.u8.wrap (l : Int) = l := IntWalk.u8_in _ (by omega)
  by_cases h0 : n = 0
  · rw [if_pos h0] at hr
    have HN : Hid (readL s = none) := hr.symm
    subst h0
    clear hr
    go_wp2_with fail
    exact bodyPost_ret (v := .tuple #[partsV none, partsE none]) (by simp [results, Tryd.results21, go_sem, partsV, partsE, *]) rfl ⟨by rw [HN.out], by first | exact HF.out _ _ _ _ | exact Below.alloc (HF.out _ _ _ _) (by simp; omega) _⟩
  rw [if_neg h0] at hr
  have h0' : ((n : Int) == 0) = false := by simp; omega
  have x1 := extract_from R2 n R2.length (Nat.le_refl _)
  have x2 := extract_from R2 (n + 1) R2.length (Nat.le_refl _)
  have y2 : (R2.drop (n + 1)).length ≤ 1000000 := by simp; omega
  have hd : R2.drop (n + 1) = (R2.drop n).drop 1 := by rw [List.drop_drop]
  have hlt : R2.drop n ≠ [] → (n : Int) + 1 ≤ R2.length := by
    intro h; have : n < R2.length := by apply Classical.byContradiction; intro h'; exact h (List.drop_eq_nil_of_le (by omega)); 
    omega
  rw [hd] at x2 y2
  generalize R2.drop n = R3 at *
  have hw1 : IntKind.i64.wrap ((n : Int) + 1) = (n : Int) + 1 := IntWalk.i64_in _ (by omega)
  clear HR hd h255
  have hP := has_any 32 R3
  have HP := hid hP
  clear hP
  match R3 with
  | [] =>
    have HN : Hid (readL s = none) := hr.symm
    clear hr hlt x2 y2
    go_wp2_with fail
    refine (HP.out _).mono ?_
    rintro e w' ⟨rfl, rfl⟩
    go_wp2_with fail
    exact bodyPost_ret (v := .tuple #[partsV none, partsE none]) (by simp [results, Tryd.results21, go_sem, partsV, partsE, *]) rfl ⟨by rw [HN.out], by first | exact HF.out _ _ _ _ | exact Below.alloc (HF.out _ _ _ _) (by simp; omega) _⟩
  | c :: r =>
    simp only [List.drop_succ_cons, List.drop_zero] at x2 y2
    simp only at hr
    by_cases h32 : c = 32
    · rw [if_pos h32] at hr
      have hlt' := hlt (by simp)
      have hU := Unquote_any r
      have q3 := unq_le r
      unfold unqT at hU
      generalize unq r = n4 at *
      have HU := hid hU
      have HR := hid hr
      subst h32
      clear hr hlt hU
      go_wp2_with fail
      refine (HP.out _).mono ?_
      rintro e w' ⟨he, rfl⟩
      simp only [decide_true] at he
      subst he
      go_wp2_with fail
      refine (HU.out _ (ht.fr hf05).1 (by omega)).mono ?_
      rintro e w6 ⟨rfl, hf6⟩
      have HX := res_facts (hf05'.trans hf6)
      clear c0 c1 c2 c3 g hsz hne hne2 HF
      obtain ⟨c0, c1, c2, c3, g, hsz, hne, hne2, HF⟩ := HX
      cases n4 with
      | none =>
        have HN : Hid (readL s = none) := HR.out.symm
        go_wp2_with fail
        exact bodyPost_ret (v := .tuple #[partsV none, partsE none]) (by simp [results, Tryd.results21, go_sem, partsV, partsE, *]) rfl ⟨by rw [HN.out], by first | exact HF.out _ _ _ _ | exact Below.alloc (HF.out _ _ _ _) (by simp; omega) _⟩
      | some v =>
        have HN : Hid (readL s = some (t, l, src, v)) := HR.out.symm
        go_wp2_with fail
        exact bodyPost_ret (v := .tuple #[partsV (some (t, l, src, v)), partsE (some (t, l, src, v))]) (by simp [results, Tryd.results21, go_sem, partsV, partsE, *]) rfl ⟨by rw [HN.out], by first | exact HF.out _ _ _ _ | exact Below.alloc (HF.out _ _ _ _) (by simp; omega) _⟩
    · rw [if_neg h32] at hr
      have HN : Hid (readL s = none) := hr.symm
      have e : decide (c = 32) = false := by simp [h32]
      clear hr hlt x2 y2
      go_wp2_with fail
      refine (HP.out _).mono ?_
      rintro e w' ⟨he, rfl⟩
      simp only [h32, decide_false] at he
      subst he
      go_wp2_with fail
      exact bodyPost_ret (v := .tuple #[partsV none, partsE none]) (by simp [results, Tryd.results21, go_sem, partsV, partsE, *]) rfl ⟨by rw [HN.out], by first | exact HF.out _ _ _ _ | exact Below.alloc (HF.out _ _ _ _) (by simp; omega) _⟩
end Go.Proofs.YtgckkemmabaffaaDoor
