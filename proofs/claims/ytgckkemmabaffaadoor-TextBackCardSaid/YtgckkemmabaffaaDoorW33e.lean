/- Walks of text: the reference's line. -/
import Derived.Test.YtgckkemmabaffaaDoorW33c
import Derived.Test.YtgckkemmabaffaaDoorW33d
set_option linter.unusedVariables false
namespace Go.Proofs.YtgckkemmabaffaaDoor
open Go.RowKit Go.Fk Go.Sort
theorem b_add (a b : List UInt8) : (⟨a.toArray⟩ : ByteArray) ++ ⟨b.toArray⟩ = ⟨(a ++ b).toArray⟩ := by
  apply ByteArray.ext
  simp
theorem S_add (a b : List UInt8) : Value.string ((⟨a.toArray⟩ : ByteArray) ++ ⟨b.toArray⟩) = S (a ++ b) := by rw [b_add]
set_option maxRecDepth 100000 in
set_option maxHeartbeats 1000000 in
theorem rline_any (t lv : Nat) (src txt d1 d2 q1 q2 : List UInt8) (w : World) (ht : t < 18446744073709551616) (hlv : lv < 256) (h1 : src.length ≤ 100000000) (h2 : txt.length ≤ 100000000)
    (g1 : Hid (Lib.decDigits t = d1)) (g2 : Hid (Lib.decDigits lv = d2)) (g3 : Hid (quote src = q1)) (g4 : Hid (quote txt = q2))
    (e1 : d1.length ≤ 20) (e2 : d2.length ≤ 20) (e3 : q1.length ≤ 400000000) (e4 : q2.length ≤ 400000000) :
    Calls Tryd.prog 12 #[.agg #[.int .u64 t, .int .u8 lv, S src, S txt]] w fun e w' => e = .returned (S (d1 ++ 32 :: (d2 ++ 32 :: (q1 ++ 32 :: q2)))) ∧ Fr w w' := by
  go_enter Tryd.func12, Tryd.ntmps12
  go_wp2_with fail
  generalize hW : w.alloc (.cells #[.int .u64 t, .int .u8 lv, S src, S txt] 28) = W
  have hf0 : Fr w W := by rw [← hW]; exact (Fr.refl w).alloc _
  have hc0 : W.cell? ⟨w.heap.size, 0, none⟩ = some (.int .u64 t) ∧ W.cell? ⟨w.heap.size, 1, none⟩ = some (.int .u8 lv) ∧ W.cell? ⟨w.heap.size, 2, none⟩ = some (S src) ∧ W.cell? ⟨w.heap.size, 3, none⟩ = some (S txt) := by
    rw [← hW]; refine ⟨?_, ?_, ?_, ?_⟩ <;> rw [World.cell?_alloc_at _ _ _ _ rfl] <;> rfl
  obtain ⟨a0, a1, a2, a3⟩ := hc0
  have HF := hid hf0
  clear hW hf0
  have hwr : IntKind.u64.wrap (lv : Int) = lv := IntWalk.u64_in _ (by omega)
  have HQ1 : Hid (∀ W : World, Calls Tryd.prog 20 #[S src] W fun e w' => e = .returned (S q1) ∧ Fr W w') := fun W => (RQuote_any src W (by omega)).mono (by rintro e w' ⟨rfl, hf⟩; exact ⟨by rw [g3.out], hf⟩)
  have HQ2 : Hid (∀ W : World, Calls Tryd.prog 20 #[S txt] W fun e w' => e = .returned (S q2) ∧ Fr W w') := fun W => (RQuote_any txt W (by omega)).mono (by rintro e w' ⟨rfl, hf⟩; exact ⟨by rw [g4.out], hf⟩)
  have HD1 : Hid (∀ W : World, Calls Tryd.prog 30 #[.int .u64 t] W fun e w' => e = .returned (S d1) ∧ Fr W w') := fun W => (Digits_any t ht W).mono (by rintro e w' ⟨rfl, hf⟩; exact ⟨by rw [g1.out], hf⟩)
  have HD2 : Hid (∀ W : World, Calls Tryd.prog 30 #[.int .u64 lv] W fun e w' => e = .returned (S d2) ∧ Fr W w') := fun W => (Digits_any lv (by omega) W).mono (by rintro e w' ⟨rfl, hf⟩; exact ⟨by rw [g2.out], hf⟩)
  clear g1 g2 g3 g4 h1 h2 ht hlv
  have l0 : ¬ 9223372036854775807 < d1.length + 1 := by omega
  have l1 : ¬ 9223372036854775807 < d1.length + 1 + d2.length := by omega
  have l2 : ¬ 9223372036854775807 < d1.length + 1 + d2.length + 1 := by omega
  have l3 : ¬ 9223372036854775807 < d1.length + 1 + d2.length + 1 + q1.length := by omega
  have l4 : ¬ 9223372036854775807 < d1.length + 1 + d2.length + 1 + q1.length + 1 := by omega
  have l5 : ¬ 9223372036854775807 < d1.length + 1 + d2.length + 1 + q1.length + 1 + q2.length := by omega
  have n0 : d1.length + 1 ≤ 9223372036854775807 := by omega
  have n1 : d1.length + 1 + d2.length ≤ 9223372036854775807 := by omega
  have n2 : d1.length + 1 + d2.length + 1 ≤ 9223372036854775807 := by omega
  have n3 : d1.length + 1 + d2.length + 1 + q1.length ≤ 9223372036854775807 := by omega
  have n4 : d1.length + 1 + d2.length + 1 + q1.length + 1 ≤ 9223372036854775807 := by omega
  have n5 : d1.length + 1 + d2.length + 1 + q1.length + 1 + q2.length ≤ 9223372036854775807 := by omega
  clear e1 e2 e3 e4
  go_region_held3 (fun w' => w'.cell? ⟨w.heap.size, 0, none⟩ = some (.int .u64 t) ∧ w'.cell? ⟨w.heap.size, 1, none⟩ = some (.int .u8 lv) ∧ w'.cell? ⟨w.heap.size, 2, none⟩ = some (S src) ∧ w'.cell? ⟨w.heap.size, 3, none⟩ = some (S txt))
    (first | go_keep)
    ((first
      | (go_at_call_of 30 (Value.int IntKind.u64 (t : Int)); refine (HD1.out _).mono ?_; rintro e w1 ⟨rfl, hf1⟩; have b0 := hf1.cell a0; have b1 := hf1.cell a1; have b2 := hf1.cell a2; have b3 := hf1.cell a3)
      | (go_at_call_of 30 (Value.int IntKind.u64 (lv : Int)); refine (HD2.out _).mono ?_; rintro e w2 ⟨rfl, hf2⟩; have y0 := hf2.cell b0; have y1 := hf2.cell b1; have y2 := hf2.cell b2; have y3 := hf2.cell b3)
      | (go_at_call_of 20 (S src); refine (HQ1.out _).mono ?_; rintro e w3 ⟨rfl, hf3⟩; have i0 := hf3.cell y0; have i1 := hf3.cell y1; have i2 := hf3.cell y2; have i3 := hf3.cell y3)
      | (go_at_call_of 20 (S txt); refine (HQ2.out _).mono ?_; rintro e w4 ⟨rfl, hf4⟩; have j0 := hf4.cell i0; have j1 := hf4.cell i1; have j2 := hf4.cell i2; have j3 := hf4.cell i3)))
  go_wp2_with fail
  go_ret
  refine ⟨congrArg Ending.returned ?_, ((((HF.out.trans (Fr.drew (Fr.refl _))).trans hf1).trans hf2).trans hf3).trans hf4⟩
  show Value.string ((⟨d1.toArray⟩ : ByteArray) ++ ⟨[32].toArray⟩ ++ ⟨d2.toArray⟩ ++ ⟨[32].toArray⟩ ++ ⟨q1.toArray⟩ ++ ⟨[32].toArray⟩ ++ ⟨q2.toArray⟩) = _
  simp only [b_add]
  simp [S]
theorem RLine_any (r : Rec) (w : World) (h1 : r.source.length ≤ 100000000) (h2 : r.text.length ≤ 100000000) :
    Calls Tryd.prog 12 #[recV r] w fun e w' => e = .returned (S (lineOf r)) ∧ Fr w w' :=
  rline_any r.time.toNat r.level.toNat r.source r.text _ _ _ _ w r.time.toNat_lt r.level.toNat_lt h1 h2 rfl rfl rfl rfl
    (decDigits_le _ r.time.toNat_lt) (decDigits_le _ (by have := r.level.toNat_lt; omega)) (by have := quote_le r.source; omega) (by have := quote_le r.text; omega)
end Go.Proofs.YtgckkemmabaffaaDoor
