/- Walks of text: a record's line. -/
import Derived.Test.YtgckkemmabaffaaDoorW33
import Derived.Test.YtgckkemmabaffaaDoorNum
set_option linter.unusedVariables false
namespace Go.Proofs.YtgckkemmabaffaaDoor
open Go.RowKit Go.Fk Go.Sort

theorem gPow : Tryd.prog.globalNamed "internal/strconv.uint64pow10" = some 1 := by kernel_rfl
/-- the tables -/
def Tabs (w : World) : Prop := Dig w ∧ Pow w ∧ 1 < w.heap.size
theorem Tabs.fr {w w' : World} (h : Tabs w) (hf : Fr w w') : Tabs w' :=
  ⟨h.1.fr hf, var?_below hf gPow h.2.2 h.2.1, by have := hf.size; have := h.2.2; omega⟩
theorem grow_fr (w : World) (k : Nat) (os : Array Obj) : Fr w (grow (w.drewN k) os) := by
  refine (below_drewN (Below.refl w.heap.size w) k).trans ⟨rfl, rfl, rfl, by simp [grow], fun i hi => ?_⟩
  have : i < (w.drewN k).heap.size := hi
  simp only [grow]
  rw [Array.getElem?_append_left this]
theorem Itoa_any (n : Nat) (hn : n ≤ 9223372036854775807) (w : World) (ht : Pow w) :
    Calls Tryd.prog 29 #[.int .i64 n] w fun e w' => e = .returned (S (Lib.decDigits n)) ∧ Fr w w' := by
  refine (Tryd.strconv_Itoa n (by omega) (by omega) w ht).mono ?_
  rintro e w' ⟨he, k, os, rfl⟩
  exact ⟨by rw [he, Lib.itoa_nonneg], grow_fr _ _ _⟩
theorem Join4_any (a b c d : List UInt8) (w : World) (h : a.length + b.length + c.length + d.length ≤ 1000000000) :
    Calls Tryd.prog 27 #[.slice (some ⟨w.heap.size, 0, none⟩) 4 4, S [32]] (w.alloc (.cells #[S a, S b, S c, S d] 9)) fun e w' => e = .returned (S (a ++ 32 :: (b ++ 32 :: (c ++ 32 :: d)))) ∧ Fr (w.alloc (.cells #[S a, S b, S c, S d] 9)) w' := by
  have e : Lib.join ([(⟨a.toArray⟩ : ByteArray), ⟨b.toArray⟩, ⟨c.toArray⟩, ⟨d.toArray⟩].map (·.data.toList)) (⟨#[32]⟩ : ByteArray).data.toList = a ++ 32 :: (b ++ 32 :: (c ++ 32 :: d)) := by
    simp [Lib.join]
  refine (Tryd.strings_Join w.heap.size 0 4 [⟨a.toArray⟩, ⟨b.toArray⟩, ⟨c.toArray⟩, ⟨d.toArray⟩] ⟨#[32]⟩ _ ?_ (by simp) (by simp) (by simp) (by rw [e]; simp; omega)).mono ?_
  · intro j x hx
    rw [Nat.zero_add, World.cell?_alloc_at _ _ _ _ rfl]
    match j, hx with
    | 0, hx => simp at hx; subst hx; rfl
    | 1, hx => simp at hx; subst hx; rfl
    | 2, hx => simp at hx; subst hx; rfl
    | 3, hx => simp at hx; subst hx; rfl
    | j + 4, hx => simp at hx
  · rintro e1 w' ⟨he, hb⟩
    exact ⟨by rw [he, e], hb⟩
theorem decDigits_le (u : Nat) (hu : u < 18446744073709551616) : (Lib.decDigits u).length ≤ 20 := by
  rw [Lib.decDigits_length]
  by_cases h : 1 ≤ u
  · have := Lib.numDigits_eq u h hu; split at this <;> omega
  · obtain rfl : u = 0 := by omega
    rw [← Lib.decDigits_length]; exact (by decide +kernel : (Lib.decDigits 0).length ≤ 20)
theorem quote_le (s : List UInt8) : (quote s).length ≤ 3 * s.length + 2 := by
  have := quoteL_le s; simp [quote]; omega
/-- a record's line -/
def lineOf (r : Rec) : List UInt8 := Lib.decDigits r.time.toNat ++ 32 :: (Lib.decDigits r.level.toNat ++ 32 :: (quote r.source ++ 32 :: quote r.text))
/-- a record's value -/
def recV (r : Rec) : Value := .agg #[.int .u64 r.time.toNat, u8 r.level, S r.source, S r.text]
set_option maxRecDepth 100000 in
set_option maxHeartbeats 1000000 in
theorem Line_any (r : Rec) (w : World) (ht : Tabs w) (h1 : r.source.length ≤ 100000000) (h2 : r.text.length ≤ 100000000) :
    Calls Tryd.prog 11 #[recV r] w fun e w' => e = .returned (S (lineOf r)) ∧ Fr w w' := by
  obtain ⟨t, lv, src, txt⟩ := r
  unfold recV
  go_enter Tryd.func11, Tryd.ntmps11
  go_wp2_with fail
  generalize hW : w.alloc (.cells #[.int .u64 t.toNat, u8 lv, S src, S txt] 28) = W
  have hf0 : Fr w W := by rw [← hW]; exact (Fr.refl w).alloc _
  have hc0 : W.cell? ⟨w.heap.size, 0, none⟩ = some (.int .u64 t.toNat) ∧ W.cell? ⟨w.heap.size, 1, none⟩ = some (u8 lv) ∧ W.cell? ⟨w.heap.size, 2, none⟩ = some (S src) ∧ W.cell? ⟨w.heap.size, 3, none⟩ = some (S txt) := by
    rw [← hW]; refine ⟨?_, ?_, ?_, ?_⟩ <;> rw [World.cell?_alloc_at _ _ _ _ rfl] <;> rfl
  obtain ⟨a0, a1, a2, a3⟩ := hc0
  have HT := hid (ht.fr hf0)
  have HF := hid hf0
  clear hW ht hf0
  have HL : Hid ((Lib.decDigits t.toNat).length + (Lib.decDigits lv.toNat).length + (quote src).length + (quote txt).length ≤ 1000000000) := by
    have e1 := decDigits_le t.toNat t.toNat_lt
    have e2 := decDigits_le lv.toNat (by have := lv.toNat_lt; omega)
    have e3 := quote_le src
    have e4 := quote_le txt
    have h1' : src.length ≤ 100000000 := h1
    have h2' : txt.length ≤ 100000000 := h2
    show _ ≤ _; omega
  have hwr : IntKind.i64.wrap (lv.toNat : Int) = lv.toNat := IntWalk.i64_in _ (by have := lv.toNat_lt; omega)
  go_region_held3 (fun w' => w'.cell? ⟨w.heap.size, 0, none⟩ = some (.int .u64 t.toNat) ∧ w'.cell? ⟨w.heap.size, 1, none⟩ = some (u8 lv) ∧ w'.cell? ⟨w.heap.size, 2, none⟩ = some (S src) ∧ w'.cell? ⟨w.heap.size, 3, none⟩ = some (S txt))
    (first | go_keep)
    ((first
      | (go_at_call 28; refine (FormatUint_any t.toNat t.toNat_lt _ (HT.out.fr (Fr.drew (Fr.refl _))).2.1).mono ?_; rintro e w1 ⟨rfl, hf1⟩; have b0 := hf1.cell a0; have b1 := hf1.cell a1; have b2 := hf1.cell a2; have b3 := hf1.cell a3)
      | (go_at_call 29; refine (Itoa_any lv.toNat (by have := lv.toNat_lt; omega) _ ((HT.out.fr (Fr.drew (Fr.refl _))).fr hf1).2.1).mono ?_; rintro e w2 ⟨rfl, hf2⟩; have d0 := hf2.cell b0; have d1 := hf2.cell b1; have d2 := hf2.cell b2; have d3 := hf2.cell b3)
      | (go_at_call_of 15 (S src); refine (Quote_any src _ (((HT.out.fr (Fr.drew (Fr.refl _))).fr hf1).fr hf2).1 (by omega)).mono ?_; rintro e w3 ⟨rfl, hf3⟩; have i0 := hf3.cell d0; have i1 := hf3.cell d1; have i2 := hf3.cell d2; have i3 := hf3.cell d3)
      | (go_at_call_of 15 (S txt); refine (Quote_any txt _ ((((HT.out.fr (Fr.drew (Fr.refl _))).fr hf1).fr hf2).fr hf3).1 (by omega)).mono ?_; rintro e w4 ⟨rfl, hf4⟩; have j0 := hf4.cell i0; have j1 := hf4.cell i1; have j2 := hf4.cell i2; have j3 := hf4.cell i3)
      | (go_at_call 27; refine (Join4_any _ _ _ _ _ HL.out).mono ?_; rintro e w5 ⟨rfl, hf5⟩; have k0 := hf5.cell (((Fr.refl w4).alloc _).cell j0); have k1 := hf5.cell (((Fr.refl w4).alloc _).cell j1); have k2 := hf5.cell (((Fr.refl w4).alloc _).cell j2); have k3 := hf5.cell (((Fr.refl w4).alloc _).cell j3))))
  go_goals
  go_wp2_with fail
  go_ret
  exact ⟨rfl, (((((HF.out.trans (Fr.drew (Fr.refl _))).trans hf1).trans hf2).trans hf3).trans hf4).trans (((Fr.refl w4).alloc _).trans hf5)⟩
end Go.Proofs.YtgckkemmabaffaaDoor
