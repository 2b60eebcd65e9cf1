/- Walks of ask: a shown query within an Op; the digits of a span. -/
import Derived.Test.YtjepodlalcnecaaDoorEltQ
import Derived.Test.YtjepodlalcnecaaDoorSpec28e
import Derived.Test.YtjepodlalcnecaaDoorNum
import Derived.Test.YtjepodlalcnecaaDoorW28n
set_option linter.unusedVariables false
namespace Go.Proofs.YtjepodlalcnecaaDoor
open Go.RowKit Go.Fk
def shV (x : Sh) : Value := .agg #[S x.1, .int .i64 x.2]
def eW : Elt Tryd.prog Sh := ⟨57, 2, 24, ([], 0), .agg #[.string ⟨#[]⟩, .int .i64 0], fun x => [S x.1, .int .i64 x.2], by kernel_rfl, by decide, by decide, by simp [Value.cells], fun _ => rfl, by intro x u hu; simp only [List.mem_cons, List.not_mem_nil, or_false] at hu; rcases hu with rfl | rfl <;> rfl⟩
set_option maxRecDepth 100000 in
set_option maxHeartbeats 2000000 in
theorem within_any (x : Sh) (op : Int) (w : World) (hl : x.1.length ≤ 1000000000) :
    Calls Tryd.prog 41 #[shV x, .int .i64 op] w fun e w' => e = .returned (S (within op x)) ∧ Fr w w' := by
  obtain ⟨t, k⟩ := x
  have l1 : ¬ 9223372036854775807 < 1 + t.length := by simp only at hl; omega
  have l2 : ¬ 9223372036854775807 < 1 + t.length + 1 := by simp only at hl; omega
  have n1 : 1 + t.length ≤ 9223372036854775807 := by omega
  have n2 : 1 + t.length + 1 ≤ 9223372036854775807 := by omega
  clear hl
  have HW : Hid (within op (t, k) = if k = 7 ∨ k = 6 ∧ op ≠ 7 then 40 :: (t ++ [41]) else t) := rfl
  generalize within op (t, k) = Y at *
  unfold shV
  by_cases h7 : k = 7
  · subst h7
    have HY : Hid (Y = 40 :: (t ++ [41])) := by show _ = _; rw [HW.out, if_pos (.inl rfl)]
    clear HW
    go_enter Tryd.func41, Tryd.ntmps41
    go_wp2_with fail
    go_ret
    refine ⟨congrArg Ending.returned ?_, (Fr.refl w).alloc _⟩
    rw [HY.out]
    show Value.string ((⟨[40].toArray⟩ : ByteArray) ++ ⟨t.toArray⟩ ++ ⟨[41].toArray⟩) = _
    simp only [b_add]
    simp [S]
  · have e7 : (k == 7) = false := by simp [h7]
    by_cases h6 : k = 6
    · subst h6
      by_cases ho : op = 7
      · subst ho
        have HY : Hid (Y = t) := by show _ = _; rw [HW.out, if_neg (by simp)]
        clear HW
        go_enter Tryd.func41, Tryd.ntmps41
        go_wp2_with fail
        go_ret
        exact ⟨by rw [HY.out]; rfl, (Fr.refl w).alloc _⟩
      · have HY : Hid (Y = 40 :: (t ++ [41])) := by show _ = _; rw [HW.out, if_pos (.inr ⟨rfl, ho⟩)]
        have eo : (op != 7) = true := by simp [ho]
        have eo' : (op == 7) = false := by simp [ho]
        clear HW
        go_enter Tryd.func41, Tryd.ntmps41
        go_wp2_with fail
        go_ret
        refine ⟨congrArg Ending.returned ?_, (Fr.refl w).alloc _⟩
        rw [HY.out]
        show Value.string ((⟨[40].toArray⟩ : ByteArray) ++ ⟨t.toArray⟩ ++ ⟨[41].toArray⟩) = _
        simp only [b_add]
        simp [S]
    · have HY : Hid (Y = t) := by show _ = _; rw [HW.out, if_neg (by simp [h7, h6])]
      have e6 : (k == 6) = false := by simp [h6]
      clear HW
      go_enter Tryd.func41, Tryd.ntmps41
      go_wp2_with fail
      go_ret
      exact ⟨by rw [HY.out]; rfl, (Fr.refl w).alloc _⟩
theorem dec_le (u : Nat) (hu : u < 18446744073709551616) : (Lib.decDigits u).length ≤ 20 := by
  rw [Lib.decDigits_length]
  by_cases h : 1 ≤ u
  · have := Lib.numDigits_eq u h hu; split at this <;> omega
  · obtain rfl : u = 0 := by omega
    rw [← Lib.decDigits_length]; exact (by decide +kernel : (Lib.decDigits 0).length ≤ 20)
set_option maxRecDepth 100000 in
set_option maxHeartbeats 2000000 in
theorem digits1 (op n : Int) (word d1 d2 : List UInt8) (a b : Nat) (o c : UInt8) (w : World) (ha : a < 18446744073709551616) (hb : b < 18446744073709551616)
    (g1 : Hid (Lib.decDigits a = d1)) (g2 : Hid (Lib.decDigits b = d2)) (e1 : d1.length ≤ 20) (e2 : d2.length ≤ 20) (ht : Pow w) (hs : 0 < w.heap.size) :
    Calls Tryd.prog 42 #[.agg #[.int .i64 op, .int .i64 n, S word, .int .u64 a, .int .u64 b], S [o], S [c]] w fun e w' => e = .returned (S (o :: (d1 ++ 46 :: 46 :: (d2 ++ [c])))) ∧ Fr w w' := by
  have HD1 : Hid (∀ W : World, Fr w W → Calls Tryd.prog 50 #[.int .u64 a, .int .i64 10] W fun e w' => e = .returned (S d1) ∧ Fr W w') := fun W hf => (FormatUint_any a ha W (ht.fr hs hf)).mono (by rintro e w' ⟨rfl, hf⟩; exact ⟨by rw [g1.out], hf⟩)
  have HD2 : Hid (∀ W : World, Fr w W → Calls Tryd.prog 50 #[.int .u64 b, .int .i64 10] W fun e w' => e = .returned (S d2) ∧ Fr W w') := fun W hf => (FormatUint_any b hb W (ht.fr hs hf)).mono (by rintro e w' ⟨rfl, hf⟩; exact ⟨by rw [g2.out], hf⟩)
  clear g1 g2 ha hb ht hs
  have l0 : ¬ 9223372036854775807 < 1 + d1.length := by omega
  have l1 : ¬ 9223372036854775807 < 1 + d1.length + 2 := by omega
  have l2 : ¬ 9223372036854775807 < 1 + d1.length + 2 + d2.length := by omega
  have l3 : ¬ 9223372036854775807 < 1 + d1.length + 2 + d2.length + 1 := by omega
  have n0 : 1 + d1.length ≤ 9223372036854775807 := by omega
  have n1 : 1 + d1.length + 2 ≤ 9223372036854775807 := by omega
  have n2 : 1 + d1.length + 2 + d2.length ≤ 9223372036854775807 := by omega
  have n3 : 1 + d1.length + 2 + d2.length + 1 ≤ 9223372036854775807 := by omega
  clear e1 e2
  go_enter Tryd.func42, Tryd.ntmps42
  go_wp2_with fail
  generalize hW : w.alloc (.cells #[.int .i64 op, .int .i64 n, S word, .int .u64 a, .int .u64 b] 34) = W
  have hf0 : Fr w W := by rw [← hW]; exact (Fr.refl w).alloc _
  have hc0 : W.cell? ⟨w.heap.size, 3, none⟩ = some (.int .u64 a) ∧ W.cell? ⟨w.heap.size, 4, none⟩ = some (.int .u64 b) := by
    rw [← hW]; refine ⟨?_, ?_⟩ <;> rw [World.cell?_alloc_at _ _ _ _ rfl] <;> rfl
  obtain ⟨a0, a1⟩ := hc0
  have HF := hid hf0
  clear hW hf0
  go_region_held3 (fun w' => w'.cell? ⟨w.heap.size, 3, none⟩ = some (.int .u64 a) ∧ w'.cell? ⟨w.heap.size, 4, none⟩ = some (.int .u64 b))
    (first | go_keep)
    ((first
      | (go_at_call_of 50 (Value.int IntKind.u64 (a : Int)); refine (HD1.out _ (HF.out.trans (Fr.drew (Fr.refl _)))).mono ?_; rintro e w1 ⟨rfl, hf1⟩; have b0 := hf1.cell a0; have b1 := hf1.cell a1)
      | (go_at_call_of 50 (Value.int IntKind.u64 (b : Int)); refine (HD2.out _ ((HF.out.trans (Fr.drew (Fr.refl _))).trans hf1)).mono ?_; rintro e w2 ⟨rfl, hf2⟩; have y0 := hf2.cell b0; have y1 := hf2.cell b1)))
  go_wp2_with fail
  go_ret
  refine ⟨congrArg Ending.returned ?_, ((HF.out.trans (Fr.drew (Fr.refl _))).trans hf1).trans hf2⟩
  show Value.string ((⟨[o].toArray⟩ : ByteArray) ++ ⟨d1.toArray⟩ ++ ⟨[46, 46].toArray⟩ ++ ⟨d2.toArray⟩ ++ ⟨[c].toArray⟩) = _
  simp only [b_add]
  simp [S]
theorem digits_any (s : Stp) (o c : UInt8) (w : World) (hT : LibT w) :
    Calls Tryd.prog 42 #[stpV s, S [o], S [c]] w fun e w' => e = .returned (S (o :: (Lib.decDigits s.fa.toNat ++ 46 :: 46 :: (Lib.decDigits s.fb.toNat ++ [c])))) ∧ Fr w w' :=
  digits1 s.op s.n s.word _ _ s.fa.toNat s.fb.toNat o c w s.fa.toNat_lt s.fb.toNat_lt rfl rfl (dec_le _ s.fa.toNat_lt) (dec_le _ s.fb.toNat_lt) hT.1 hT.2.1
end Go.Proofs.YtjepodlalcnecaaDoor
