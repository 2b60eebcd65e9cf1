/- Walks of the query laws: the leaves. -/
import Derived.Test.YtjepodlalcnecaaDoorW28y
import Derived.Test.YtjepodlalcnecaaDoorW28h
set_option linter.unusedVariables false
namespace Go.Proofs.YtjepodlalcnecaaDoor
open Go.RowKit Go.Fk
theorem zero64 : (((0 : UInt64).toNat : Nat) : Int) = 0 := rfl
theorem leaf_see (w : World) (op : Int) (q : List UInt8) (T : TypeId) : See (w.alloc (.cells #[.int .i64 op, .int .i64 0, S q, .int .u64 0, .int .u64 0] T)) eT (.slice (some ⟨w.heap.size, 0, none⟩) 1 1) [(⟨op, 0, q, 0, 0⟩ : Stp)] := by
  refine see_new eT w [(⟨op, 0, q, 0, 0⟩ : Stp)] _ T 1 rfl ?_ (by simp [maxLen])
  show _ = stpCells ⟨op, 0, q, 0, 0⟩ ++ []
  simp only [stpCells, zero64, List.append_nil]
end Go.Proofs.YtjepodlalcnecaaDoor
namespace Go.Proofs.YtjepodlalcnecaaDoor
open Go.RowKit Go.Fk
set_option maxRecDepth 100000 in
set_option maxHeartbeats 4000000 in
theorem AskLeaves_nil (s : List UInt8) (hs : s = []) (x y : UInt64) (w : World) (hT : LibT w) :
    Calls Tryd.prog 8 #[S [], .int .u64 x.toNat, .int .u64 y.toNat] w fun e w' => e = .returned (.bool true) ∧ Fr w w' := by
  go_enter Tryd.func8, Tryd.ntmps8
  go_wp2_with fail
  refine (alive_any _ hT).mono ?_
  rintro e w1 ⟨rfl, hf1⟩
  clear hT
  have HS : Hid (smallO s = oneOf []) := by subst hs; rfl
  go_wp2_with fail
  refine (rOne_any [] _).mono ?_
  rintro e w2 ⟨he, hf2⟩
  have ho : oneOf [] = none := rfl
  rw [ho] at he
  subst he
  have HW : Hid (leafL 1 s = []) := by show _ = _; unfold leafL; rw [HS.out, ho]
  have HP : Hid (leafL 2 s = []) := by show _ = _; unfold leafL; rw [HS.out, ho]
  have hnl : See w2 eT (.slice none 0 0) [] := See.nil
  have hf02 := hf1.trans hf2
  clear ho
  unfold OneV
  go_wp2_with fail
  refine (Word_any [] _).mono ?_
  rintro e w3 ⟨v3, rfl, hown3, hf3, _⟩
  obtain ⟨a3, c3, hv3⟩ := hown3.shape'
  subst hv3
  rw [show leafL 1 [] = [] from rfl] at hown3
  go_wp2_with fail
  refine (SameQ_any _ _ _ _ _ hown3.see (hnl.fr hf3)).mono ?_
  rintro e w4 ⟨rfl, hf4⟩
  rw [decide_eq_true (rfl : ([] : List Stp) = ([] : List Stp))]
  go_wp2_with fail
  refine (Prefix_any [] _).mono ?_
  rintro e w5 ⟨v5, rfl, hown5, hf5, _⟩
  obtain ⟨a5, c5, hv5⟩ := hown5.shape'
  subst hv5
  rw [show leafL 2 [] = [] from rfl] at hown5
  go_wp2_with fail
  refine (SameQ_any _ _ _ _ _ hown5.see (hnl.fr ((hf3.trans hf4).trans hf5))).mono ?_
  rintro e w6 ⟨rfl, hf6⟩
  rw [decide_eq_true (rfl : ([] : List Stp) = ([] : List Stp))]
  have hf06 := hf02.trans (((hf3.trans hf4).trans hf5).trans hf6)
  go_wp2_with fail
  refine (Time_any x y _).mono ?_
  rintro e w7 ⟨v7, rfl, hown7, hf7⟩
  obtain ⟨a7, c7, hv7⟩ := hown7.shape'
  subst hv7
  go_wp2_with fail
  refine (SameQ_any _ _ _ _ _ (hown7.see.fr ((Fr.refl w7).alloc _)) (see_new eT w7 [spanS 3 x y] _ _ 1 rfl rfl (by simp [maxLen]))).mono ?_
  rintro e w8 ⟨rfl, hf8⟩
  rw [decide_eq_true (rfl : [spanS 3 x y] = [spanS 3 x y])]
  go_wp2_with fail
  refine (Level_any x y _).mono ?_
  rintro e w9 ⟨v9, rfl, hown9, hf9⟩
  obtain ⟨a9, c9, hv9⟩ := hown9.shape'
  subst hv9
  go_wp2_with fail
  refine (SameQ_any _ _ _ _ _ (hown9.see.fr ((Fr.refl w9).alloc _)) (see_new eT w9 [spanS 4 x y] _ _ 1 rfl rfl (by simp [maxLen]))).mono ?_
  rintro e w10 ⟨rfl, hf10⟩
  rw [decide_eq_true (rfl : [spanS 4 x y] = [spanS 4 x y])]
  go_wp2_with fail
  go_ret
  exact ⟨rfl, (((hf06.trans hf7).trans (((Fr.refl w7).alloc _).trans hf8)).trans hf9).trans (((Fr.refl w9).alloc _).trans hf10)⟩
end Go.Proofs.YtjepodlalcnecaaDoor
namespace Go.Proofs.YtjepodlalcnecaaDoor
open Go.RowKit Go.Fk
set_option maxRecDepth 100000 in
set_option maxHeartbeats 4000000 in
theorem AskLeaves_64n (s : List UInt8) (c : UInt8) (r : List UInt8) (hcr : s = c :: r) (h : c = 64) (ho : oneOf r = none) (x y : UInt64) (w : World) (hT : LibT w) :
    Calls Tryd.prog 8 #[S s, .int .u64 x.toNat, .int .u64 y.toNat] w fun e w' => e = .returned (.bool true) ∧ Fr w w' := by
  have HO := hid ho
  clear ho
  go_enter Tryd.func8, Tryd.ntmps8
  go_wp2_with fail
  refine (alive_any _ hT).mono ?_
  rintro e w1 ⟨rfl, hf1⟩
  clear hT
  have hlp : 0 < s.length := by rw [hcr]; simp
  have x1 : (⟨s.toArray⟩ : ByteArray).extract 1 s.length = ⟨r.toArray⟩ := by subst hcr; exact tail_eq c r
  have x0 : (⟨s.toArray⟩ : ByteArray)[0]'(by simp [ByteArray.size]; omega) = c := by subst hcr; rfl
  have hne : s.isEmpty = false := by subst hcr; rfl
  have hT1 : c = 64 → smallO s = (oneOf r).map fun w => 64 :: w := fun h => by rw [hcr, smallO, if_pos h]
  have hT2 : c ≠ 64 → smallO s = oneOf s := fun h => by rw [hcr, smallO, if_neg h]
  have hl0 : (0 : Int) < s.length := by omega
  have hl1 : (1 : Int) ≤ s.length := by omega
  have H1 := hid hT1
  have H2 := hid hT2
  clear hT1 hT2 hcr
  have hb : ((c.toNat : Int) == 64) = true := by rw [h]; rfl
  have HS : Hid (smallO s = (oneOf r).map fun w => 64 :: w) := H1.out h
  clear h
  go_wp2_with fail
  refine (rOne_any r _).mono ?_
  rintro e w2 ⟨he, hf2⟩
  have ho := HO.out
  clear HO
  rw [ho] at he
  subst he
  have HW : Hid (leafL 1 s = []) := by show _ = _; unfold leafL; rw [HS.out, ho]; rfl
  have HP : Hid (leafL 2 s = []) := by show _ = _; unfold leafL; rw [HS.out, ho]; rfl
  have hnl : See w2 eT (.slice none 0 0) [] := See.nil
  have hf02 := hf1.trans hf2
  clear ho
  unfold OneV
  go_wp2_with fail
  refine (Word_any s _).mono ?_
  rintro e w3 ⟨v3, rfl, hown3, hf3, _⟩
  rw [HW.out] at hown3
  obtain ⟨a3, c3, hv3⟩ := hown3.shape'
  subst hv3
  go_wp2_with fail
  refine (SameQ_any _ _ _ _ _ hown3.see (hnl.fr hf3)).mono ?_
  rintro e w4 ⟨rfl, hf4⟩
  rw [decide_eq_true (rfl : ([] : List Stp) = ([] : List Stp))]
  go_wp2_with fail
  refine (Prefix_any s _).mono ?_
  rintro e w5 ⟨v5, rfl, hown5, hf5, _⟩
  rw [HP.out] at hown5
  obtain ⟨a5, c5, hv5⟩ := hown5.shape'
  subst hv5
  go_wp2_with fail
  refine (SameQ_any _ _ _ _ _ hown5.see (hnl.fr ((hf3.trans hf4).trans hf5))).mono ?_
  rintro e w6 ⟨rfl, hf6⟩
  rw [decide_eq_true (rfl : ([] : List Stp) = ([] : List Stp))]
  have hf06 := hf02.trans (((hf3.trans hf4).trans hf5).trans hf6)
  go_wp2_with fail
  refine (Time_any x y _).mono ?_
  rintro e w7 ⟨v7, rfl, hown7, hf7⟩
  obtain ⟨a7, c7, hv7⟩ := hown7.shape'
  subst hv7
  go_wp2_with fail
  refine (SameQ_any _ _ _ _ _ (hown7.see.fr ((Fr.refl w7).alloc _)) (see_new eT w7 [spanS 3 x y] _ _ 1 rfl rfl (by simp [maxLen]))).mono ?_
  rintro e w8 ⟨rfl, hf8⟩
  rw [decide_eq_true (rfl : [spanS 3 x y] = [spanS 3 x y])]
  go_wp2_with fail
  refine (Level_any x y _).mono ?_
  rintro e w9 ⟨v9, rfl, hown9, hf9⟩
  obtain ⟨a9, c9, hv9⟩ := hown9.shape'
  subst hv9
  go_wp2_with fail
  refine (SameQ_any _ _ _ _ _ (hown9.see.fr ((Fr.refl w9).alloc _)) (see_new eT w9 [spanS 4 x y] _ _ 1 rfl rfl (by simp [maxLen]))).mono ?_
  rintro e w10 ⟨rfl, hf10⟩
  rw [decide_eq_true (rfl : [spanS 4 x y] = [spanS 4 x y])]
  go_wp2_with fail
  go_ret
  exact ⟨rfl, (((hf06.trans hf7).trans (((Fr.refl w7).alloc _).trans hf8)).trans hf9).trans (((Fr.refl w9).alloc _).trans hf10)⟩
end Go.Proofs.YtjepodlalcnecaaDoor
namespace Go.Proofs.YtjepodlalcnecaaDoor
open Go.RowKit Go.Fk
set_option maxRecDepth 100000 in
set_option maxHeartbeats 4000000 in
theorem AskLeaves_64s (s : List UInt8) (c : UInt8) (r : List UInt8) (hcr : s = c :: r) (h : c = 64) (q : List UInt8) (ho : oneOf r = some q) (x y : UInt64) (w : World) (hT : LibT w) :
    Calls Tryd.prog 8 #[S s, .int .u64 x.toNat, .int .u64 y.toNat] w fun e w' => e = .returned (.bool true) ∧ Fr w w' := by
  have HO := hid ho
  clear ho
  go_enter Tryd.func8, Tryd.ntmps8
  go_wp2_with fail
  refine (alive_any _ hT).mono ?_
  rintro e w1 ⟨rfl, hf1⟩
  clear hT
  have hlp : 0 < s.length := by rw [hcr]; simp
  have x1 : (⟨s.toArray⟩ : ByteArray).extract 1 s.length = ⟨r.toArray⟩ := by subst hcr; exact tail_eq c r
  have x0 : (⟨s.toArray⟩ : ByteArray)[0]'(by simp [ByteArray.size]; omega) = c := by subst hcr; rfl
  have hne : s.isEmpty = false := by subst hcr; rfl
  have hT1 : c = 64 → smallO s = (oneOf r).map fun w => 64 :: w := fun h => by rw [hcr, smallO, if_pos h]
  have hT2 : c ≠ 64 → smallO s = oneOf s := fun h => by rw [hcr, smallO, if_neg h]
  have hl0 : (0 : Int) < s.length := by omega
  have hl1 : (1 : Int) ≤ s.length := by omega
  have H1 := hid hT1
  have H2 := hid hT2
  clear hT1 hT2 hcr
  have hb : ((c.toNat : Int) == 64) = true := by rw [h]; rfl
  have HS : Hid (smallO s = (oneOf r).map fun w => 64 :: w) := H1.out h
  clear h
  go_wp2_with fail
  refine (rOne_any r _).mono ?_
  rintro e w2 ⟨he, hf2⟩
  have ho := HO.out
  clear HO
  rw [ho] at he
  subst he
  have HW : Hid (leafL 1 s = ([⟨1, 0, 64 :: q, 0, 0⟩] : List Stp)) := by show _ = _; unfold leafL; rw [HS.out, ho]; rfl
  have HP : Hid (leafL 2 s = ([⟨2, 0, 64 :: q, 0, 0⟩] : List Stp)) := by show _ = _; unfold leafL; rw [HS.out, ho]; rfl
  have hap : (⟨#[64]⟩ : ByteArray) ++ ⟨q.toArray⟩ = ⟨(64 :: q).toArray⟩ := by rw [b_add]; rfl
  have hap2 : (⟨[64].toArray⟩ : ByteArray) ++ ⟨q.toArray⟩ = ⟨(64 :: q).toArray⟩ := hap
  have hql := oneOf_len _ _ ho
  have g1 : ¬ 9223372036854775807 < 1 + q.length := by omega
  have g2 : 1 + q.length ≤ 9223372036854775807 := by omega
  have g3 : ¬ 9223372036854775807 < q.length := by omega
  have g4 : q.length ≤ 9223372036854775807 := by omega
  clear ho hql
  unfold OneV
  have hsa := leaf_see w2 1 (64 :: q) 34
  have hsb := leaf_see (w2.alloc (.cells #[.int .i64 1, .int .i64 0, S (64 :: q), .int .u64 0, .int .u64 0] 34)) 2 (64 :: q) 34
  rw [size_alloc] at hsb
  have hsa2 := hsa.fr ((Fr.refl _).alloc (.cells #[.int .i64 2, .int .i64 0, S (64 :: q), .int .u64 0, .int .u64 0] 34))
  have hf02 := ((hf1.trans hf2).alloc (.cells #[.int .i64 1, .int .i64 0, S (64 :: q), .int .u64 0, .int .u64 0] 34)).alloc (.cells #[.int .i64 2, .int .i64 0, S (64 :: q), .int .u64 0, .int .u64 0] 34)
  go_wp2_with fail
  refine (Word_any s _).mono ?_
  rintro e w3 ⟨v3, rfl, hown3, hf3, _⟩
  rw [HW.out] at hown3
  obtain ⟨a3, c3, hv3⟩ := hown3.shape'
  subst hv3
  go_wp2_with fail
  refine (SameQ_any _ _ _ _ _ hown3.see (hsa2.fr hf3)).mono ?_
  rintro e w4 ⟨rfl, hf4⟩
  rw [decide_eq_true (rfl : ([⟨1, 0, 64 :: q, 0, 0⟩] : List Stp) = ([⟨1, 0, 64 :: q, 0, 0⟩] : List Stp))]
  go_wp2_with fail
  refine (Prefix_any s _).mono ?_
  rintro e w5 ⟨v5, rfl, hown5, hf5, _⟩
  rw [HP.out] at hown5
  obtain ⟨a5, c5, hv5⟩ := hown5.shape'
  subst hv5
  go_wp2_with fail
  refine (SameQ_any _ _ _ _ _ hown5.see (hsb.fr ((hf3.trans hf4).trans hf5))).mono ?_
  rintro e w6 ⟨rfl, hf6⟩
  rw [decide_eq_true (rfl : ([⟨2, 0, 64 :: q, 0, 0⟩] : List Stp) = ([⟨2, 0, 64 :: q, 0, 0⟩] : List Stp))]
  have hf06 := hf02.trans (((hf3.trans hf4).trans hf5).trans hf6)
  go_wp2_with fail
  refine (Time_any x y _).mono ?_
  rintro e w7 ⟨v7, rfl, hown7, hf7⟩
  obtain ⟨a7, c7, hv7⟩ := hown7.shape'
  subst hv7
  go_wp2_with fail
  refine (SameQ_any _ _ _ _ _ (hown7.see.fr ((Fr.refl w7).alloc _)) (see_new eT w7 [spanS 3 x y] _ _ 1 rfl rfl (by simp [maxLen]))).mono ?_
  rintro e w8 ⟨rfl, hf8⟩
  rw [decide_eq_true (rfl : [spanS 3 x y] = [spanS 3 x y])]
  go_wp2_with fail
  refine (Level_any x y _).mono ?_
  rintro e w9 ⟨v9, rfl, hown9, hf9⟩
  obtain ⟨a9, c9, hv9⟩ := hown9.shape'
  subst hv9
  go_wp2_with fail
  refine (SameQ_any _ _ _ _ _ (hown9.see.fr ((Fr.refl w9).alloc _)) (see_new eT w9 [spanS 4 x y] _ _ 1 rfl rfl (by simp [maxLen]))).mono ?_
  rintro e w10 ⟨rfl, hf10⟩
  rw [decide_eq_true (rfl : [spanS 4 x y] = [spanS 4 x y])]
  go_wp2_with fail
  go_ret
  exact ⟨rfl, (((hf06.trans hf7).trans (((Fr.refl w7).alloc _).trans hf8)).trans hf9).trans (((Fr.refl w9).alloc _).trans hf10)⟩
end Go.Proofs.YtjepodlalcnecaaDoor
namespace Go.Proofs.YtjepodlalcnecaaDoor
open Go.RowKit Go.Fk
set_option maxRecDepth 100000 in
set_option maxHeartbeats 4000000 in
theorem AskLeaves_on (s : List UInt8) (c : UInt8) (r : List UInt8) (hcr : s = c :: r) (h : ¬ c = 64) (ho : oneOf s = none) (x y : UInt64) (w : World) (hT : LibT w) :
    Calls Tryd.prog 8 #[S s, .int .u64 x.toNat, .int .u64 y.toNat] w fun e w' => e = .returned (.bool true) ∧ Fr w w' := by
  have HO := hid ho
  clear ho
  go_enter Tryd.func8, Tryd.ntmps8
  go_wp2_with fail
  refine (alive_any _ hT).mono ?_
  rintro e w1 ⟨rfl, hf1⟩
  clear hT
  have hlp : 0 < s.length := by rw [hcr]; simp
  have x1 : (⟨s.toArray⟩ : ByteArray).extract 1 s.length = ⟨r.toArray⟩ := by subst hcr; exact tail_eq c r
  have x0 : (⟨s.toArray⟩ : ByteArray)[0]'(by simp [ByteArray.size]; omega) = c := by subst hcr; rfl
  have hne : s.isEmpty = false := by subst hcr; rfl
  have hT1 : c = 64 → smallO s = (oneOf r).map fun w => 64 :: w := fun h => by rw [hcr, smallO, if_pos h]
  have hT2 : c ≠ 64 → smallO s = oneOf s := fun h => by rw [hcr, smallO, if_neg h]
  have hl0 : (0 : Int) < s.length := by omega
  have hl1 : (1 : Int) ≤ s.length := by omega
  have H1 := hid hT1
  have H2 := hid hT2
  clear hT1 hT2 hcr
  have hb : ((c.toNat : Int) == 64) = false := by simp; exact fun e => h (UInt8.toNat_inj.1 (by show c.toNat = 64; omega))
  have HS : Hid (smallO s = oneOf s) := H2.out h
  clear h
  go_wp2_with fail
  refine (rOne_any s _).mono ?_
  rintro e w2 ⟨he, hf2⟩
  have ho := HO.out
  clear HO
  rw [ho] at he
  subst he
  have HW : Hid (leafL 1 s = []) := by show _ = _; unfold leafL; rw [HS.out, ho]
  have HP : Hid (leafL 2 s = []) := by show _ = _; unfold leafL; rw [HS.out, ho]
  have hnl : See w2 eT (.slice none 0 0) [] := See.nil
  have hf02 := hf1.trans hf2
  clear ho
  unfold OneV
  go_wp2_with fail
  refine (Word_any s _).mono ?_
  rintro e w3 ⟨v3, rfl, hown3, hf3, _⟩
  rw [HW.out] at hown3
  obtain ⟨a3, c3, hv3⟩ := hown3.shape'
  subst hv3
  go_wp2_with fail
  refine (SameQ_any _ _ _ _ _ hown3.see (hnl.fr hf3)).mono ?_
  rintro e w4 ⟨rfl, hf4⟩
  rw [decide_eq_true (rfl : ([] : List Stp) = ([] : List Stp))]
  go_wp2_with fail
  refine (Prefix_any s _).mono ?_
  rintro e w5 ⟨v5, rfl, hown5, hf5, _⟩
  rw [HP.out] at hown5
  obtain ⟨a5, c5, hv5⟩ := hown5.shape'
  subst hv5
  go_wp2_with fail
  refine (SameQ_any _ _ _ _ _ hown5.see (hnl.fr ((hf3.trans hf4).trans hf5))).mono ?_
  rintro e w6 ⟨rfl, hf6⟩
  rw [decide_eq_true (rfl : ([] : List Stp) = ([] : List Stp))]
  have hf06 := hf02.trans (((hf3.trans hf4).trans hf5).trans hf6)
  go_wp2_with fail
  refine (Time_any x y _).mono ?_
  rintro e w7 ⟨v7, rfl, hown7, hf7⟩
  obtain ⟨a7, c7, hv7⟩ := hown7.shape'
  subst hv7
  go_wp2_with fail
  refine (SameQ_any _ _ _ _ _ (hown7.see.fr ((Fr.refl w7).alloc _)) (see_new eT w7 [spanS 3 x y] _ _ 1 rfl rfl (by simp [maxLen]))).mono ?_
  rintro e w8 ⟨rfl, hf8⟩
  rw [decide_eq_true (rfl : [spanS 3 x y] = [spanS 3 x y])]
  go_wp2_with fail
  refine (Level_any x y _).mono ?_
  rintro e w9 ⟨v9, rfl, hown9, hf9⟩
  obtain ⟨a9, c9, hv9⟩ := hown9.shape'
  subst hv9
  go_wp2_with fail
  refine (SameQ_any _ _ _ _ _ (hown9.see.fr ((Fr.refl w9).alloc _)) (see_new eT w9 [spanS 4 x y] _ _ 1 rfl rfl (by simp [maxLen]))).mono ?_
  rintro e w10 ⟨rfl, hf10⟩
  rw [decide_eq_true (rfl : [spanS 4 x y] = [spanS 4 x y])]
  go_wp2_with fail
  go_ret
  exact ⟨rfl, (((hf06.trans hf7).trans (((Fr.refl w7).alloc _).trans hf8)).trans hf9).trans (((Fr.refl w9).alloc _).trans hf10)⟩
end Go.Proofs.YtjepodlalcnecaaDoor
namespace Go.Proofs.YtjepodlalcnecaaDoor
open Go.RowKit Go.Fk
set_option maxRecDepth 100000 in
set_option maxHeartbeats 4000000 in
theorem AskLeaves_os (s : List UInt8) (c : UInt8) (r : List UInt8) (hcr : s = c :: r) (h : ¬ c = 64) (q : List UInt8) (ho : oneOf s = some q) (x y : UInt64) (w : World) (hT : LibT w) :
    Calls Tryd.prog 8 #[S s, .int .u64 x.toNat, .int .u64 y.toNat] w fun e w' => e = .returned (.bool true) ∧ Fr w w' := by
  have HO := hid ho
  clear ho
  go_enter Tryd.func8, Tryd.ntmps8
  go_wp2_with fail
  refine (alive_any _ hT).mono ?_
  rintro e w1 ⟨rfl, hf1⟩
  clear hT
  have hlp : 0 < s.length := by rw [hcr]; simp
  have x1 : (⟨s.toArray⟩ : ByteArray).extract 1 s.length = ⟨r.toArray⟩ := by subst hcr; exact tail_eq c r
  have x0 : (⟨s.toArray⟩ : ByteArray)[0]'(by simp [ByteArray.size]; omega) = c := by subst hcr; rfl
  have hne : s.isEmpty = false := by subst hcr; rfl
  have hT1 : c = 64 → smallO s = (oneOf r).map fun w => 64 :: w := fun h => by rw [hcr, smallO, if_pos h]
  have hT2 : c ≠ 64 → smallO s = oneOf s := fun h => by rw [hcr, smallO, if_neg h]
  have hl0 : (0 : Int) < s.length := by omega
  have hl1 : (1 : Int) ≤ s.length := by omega
  have H1 := hid hT1
  have H2 := hid hT2
  clear hT1 hT2 hcr
  have hb : ((c.toNat : Int) == 64) = false := by simp; exact fun e => h (UInt8.toNat_inj.1 (by show c.toNat = 64; omega))
  have HS : Hid (smallO s = oneOf s) := H2.out h
  clear h
  go_wp2_with fail
  refine (rOne_any s _).mono ?_
  rintro e w2 ⟨he, hf2⟩
  have ho := HO.out
  clear HO
  rw [ho] at he
  subst he
  have HW : Hid (leafL 1 s = ([⟨1, 0, q, 0, 0⟩] : List Stp)) := by show _ = _; unfold leafL; rw [HS.out, ho]
  have HP : Hid (leafL 2 s = ([⟨2, 0, q, 0, 0⟩] : List Stp)) := by show _ = _; unfold leafL; rw [HS.out, ho]
  have hap : (⟨[].toArray⟩ : ByteArray) ++ ⟨q.toArray⟩ = ⟨q.toArray⟩ := by rw [b_add]; rfl
  have hap2 : (⟨#[]⟩ : ByteArray) ++ ⟨q.toArray⟩ = ⟨q.toArray⟩ := hap
  have hql := oneOf_len _ _ ho
  have g1 : ¬ 9223372036854775807 < 0 + q.length := by omega
  have g2 : 0 + q.length ≤ 9223372036854775807 := by omega
  have g3 : ¬ 9223372036854775807 < q.length := by omega
  have g4 : q.length ≤ 9223372036854775807 := by omega
  clear ho hql
  unfold OneV
  have hsa := leaf_see w2 1 (q) 34
  have hsb := leaf_see (w2.alloc (.cells #[.int .i64 1, .int .i64 0, S (q), .int .u64 0, .int .u64 0] 34)) 2 (q) 34
  rw [size_alloc] at hsb
  have hsa2 := hsa.fr ((Fr.refl _).alloc (.cells #[.int .i64 2, .int .i64 0, S (q), .int .u64 0, .int .u64 0] 34))
  have hf02 := ((hf1.trans hf2).alloc (.cells #[.int .i64 1, .int .i64 0, S (q), .int .u64 0, .int .u64 0] 34)).alloc (.cells #[.int .i64 2, .int .i64 0, S (q), .int .u64 0, .int .u64 0] 34)
  go_wp2_with fail
  refine (Word_any s _).mono ?_
  rintro e w3 ⟨v3, rfl, hown3, hf3, _⟩
  rw [HW.out] at hown3
  obtain ⟨a3, c3, hv3⟩ := hown3.shape'
  subst hv3
  go_wp2_with fail
  refine (SameQ_any _ _ _ _ _ hown3.see (hsa2.fr hf3)).mono ?_
  rintro e w4 ⟨rfl, hf4⟩
  rw [decide_eq_true (rfl : ([⟨1, 0, q, 0, 0⟩] : List Stp) = ([⟨1, 0, q, 0, 0⟩] : List Stp))]
  go_wp2_with fail
  refine (Prefix_any s _).mono ?_
  rintro e w5 ⟨v5, rfl, hown5, hf5, _⟩
  rw [HP.out] at hown5
  obtain ⟨a5, c5, hv5⟩ := hown5.shape'
  subst hv5
  go_wp2_with fail
  refine (SameQ_any _ _ _ _ _ hown5.see (hsb.fr ((hf3.trans hf4).trans hf5))).mono ?_
  rintro e w6 ⟨rfl, hf6⟩
  rw [decide_eq_true (rfl : ([⟨2, 0, q, 0, 0⟩] : List Stp) = ([⟨2, 0, q, 0, 0⟩] : List Stp))]
  have hf06 := hf02.trans (((hf3.trans hf4).trans hf5).trans hf6)
  go_wp2_with fail
  refine (Time_any x y _).mono ?_
  rintro e w7 ⟨v7, rfl, hown7, hf7⟩
  obtain ⟨a7, c7, hv7⟩ := hown7.shape'
  subst hv7
  go_wp2_with fail
  refine (SameQ_any _ _ _ _ _ (hown7.see.fr ((Fr.refl w7).alloc _)) (see_new eT w7 [spanS 3 x y] _ _ 1 rfl rfl (by simp [maxLen]))).mono ?_
  rintro e w8 ⟨rfl, hf8⟩
  rw [decide_eq_true (rfl : [spanS 3 x y] = [spanS 3 x y])]
  go_wp2_with fail
  refine (Level_any x y _).mono ?_
  rintro e w9 ⟨v9, rfl, hown9, hf9⟩
  obtain ⟨a9, c9, hv9⟩ := hown9.shape'
  subst hv9
  go_wp2_with fail
  refine (SameQ_any _ _ _ _ _ (hown9.see.fr ((Fr.refl w9).alloc _)) (see_new eT w9 [spanS 4 x y] _ _ 1 rfl rfl (by simp [maxLen]))).mono ?_
  rintro e w10 ⟨rfl, hf10⟩
  rw [decide_eq_true (rfl : [spanS 4 x y] = [spanS 4 x y])]
  go_wp2_with fail
  go_ret
  exact ⟨rfl, (((hf06.trans hf7).trans (((Fr.refl w7).alloc _).trans hf8)).trans hf9).trans (((Fr.refl w9).alloc _).trans hf10)⟩
end Go.Proofs.YtjepodlalcnecaaDoor
namespace Go.Proofs.YtjepodlalcnecaaDoor
open Go.RowKit Go.Fk
theorem AskLeaves_any (s : List UInt8) (x y : UInt64) (w : World) (hT : LibT w) :
    Calls Tryd.prog 8 #[S s, .int .u64 x.toNat, .int .u64 y.toNat] w fun e w' => e = .returned (.bool true) ∧ Fr w w' := by
  cases s with
  | nil => exact AskLeaves_nil [] rfl x y w hT
  | cons c r =>
    by_cases h : c = 64
    · cases ho : oneOf r with
      | none => exact AskLeaves_64n _ c r rfl h ho x y w hT
      | some q => exact AskLeaves_64s _ c r rfl h q ho x y w hT
    · cases ho : oneOf (c :: r) with
      | none => exact AskLeaves_on _ c r rfl h ho x y w hT
      | some q => exact AskLeaves_os _ c r rfl h q ho x y w hT
theorem AskLeaves_int (s : List UInt8) (x y : Int) (hx : 0 ≤ x ∧ x ≤ 18446744073709551615) (hy : 0 ≤ y ∧ y ≤ 18446744073709551615) (w : World) (hT : LibT w) :
    Calls Tryd.prog 8 #[S s, .int .u64 x, .int .u64 y] w fun e w' => e = .returned (.bool true) ∧ Fr w w' := by
  have ax : ((UInt64.ofNat x.toNat).toNat : Int) = x := by rw [UInt64.toNat_ofNat']; omega
  have ay : ((UInt64.ofNat y.toNat).toNat : Int) = y := by rw [UInt64.toNat_ofNat']; omega
  rw [← ax, ← ay]
  exact AskLeaves_any s _ _ w hT
theorem u64_of {n : Int} (h : (Lit.int .u64 n).wf = true) : 0 ≤ n ∧ n ≤ 18446744073709551615 := by
  have := (Bool.and_eq_true _ _).mp h
  exact ⟨of_decide_eq_true this.1, of_decide_eq_true this.2⟩
end Go.Proofs.YtjepodlalcnecaaDoor
