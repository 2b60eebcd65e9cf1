/- Walks of ask: a sign taken that is there. -/
import Derived.Test.YtjepodlalcnecaaDoorW28j
set_option linter.unusedVariables false
namespace Go.Proofs.YtjepodlalcnecaaDoor
open Go.RowKit Go.Fk
set_option maxRecDepth 100000 in
set_option maxHeartbeats 4000000 in
theorem take_yes_any (c : UInt8) (hc : c ≠ 0) (B : Nat) (s l : List UInt8) (w : World) (hr : RdS w B s l) (hlen : s.length ≤ 1000000000) (h : (skipB l).head? = some c) :
    Calls Tryd.prog 61 #[.pointer (some ⟨B, 0, none⟩), Fk.u8 c] w fun e w' => e = .returned (.bool (takeB c l).1) ∧ RdS w' B s (takeB c l).2 ∧ ChB B w w' := by
  have C := signS_any B s l
  obtain ⟨r, hs⟩ : ∃ r, skipB l = c :: r := by
    cases hs : skipB l with
    | nil => rw [hs] at h; cases h
    | cons x r => rw [hs] at h; simp at h; exact ⟨r, by rw [h]⟩
  have hT := take_yes c l r hs
  have hb : (((sgn l).toNat : Int) == c.toNat) = true := by unfold sgn; rw [hs]; simp
  rw [hT]
  have hbn : (((sgn l).toNat : Int) != c.toNat) = false := by unfold sgn; rw [hs]; simp
  rw [hs] at C
  have C2 : ∀ W, Fr w W → Calls Tryd.prog 46 #[.pointer (some ⟨B, 0, none⟩)] W fun e w' => e = .returned (Fk.u8 (sgn l)) ∧ ∃ i : Nat, ((i : Int) == s.length) = false ∧ w'.cell? ⟨B, 0, none⟩ = some (S s) ∧ w'.cell? ⟨B, 1, none⟩ = some (.int .i64 i) ∧ w'.frozen? ⟨B, 1, none⟩ = false ∧ (i : Int) < 1000000000 ∧ (0 : Int) ≤ i ∧ Hid (i + (c :: r).length = s.length ∧ s.drop i = c :: r ∧ w'.heap[B]? = some (.cells #[S s, .int .i64 i] 71 (0, 0)) ∧ ChB B w w') := by
    intro W hW
    refine (C W (hr.fr hW) hlen).mono ?_
    rintro e w' ⟨he, ⟨i, h1, h2, h3⟩, hc1⟩
    obtain ⟨c0, c1, g1⟩ := rd_cells h3
    refine ⟨he, i, by simp at h1 ⊢; omega, c0, c1, g1, by simp at h1; omega, by omega, h1, h2, h3, (hW.chg _).trans hc1 (fun _ _ h => h)⟩
  have HC := hid C2
  clear C C2 hT h hs
  generalize sgn l = x at *
  go_enter Tryd.func61, Tryd.ntmps61
  go_wp2_with fail
  go_region_with (go_at_call 46; refine (HC.out _ (Fr.drew (Fr.refl w))).mono ?_; rintro e w' ⟨rfl, i, hne, c0, c1, g1, i1, i0, HI⟩)
  all_goals
    have hw1 : IntKind.i64.wrap ((i : Int) + 1) = (i : Int) + 1 := IntWalk.i64_in _ (by omega)
    clear hb hbn hne HC hr i1 i0
    go_simp
    go_wp2_with fail
    go_ret
    obtain ⟨h1, h2, h3, h4⟩ := HI.out
    obtain ⟨h5, h6⟩ := rd_set h3 ((i : Int) + 1)
    obtain ⟨hi, _, hd⟩ := drop_at h2
    exact ⟨rfl, RdL.rds ⟨i + 1, by simp at h1; omega, hd, by rw [h5]; rfl⟩, h4.trans h6⟩
end Go.Proofs.YtjepodlalcnecaaDoor
