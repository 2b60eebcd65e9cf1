/- Walks of ask: a sign taken. -/
import Derived.Test.YtjepodlalcnecaaDoorW28i
import Derived.Deep.DrawnRows
set_option linter.unusedVariables false
namespace Go.Proofs.YtjepodlalcnecaaDoor
open Go.RowKit Go.Fk
attribute [local go_sem ↓] Go.wp_at_zero Go.wp_at_succ
/-- the reader stands ahead of l, but for blanks -/
def RdS (w : World) (B : Nat) (s l : List UInt8) : Prop := ∃ l1, RdL w B s l1 ∧ skipB l1 = skipB l
theorem RdS.fr {w w' : World} {B : Nat} {s l : List UInt8} (h : RdS w B s l) (hf : Fr w w') : RdS w' B s l := by
  obtain ⟨l1, h1, h2⟩ := h
  exact ⟨l1, h1.fr hf, h2⟩
theorem RdL.rds {w : World} {B : Nat} {s l : List UInt8} (h : RdL w B s l) : RdS w B s l := ⟨l, h, rfl⟩
theorem RdS.skip {w : World} {B : Nat} {s l : List UInt8} (h : RdS w B s (skipB l)) : RdS w B s l := by
  obtain ⟨l1, h1, h2⟩ := h
  exact ⟨l1, h1, h2.trans (skip_skip l)⟩
theorem RdS.of_skip {w : World} {B : Nat} {s l l' : List UInt8} (h : RdS w B s l) (e : skipB l = skipB l') : RdS w B s l' := by
  obtain ⟨l1, h1, h2⟩ := h
  exact ⟨l1, h1, h2.trans e⟩
theorem sgn_skip {l l' : List UInt8} (h : skipB l = skipB l') : sgn l = sgn l' := by unfold sgn; rw [h]
theorem signS_any (B : Nat) (s l : List UInt8) (w : World) (hr : RdS w B s l) (hlen : s.length ≤ 1000000000) :
    Calls Tryd.prog 46 #[.pointer (some ⟨B, 0, none⟩)] w fun e w' => e = .returned (Fk.u8 (sgn l)) ∧ RdL w' B s (skipB l) ∧ ChB B w w' := by
  obtain ⟨l1, h1, h2⟩ := hr
  have := sign_any B s l1 w h1 hlen
  rw [sgn_skip h2, h2] at this
  exact this
/-- worlds in which nothing has turned but the reader's place among blanks -/
def TC (w : World) (B : Nat) (s l : List UInt8) (w' : World) : Prop := RdS w' B s l ∧ ChB B w w'
theorem wp_region_C {P : Program} {C : World → Prop} {id : Nat} {Q : Exit → Act → World → Prop} {a : Act} {w : World} {l : List Oper} (hm : P.follows .mixedOrders = true) (hB : Region.lexB .any l.toArray = true) (hC : C w.drew)
    (h : wpQuiet P l.toArray C (fun a' => ∀ w', C w' → Q .normal a' w') l a) : (Code.region id l.toArray true).wp P Q a w :=
  wp_region_quiet (C := C) hm hB hC (by simpa using h)
set_option maxRecDepth 100000 in
set_option maxHeartbeats 4000000 in
theorem take_no_any (c : UInt8) (hc : c ≠ 0) (B : Nat) (s l : List UInt8) (w : World) (hr : RdS w B s l) (hlen : s.length ≤ 1000000000) (h : ¬ (skipB l).head? = some c) :
    Calls Tryd.prog 61 #[.pointer (some ⟨B, 0, none⟩), Fk.u8 c] w fun e w' => e = .returned (.bool (takeB c l).1) ∧ RdS w' B s (takeB c l).2 ∧ ChB B w w' := by
  have C := signS_any B s l
  have hT := take_no c l h
  have hne : ((sgn l).toNat : Int) ≠ c.toNat := by
    intro e
    have e2 : sgn l = c := UInt8.toNat_inj.1 (by omega)
    unfold sgn at e2
    cases hs : skipB l with
    | nil => rw [hs] at e2; exact hc e2.symm
    | cons x r => rw [hs] at e2 h; exact h (by simpa using e2)
  have hb : (((sgn l).toNat : Int) == c.toNat) = false := by simp; omega
  have hbn : (((sgn l).toNat : Int) != c.toNat) = true := by simp; omega
  rw [hT]
  have C2 : ∀ W, TC w B s l W → Calls Tryd.prog 46 #[.pointer (some ⟨B, 0, none⟩)] W fun e w' => e = .returned (Fk.u8 (sgn l)) ∧ TC w B s l w' := by
    rintro W ⟨h1, h2⟩
    refine (C W h1 hlen).mono ?_
    rintro e w' ⟨he, h3, h4⟩
    exact ⟨he, h3.rds.skip, h2.trans h4⟩
  have hC0 : TC w B s l w.drew := ⟨hr.fr (Fr.drew (Fr.refl w)), (Fr.drew (Fr.refl w)).chg _⟩
  have HC := hid C2
  have H0 := hid hC0
  clear C C2 hC0 hT h hne
  generalize sgn l = x at *
  go_enter Tryd.func61, Tryd.ntmps61
  go_wp2_with fail
  refine wp_region_C (C := TC w B s l) (by kernel_rfl) (by kernel_rfl) H0.out ?_
  repeat (go_big_quiet_step (first | (intro _; rfl) | (intro hC; exact HC.out _ hC)))
  refine wpQuiet_nil ?_
  intro w' hw'
  have HW := hid hw'
  clear hw'
  go_wp2_with fail
  go_ret
  exact ⟨rfl, by have := HW.out.1; exact this.of_skip (skip_skip l).symm, HW.out.2⟩
end Go.Proofs.YtjepodlalcnecaaDoor
