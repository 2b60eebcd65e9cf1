/- A []api.Step that came in, seen as a list of steps. -/
import Derived.Test.YtjepodlalcnecaaDoorFrame
import Derived.Test.YtjepodlalcnecaaDoorEltQ
import Derived.Lib.SmallJoins
import Derived.Deep.Slices
set_option linter.unusedVariables false
namespace Go.Proofs.YtjepodlalcnecaaDoor
open Go.RowKit Go.Fk Go.ChangeShapes Go.WideShapes Go.Deep
instance : Inhabited Stp := ⟨⟨0, 0, [], 0, 0⟩⟩
theorem trod_struct5 {P : Program} {H : Type} {enc : TypeId × Value → H} {w : World} {base : Nat} {spare : Nat → Bool} {held : Bool} {t : TypeId} {f0 f1 f2 f3 f4 : Field} {fuel : Nat} {cs : List Value} {x : DataW H × List MemPlace} (ht : P.underlying t = some (.struct #[f0, f1, f2, f3, f4])) (h : DataW.trod enc P w base spare held fuel t cs = some x) :
    ∃ y0 y1 y2 y3 y4 n, cs.length = P.cellsOf t ∧ DataW.trod enc P w base spare held n f0.type ((cs.drop f0.offset).take (P.cellsOf f0.type)) = some y0 ∧
      DataW.trod enc P w base spare held n f1.type ((cs.drop f1.offset).take (P.cellsOf f1.type)) = some y1 ∧ DataW.trod enc P w base spare held n f2.type ((cs.drop f2.offset).take (P.cellsOf f2.type)) = some y2 ∧
      DataW.trod enc P w base spare held n f3.type ((cs.drop f3.offset).take (P.cellsOf f3.type)) = some y3 ∧ DataW.trod enc P w base spare held n f4.type ((cs.drop f4.offset).take (P.cellsOf f4.type)) = some y4 := by
  obtain ⟨xs, n, _, rfl, hl, hlen, hf⟩ := DataW.trod_struct ht h
  match xs, hlen with
  | [y0, y1, y2, y3, y4], _ => exact ⟨y0, y1, y2, y3, y4, n, hl, by simpa using hf 0 f0 rfl, by simpa using hf 1 f1 rfl, by simpa using hf 2 f2 rfl, by simpa using hf 3 f3 rfl, by simpa using hf 4 f4 rfl⟩
set_option maxRecDepth 100000 in
theorem stp_of {H : Type} {enc : TypeId × Value → H} {w : World} {base : Nat} {spare : Nat → Bool} {held : Bool} {fuel : Nat} {cs : List Value} {x : DataW H × List MemPlace}
    (h : DataW.trod enc Tryd.prog w base spare held fuel 34 cs = some x) : ∃ r : Stp, cs = stpCells r := by
  obtain ⟨y0, y1, y2, y3, y4, n, hl, h0, h1, h2, h3, h4⟩ := trod_struct5 Tryd.underlying34 h
  have c5 : Tryd.prog.cellsOf 34 = 5 := by kernel_rfl
  have k0 : Tryd.prog.cellsOf 3 = 1 := by kernel_rfl
  have k1 : Tryd.prog.cellsOf 32 = 1 := by kernel_rfl
  have k2 : Tryd.prog.cellsOf 9 = 1 := by kernel_rfl
  rw [c5] at hl
  match cs, hl with
  | [v0, v1, v2, v3, v4], _ =>
    simp only [k0, k1, k2, List.drop_zero, List.drop_succ_cons, List.take_succ_cons, List.take_zero] at h0 h1 h2 h3 h4
    obtain ⟨n0, e0, _, w0⟩ := DataW.trod_int Tryd.underlying3 h0
    obtain ⟨n1, e1, _, w1⟩ := DataW.trod_int Tryd.underlying3 h1
    obtain ⟨s2, e2, _, _⟩ := DataW.trod_string Tryd.underlying9 h2
    obtain ⟨n3, e3, _, w3⟩ := DataW.trod_int Tryd.underlying32 h3
    obtain ⟨n4, e4, _, w4⟩ := DataW.trod_int Tryd.underlying32 h4
    simp only [List.cons.injEq, and_true] at e0 e1 e2 e3 e4
    subst e0 e1 e2 e3 e4
    obtain ⟨w30, w31⟩ : 0 ≤ n3 ∧ n3 ≤ 18446744073709551615 := by
      have := (Bool.and_eq_true _ _).mp w3
      exact ⟨of_decide_eq_true this.1, of_decide_eq_true this.2⟩
    obtain ⟨w40, w41⟩ : 0 ≤ n4 ∧ n4 ≤ 18446744073709551615 := by
      have := (Bool.and_eq_true _ _).mp w4
      exact ⟨of_decide_eq_true this.1, of_decide_eq_true this.2⟩
    refine ⟨⟨n0, n1, s2.data.toList, UInt64.ofNat n3.toNat, UInt64.ofNat n4.toNat⟩, ?_⟩
    have a3 : ((UInt64.ofNat n3.toNat).toNat : Int) = n3 := by rw [UInt64.toNat_ofNat']; omega
    have a4 : ((UInt64.ofNat n4.toNat).toNat : Int) = n4 := by rw [UInt64.toNat_ofNat']; omega
    unfold stpCells
    rw [a3, a4, ← S_eta]
theorem see_steps {H : Type} {enc : TypeId × Value → H} {w : World} {base : Nat} {spare : Nat → Bool} {held : Bool} {fuel : Nat} {v : Value} {x : DataW H × List MemPlace}
    (h : DataW.trod enc Tryd.prog w base spare held fuel 22 v.cells.toList = some x) (hv : v.cells.toList = [v]) : ∃ l, See w eT v l := by
  rw [hv] at h
  have c4 : Tryd.prog.cellsOf 34 = 5 := by kernel_rfl
  rcases open_slice Tryd.underlying22 h with ⟨hcs, _⟩ | ⟨a, len, cap, m, n, D, Pl, hcs, _, hl, hm, hmm, _, hx⟩
  · simp only [List.cons.injEq, and_true] at hcs
    subst hcs
    exact ⟨[], See.nil⟩
  · simp only [List.cons.injEq, and_true] at hcs
    subst hcs
    have hlen : len ≤ m := by rw [hmm]; split <;> omega
    rw [c4] at hx
    obtain ⟨R, hR⟩ := choose_lt (α := Stp) (p := fun i r => ∀ j, j < 5 → w.cell? (a.add (i * 5 + j)) = (stpCells r)[j]?) (fun i hi => by
      obtain ⟨cs', h1, h2⟩ := hx i hi
      obtain ⟨_, _, h3⟩ := World.cells?_some h1
      obtain ⟨r, rfl⟩ := stp_of h2
      exact ⟨r, fun j hj => by rw [← Addr.add_add]; exact h3 j hj⟩)
    refine ⟨(List.range len).map R, ?_⟩
    have e0 : ((List.range len).map R).length = len := by simp
    refine ⟨eT.length_cells _, some a, cap, by rw [e0], by omega, hm, by simp, ?_⟩
    by_cases h0 : len = 0
    · exact .inl (by rw [e0, h0])
    · right
      have hc0 := hR 0 (by omega) 0 (by omega)
      obtain ⟨b, off, spot⟩ := a
      have hspot : spot = none := by simpa [Addr.add] using World.cell?_spot hc0
      subst hspot
      refine ⟨b, off, rfl, fun j u hj => ?_⟩
      have hj1 : j < len * 5 := by
        have := (List.getElem?_eq_some_iff.1 hj).1
        rw [eT.length_cells, e0] at this
        exact this
      have hcj := hR (j / 5) (by omega) (j % 5) (by omega)
      rw [Addr.add_lit, show j / 5 * 5 + j % 5 = j by omega] at hcj
      rw [hcj]
      have := eT.cells_at ((List.range len).map R) (j / 5) (by rw [e0]; omega) (j % 5) (show j % 5 < 5 by omega)
      rw [show j / 5 * eT.k + j % 5 = j by show j / 5 * 5 + j % 5 = j; omega] at this
      rw [this] at hj
      simp at hj
      exact hj
end Go.Proofs.YtjepodlalcnecaaDoor
