/- A [][]api.Step that came in, seen as a list of lists of steps. -/
import Derived.Test.YtjepodlalcnecaaDoorFrameT
import Derived.Test.YtjepodlalcnecaaDoorW28g
set_option linter.unusedVariables false
namespace Go.Proofs.YtjepodlalcnecaaDoor
open Go.RowKit Go.Fk Go.ChangeShapes Go.WideShapes Go.Deep
instance : Inhabited Hd := ⟨⟨none, 0, 0⟩⟩
theorem see_steps1 {H : Type} {enc : TypeId × Value → H} {w : World} {base : Nat} {spare : Nat → Bool} {held : Bool} {fuel : Nat} {cs : List Value} {x : DataW H × List MemPlace}
    (h : DataW.trod enc Tryd.prog w base spare held fuel 22 cs = some x) : ∃ (r : Hd) (l : List Stp), cs = [r.v] ∧ See w eT r.v l := by
  rcases open_slice Tryd.underlying22 h with ⟨hcs, _⟩ | ⟨a, len, cap, m, n, D, Pl, hcs, _⟩
  · subst hcs
    exact ⟨⟨none, 0, 0⟩, [], rfl, See.nil⟩
  · subst hcs
    obtain ⟨l, hl⟩ := see_steps (v := .slice (some a) len cap) h rfl
    exact ⟨⟨some a, len, cap⟩, l, rfl, hl⟩
theorem see_steps2 {H : Type} {enc : TypeId × Value → H} {w : World} {base : Nat} {spare : Nat → Bool} {held : Bool} {fuel : Nat} {v : Value} {x : DataW H × List MemPlace}
    (h : DataW.trod enc Tryd.prog w base spare held fuel 31 v.cells.toList = some x) (hv : v.cells.toList = [v]) : ∃ hs ls, Sees2 w eH eT v hs ls := by
  rw [hv] at h
  have c4 : Tryd.prog.cellsOf 22 = 1 := by kernel_rfl
  rcases open_slice Tryd.underlying31 h with ⟨hcs, _⟩ | ⟨a, len, cap, m, n, D, Pl, hcs, _, hl, hm, hmm, _, hx⟩
  · simp only [List.cons.injEq, and_true] at hcs
    subst hcs
    exact ⟨[], [], See.nil, rfl, fun i h _ => by cases h⟩
  · simp only [List.cons.injEq, and_true] at hcs
    subst hcs
    have hlen : len ≤ m := by rw [hmm]; split <;> omega
    rw [c4] at hx
    obtain ⟨R, hR⟩ := choose_lt (α := Hd × List Stp) (p := fun i r => w.cell? (a.add i) = some r.1.v ∧ See w eT r.1.v r.2) (fun i hi => by
      obtain ⟨cs', h1, h2⟩ := hx i hi
      obtain ⟨_, _, h3⟩ := World.cells?_some h1
      obtain ⟨r, l, rfl, hs⟩ := see_steps1 h2
      refine ⟨(r, l), ?_, hs⟩
      have := h3 0 (by decide)
      rw [Addr.add_add, Nat.mul_one, Nat.add_zero] at this
      simpa using this)
    refine ⟨(List.range len).map fun i => (R i).1, (List.range len).map fun i => (R i).2, ?_, by simp, ?_⟩
    · have e0 : ((List.range len).map fun i => (R i).1).length = len := by simp
      refine ⟨eH.length_cells _, some a, cap, by rw [e0], by omega, hm, by simp, ?_⟩
      by_cases h0 : len = 0
      · exact .inl (by rw [e0, h0])
      · right
        have hc0 := (hR 0 (by omega)).1
        obtain ⟨b, off, spot⟩ := a
        have hspot : spot = none := by simpa [Addr.add] using World.cell?_spot hc0
        subst hspot
        refine ⟨b, off, rfl, fun j u hj => ?_⟩
        have hj1 : j < len := by
          have := (List.getElem?_eq_some_iff.1 hj).1
          rw [eH.length_cells, e0] at this
          have : j < len * 1 := this
          omega
        have hcj := (hR j (by omega)).1
        rw [Addr.add_lit] at hcj
        rw [hcj]
        have := eH.cells_at ((List.range len).map fun i => (R i).1) j (by rw [e0]; omega) 0 (by decide)
        rw [show j * eH.k + 0 = j by show j * 1 + 0 = j; omega] at this
        rw [this] at hj
        simp [eH] at hj
        rw [hj]
    · intro i h1 h2
      have hi : i < len := by simpa using h1
      simpa using (hR i (by omega)).2
end Go.Proofs.YtjepodlalcnecaaDoor
