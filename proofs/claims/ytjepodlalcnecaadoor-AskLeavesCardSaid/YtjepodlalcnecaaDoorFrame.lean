/- What the rows of laws hand over, as the walks take it. No program. -/
import Derived.Test.YtjepodlalcnecaaDoorLib
import Derived.ProofKit
import Derived.SliceStrings
import Derived.OpenShut
import Derived.ShutString
import Derived.ChangeOld
set_option linter.unusedVariables false
namespace Go.Fk
open Go.RowKit Go.ChangeShapes Go.WideShapes Go.ChangeAt
open Go.ChangeMaps (open_string shut_string)

theorem S_eta (s : ByteArray) : (Value.string s) = S s.data.toList := by
  obtain ⟨⟨l⟩⟩ := s; rfl
theorem size_list (s : ByteArray) : s.size = s.data.toList.length := by
  obtain ⟨⟨l⟩⟩ := s; rfl
/-- a []string that came in -/
theorem see_strings {P : Program} {H : Type} {enc : TypeId × Value → H} {w : World} {base : Nat} {spare : Nat → Bool} {held : Bool} {t : TypeId} (E : Elt P (List UInt8)) (hE : E.enc = fun c => [S c]) (ht : P.underlying t = some (.slice E.e)) (he : P.underlying E.e = some .string) (hc : P.cellsOf E.e = 1)
    {fuel : Nat} {v : Value} {x : DataW H × List MemPlace} (h : DataW.trod enc P w base spare held fuel t v.cells.toList = some x) (hv : v.cells.toList = [v]) : ∃ ws, See w E v ws := by
  rw [hv] at h
  have hk : E.k = 1 := by rw [← E.len E.zero, hE]; rfl
  rcases open_strings ht he hc h with ⟨hcs, _⟩ | ⟨a, len, cap, ss, hcs, _, hl, hm, hz, _, hcell, hws⟩
  · simp only [List.cons.injEq, and_true] at hcs
    subst hcs
    exact ⟨[], See.nil⟩
  · simp only [List.cons.injEq, and_true] at hcs
    subst hcs
    have hlen : len ≤ ss.length := by split at hz <;> omega
    refine ⟨(ss.take len).map fun s => s.data.toList, ?_⟩
    have e0 : ((ss.take len).map fun s => s.data.toList).length = len := by simp; omega
    refine ⟨E.length_cells _, some a, cap, by rw [e0], by omega, hm, by simp, ?_⟩
    by_cases h0 : len = 0
    · exact .inl (by rw [e0, h0])
    · right
      have hc0 := hcell 0 (by omega)
      obtain ⟨b, off, spot⟩ := a
      have hspot : spot = none := by simpa [Addr.add] using World.cell?_spot hc0
      subst hspot
      refine ⟨b, off, rfl, fun j u hj => ?_⟩
      have hj1 : j < len := by
        have := (List.getElem?_eq_some_iff.1 hj).1
        rw [E.length_cells, e0, hk, Nat.mul_one] at this
        exact this
      have hcj := hcell j (by omega)
      rw [Addr.add_lit] at hcj
      rw [hcj]
      have := E.cells_at ((ss.take len).map fun s => s.data.toList) j (by rw [e0]; exact hj1) 0 (by omega)
      rw [hk, Nat.mul_one, Nat.add_zero] at this
      rw [this, hE] at hj
      simp only [List.getElem?_cons_zero, List.getElem_map, List.getElem_take, Option.some.injEq] at hj
      rw [← hj, S_eta]
      congr 2
      rw [List.getD_eq_getElem?_getD, List.getElem?_eq_getElem (by omega)]
      rfl
end Go.Fk
