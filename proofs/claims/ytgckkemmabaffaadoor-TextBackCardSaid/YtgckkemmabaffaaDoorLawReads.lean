/- Walks of the text laws: a line read. -/
import Derived.Test.YtgckkemmabaffaaDoorW33p
import Derived.Test.YtgckkemmabaffaaDoorLaw33
set_option linter.unusedVariables false
namespace Go.Proofs.YtgckkemmabaffaaDoor
open Go.RowKit Go.Fk
theorem four_cells {w w3 : World} {a b c d : Value} {T : TypeId} (hf : Fr (w.alloc (.cells #[a, b, c, d] T)) w3) :
    w3.cell? ⟨w.heap.size, 0, none⟩ = some a ∧ w3.cell? ⟨w.heap.size, 1, none⟩ = some b ∧ w3.cell? ⟨w.heap.size, 2, none⟩ = some c ∧ w3.cell? ⟨w.heap.size, 3, none⟩ = some d ∧ w.heap.size < w3.heap.size := by
  have hb := hf.heap (heap_new w (.cells #[a, b, c, d] T) _ rfl)
  have h0 := hf.size
  rw [size_alloc] at h0
  exact ⟨cell_of_heap hb 0, cell_of_heap hb 1, cell_of_heap hb 2, cell_of_heap hb 3, by omega⟩
set_option maxRecDepth 100000 in
set_option maxHeartbeats 1000000 in
theorem TextReads_any (s : List UInt8) (w : World) (ht : Tabs w) (he : Errs w) (hm : MaxL w) :
    Calls Tryd.prog 6 #[S s] w fun e w' => e = .returned (.bool true) ∧ Fr w w' := by
  go_enter Tryd.func6, Tryd.ntmps6
  go_wp2_with fail
  refine (alive_any _ ht).mono ?_
  rintro e w1 ⟨rfl, hf1⟩
  by_cases h0 : 2000 < s.length
  · have h0' : (2000 : Int) < s.length := by omega
    go_wp2_with fail
    go_ret
    exact ⟨rfl, hf1⟩
  · have h0' : ¬ (2000 : Int) < s.length := by omega
    have C1 := Read_any s
    have C2 := RRead_any s
    generalize readL s = q at *
    cases q with
    | none =>
      simp only [partsV_none, partsE_none] at C1 C2
      have D1 := hid C1
      have D2 := hid C2
      clear C1 C2
      go_wp2_with fail
      refine (D1.out _ (ht.fr ?_) (he.fr ?_) (hm.fr ?_) (by omega)).mono ?_
      all_goals first | exact hf1.alloc _ | exact hf1 | skip
      rintro e w2 ⟨rfl, hf2⟩
      go_wp2_with fail
      refine (D2.out _ (by omega)).mono ?_
      rintro e w3 ⟨rfl, hf3⟩
      obtain ⟨c0, c1, c2, c3, hsz⟩ := four_cells hf3
      have hf03 : Fr w w3 := (hf1.trans (hf2.alloc _)).trans hf3
      have HF := hid hf03
      clear hf1 hf2 hf3 hf03
      go_wp2_with fail
      go_ret
      exact ⟨rfl, HF.out.alloc _⟩
    | some q =>
      obtain ⟨t, l, u, v⟩ := q
      simp only [partsV_some, partsE_some] at C1 C2
      have D1 := hid C1
      have D2 := hid C2
      clear C1 C2
      go_wp2_with fail
      refine (D1.out _ (ht.fr ?_) (he.fr ?_) (hm.fr ?_) (by omega)).mono ?_
      all_goals first | exact hf1.alloc _ | exact hf1 | skip
      rintro e w2 ⟨rfl, hf2⟩
      go_wp2_with fail
      refine (D2.out _ (by omega)).mono ?_
      rintro e w3 ⟨rfl, hf3⟩
      obtain ⟨c0, c1, c2, c3, hsz⟩ := four_cells hf3
      have hf03 : Fr w w3 := (hf1.trans (hf2.alloc _)).trans hf3
      have HF := hid hf03
      clear hf1 hf2 hf3 hf03
      go_wp2_with fail
      go_ret
      exact ⟨by simp, HF.out.alloc _⟩
end Go.Proofs.YtgckkemmabaffaaDoor
