/- The tables that the rows of the text laws list: what they give, and a world that holds them. -/
import Derived.Test.YtgckkemmabaffaaDoorRows
import Derived.Test.YtgckkemmabaffaaDoorW33b
import Derived.ProofKit
import Derived.Deep.DeepHandedRow
import Derived.Lib.LaidTab
set_option linter.unusedVariables false
namespace Go.Proofs.YtgckkemmabaffaaDoor
open Go.ChangeShapes Go.WideShapes Go.ChangeAt Go.RowKit Go.Fk
theorem vars_tail {W : World} {x : String × DataW Unit} {rest : List (String × DataW Unit)} {ps : List MemPlace} (h : DataW.LaidVars Tryd.prog W (x :: rest) ps) : ∃ qs, DataW.LaidVars Tryd.prog W rest qs := by
  obtain ⟨_, _, _, _, _, q, _, _, _, _, hq, _⟩ := h
  exact ⟨q, hq⟩
theorem tab_of_vars {W : World} {name : String} {k : IntKind} {zs : List Int} {rest : List (String × DataW Unit)} {g : Nat} {t e : TypeId} {n : Nat} {ps : List MemPlace}
    (hg : Tryd.prog.globalNamed name = some g) (hty : (Tryd.prog.globals[g]?).map (·.type) = some t) (ht : Tryd.prog.underlying t = some (.array n e)) (he : Tryd.prog.underlying e = some (.int k)) (hce : Tryd.prog.cellsOf e = 1) (hct : Tryd.prog.cellsOf t = n)
    (h : DataW.LaidVars Tryd.prog W ((name, Lib.tabData k zs) :: rest) ps) : Lib.TabIs Tryd.prog W name k zs := by
  obtain ⟨g', t', cs, fuel, p, q, hg', ht', hvar, hd, _, _⟩ := h
  obtain rfl := Option.some.inj (hg.symm.trans hg')
  obtain rfl := Option.some.inj (hty.symm.trans ht')
  unfold Lib.TabIs
  rw [hvar, ← Lib.cells_of_tab ht he hce hct hd]
theorem gDig : Tryd.prog.globalNamed "firkin/text.digits" = some 0 := by kernel_rfl
theorem cell_size {W : World} {b i : Nat} {v : Value} (h : W.cell? ⟨b, i, none⟩ = some v) : b < W.heap.size := by
  apply Classical.byContradiction
  intro hn
  have : W.heap[b]? = none := Array.getElem?_eq_none (by omega)
  simp [World.cell?, this] at h
/-- the tables, of the two that the walks read -/
theorem tabs_of {W : World} {d : List (String × DataW Unit)} {ps qs : List MemPlace} {rest rest' : List (String × DataW Unit)}
    (h1 : DataW.LaidVars Tryd.prog W (("internal/strconv.uint64pow10", Rows.laid_internal_strconv_uint64pow10) :: rest) ps) (h2 : DataW.LaidVars Tryd.prog W (("firkin/text.digits", Rows.laid_firkin_text_digits) :: rest') qs) : Tabs W := by
  have t1 : Lib.TabIs Tryd.prog W "internal/strconv.uint64pow10" .u64 Lib.pow10Tab := tab_of_vars gPow (by kernel_rfl) Tryd.underlying93 Tryd.underlying26 (by kernel_rfl) (by kernel_rfl) h1
  have t2 : Lib.TabIs Tryd.prog W "firkin/text.digits" .u8 [48, 49, 50, 51, 52, 53, 54, 55, 56, 57, 97, 98, 99, 100, 101, 102] := tab_of_vars gDig (by kernel_rfl) Tryd.underlying61 Tryd.underlying5 (by kernel_rfl) (by kernel_rfl) h2
  refine ⟨fun i hi => ?_, t1, cell_size (t1.cell gPow 0 (by decide))⟩
  rw [t2.cell gDig i (by simpa using hi)]
  match i, hi with
  | 0, _ => rfl
  | 1, _ => rfl
  | 2, _ => rfl
  | 3, _ => rfl
  | 4, _ => rfl
  | 5, _ => rfl
  | 6, _ => rfl
  | 7, _ => rfl
  | 8, _ => rfl
  | 9, _ => rfl
  | 10, _ => rfl
  | 11, _ => rfl
  | 12, _ => rfl
  | 13, _ => rfl
  | 14, _ => rfl
  | 15, _ => rfl
  | n + 16, h => exact absurd h (by omega)
/-- a world for the witness -/
def laidHeap (h : Array Obj) : Array Obj :=
  ((((h.modify 5 (fun | .cells _ t f => .cells #[.int .u8 0, .int .u8 1, .int .u8 28, .int .u8 2, .int .u8 29, .int .u8 14, .int .u8 24, .int .u8 3, .int .u8 30, .int .u8 22, .int .u8 20, .int .u8 15, .int .u8 25, .int .u8 17, .int .u8 4, .int .u8 8, .int .u8 31, .int .u8 27, .int .u8 13, .int .u8 23, .int .u8 21, .int .u8 19, .int .u8 16, .int .u8 7, .int .u8 26, .int .u8 12, .int .u8 18, .int .u8 6, .int .u8 11, .int .u8 5, .int .u8 10, .int .u8 9] t f | o => o)).modify 6 (fun | .cells _ t f => .cells #[.int .u8 0, .int .u8 1, .int .u8 56, .int .u8 2, .int .u8 57, .int .u8 49, .int .u8 28, .int .u8 3, .int .u8 61, .int .u8 58, .int .u8 42, .int .u8 50, .int .u8 38, .int .u8 29, .int .u8 17, .int .u8 4, .int .u8 62, .int .u8 47, .int .u8 59, .int .u8 36, .int .u8 45, .int .u8 43, .int .u8 51, .int .u8 22, .int .u8 53, .int .u8 39, .int .u8 33, .int .u8 30, .int .u8 24, .int .u8 18, .int .u8 12, .int .u8 5, .int .u8 63, .int .u8 55, .int .u8 48, .int .u8 27, .int .u8 60, .int .u8 41, .int .u8 37, .int .u8 16, .int .u8 46, .int .u8 35, .int .u8 44, .int .u8 21, .int .u8 52, .int .u8 32, .int .u8 23, .int .u8 11, .int .u8 54, .int .u8 26, .int .u8 40, .int .u8 15, .int .u8 34, .int .u8 20, .int .u8 31, .int .u8 10, .int .u8 25, .int .u8 14, .int .u8 19, .int .u8 9, .int .u8 13, .int .u8 8, .int .u8 7, .int .u8 6] t f | o => o)).modify 1 (fun | .cells _ t f => .cells #[.int .u64 1, .int .u64 10, .int .u64 100, .int .u64 1000, .int .u64 10000, .int .u64 100000, .int .u64 1000000, .int .u64 10000000, .int .u64 100000000, .int .u64 1000000000, .int .u64 10000000000, .int .u64 100000000000, .int .u64 1000000000000, .int .u64 10000000000000, .int .u64 100000000000000, .int .u64 1000000000000000, .int .u64 10000000000000000, .int .u64 100000000000000000, .int .u64 1000000000000000000, .int .u64 10000000000000000000] t f | o => o)).modify 0 (fun | .cells _ t f => .cells #[.int .u8 48, .int .u8 49, .int .u8 50, .int .u8 51, .int .u8 52, .int .u8 53, .int .u8 54, .int .u8 55, .int .u8 56, .int .u8 57, .int .u8 97, .int .u8 98, .int .u8 99, .int .u8 100, .int .u8 101, .int .u8 102] t f | o => o))
noncomputable def laidWorld (os : Os) (args : Array Value) : World := { World.holding Tryd.prog os ⟨#[], #[], []⟩ with heap := laidHeap (World.holding Tryd.prog os ⟨#[], #[], []⟩).heap }
end Go.Proofs.YtgckkemmabaffaaDoor
