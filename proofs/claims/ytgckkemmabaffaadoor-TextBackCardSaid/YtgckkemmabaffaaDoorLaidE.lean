/- The library's two sentinels, as the rows of the text laws list them. -/
import Derived.Test.YtgckkemmabaffaaDoorLaid
import Derived.Test.YtgckkemmabaffaaDoorW33m
import Derived.Stop.LaidErr
set_option linter.unusedVariables false
namespace Go.Proofs.YtgckkemmabaffaaDoor
open Go.ChangeShapes Go.WideShapes Go.ChangeAt Go.RowKit Go.Fk
theorem star : "*" ++ "errors.errorString" = "*errors.errorString" := by decide
theorem rowErr (u : TypeId) (h : Tryd.prog.typeName? 3 u = some "*errors.errorString") : u = 103 :=
  typeName_ptr_named (nm := "errors.errorString") (by rw [star]; kernel_rfl) (by kernel_rfl) (by decide) u (by rw [star]; exact h)
theorem gRange : Tryd.prog.globalNamed "strconv.ErrRange" = some 3 := by kernel_rfl
theorem gSyntax : Tryd.prog.globalNamed "strconv.ErrSyntax" = some 2 := by kernel_rfl
theorem err_range {W : World} {r : List (String × DataW Unit)} (h : laidMet Tryd.prog (("strconv.ErrRange", Rows.laid_strconv_ErrRange) :: r) W) : ∃ t p, W.cell? ⟨3, 0, none⟩ = some (.iface t p) := by
  obtain ⟨a, s, hv, _⟩ := laid_sentinel h gRange (by kernel_rfl) Tryd.underlying56 rowErr Tryd.underlying103 Tryd.underlying105 rfl rfl Tryd.underlying9 (by kernel_rfl) (by kernel_rfl)
  exact ⟨_, _, by simpa using World.var?_cell gRange hv 0⟩
theorem err_syntax {W : World} {r : List (String × DataW Unit)} (h : laidMet Tryd.prog (("strconv.ErrSyntax", Rows.laid_strconv_ErrSyntax) :: r) W) : ∃ t p, W.cell? ⟨2, 0, none⟩ = some (.iface t p) := by
  obtain ⟨a, s, hv, _⟩ := laid_sentinel h gSyntax (by kernel_rfl) Tryd.underlying56 rowErr Tryd.underlying103 Tryd.underlying105 rfl rfl Tryd.underlying9 (by kernel_rfl) (by kernel_rfl)
  exact ⟨_, _, by simpa using World.var?_cell gSyntax hv 0⟩
/-- a world for the witness, with the sentinels -/
noncomputable def lowE : Nat := (World.holding Tryd.prog default ⟨#[], #[], []⟩).heap.size
def laidHeapE (low : Nat) (h : Array Obj) : Array Obj :=
  (h.modify 3 (fun | .cells _ t f => .cells #[.iface 103 (.pointer (some ⟨low, 0, none⟩))] t f | o => o)).modify 2 (fun | .cells _ t f => .cells #[.iface 103 (.pointer (some ⟨low + 1, 0, none⟩))] t f | o => o)
noncomputable def laidWorldE (os : Os) (args : Array Value) : World :=
  let w0 := World.holding Tryd.prog os ⟨#[.cells #[.string ⟨#[118, 97, 108, 117, 101, 32, 111, 117, 116, 32, 111, 102, 32, 114, 97, 110, 103, 101]⟩] 105, .cells #[.string ⟨#[105, 110, 118, 97, 108, 105, 100, 32, 115, 121, 110, 116, 97, 120]⟩] 105], #[], []⟩
  { w0 with heap := laidHeapE lowE (laidHeap w0.heap) }
end Go.Proofs.YtgckkemmabaffaaDoor
