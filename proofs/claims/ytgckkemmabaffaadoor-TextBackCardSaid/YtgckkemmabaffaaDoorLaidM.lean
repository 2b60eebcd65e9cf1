/- The library's greatest length, as a shaped world holds it. -/
import Derived.Test.YtgckkemmabaffaaDoorLaidE
import Derived.Test.YtgckkemmabaffaaDoorW33p
import Derived.ProofKit
set_option linter.unusedVariables false
namespace Go.Proofs.YtgckkemmabaffaaDoor
open Go.ChangeShapes Go.WideShapes Go.ChangeAt Go.RowKit Go.Fk
theorem maxl {W : World} (h : W.ShapedOpen Tryd.prog) : MaxL W :=
  cell_of_shapedOpen_int (P := Tryd.prog) (g := 4) (t := 3) (zero := #[.int .i64 0]) h (of_decide_eq_true (by kernel_rfl)) (by kernel_rfl) rfl (by kernel_rfl) (by kernel_rfl) Tryd.underlying3
end Go.Proofs.YtgckkemmabaffaaDoor
