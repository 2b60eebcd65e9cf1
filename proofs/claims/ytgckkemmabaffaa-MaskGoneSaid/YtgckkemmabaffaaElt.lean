/- The element types of this translation. -/
import Derived.Test.YtgckkemmabaffaaChecked
import Derived.Test.YtgckkemmabaffaaLib
set_option linter.unusedVariables false
namespace Go.Proofs.Ytgckkemmabaffaa
open Go.RowKit Go.Fk
def eB : Elt Try.prog UInt8 := ⟨5, 1, 1, 0, .int .u8 0, fun c => [u8 c], by kernel_rfl, by decide, by decide, by simp [Value.cells], fun _ => rfl, by intro x u hu; simp at hu; subst hu; rfl⟩
def eS : Elt Try.prog (List UInt8) := ⟨9, 1, 16, [], .string ⟨#[]⟩, fun c => [S c], by kernel_rfl, by decide, by decide, by simp [Value.cells], fun _ => rfl, by intro x u hu; simp at hu; subst hu; rfl⟩
end Go.Proofs.Ytgckkemmabaffaa
