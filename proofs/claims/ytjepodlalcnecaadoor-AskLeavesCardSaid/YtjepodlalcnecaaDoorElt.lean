/- The element types of this translation. -/
import Derived.Test.YtjepodlalcnecaaDoorChecked
import Derived.Test.YtjepodlalcnecaaDoorLib
set_option linter.unusedVariables false
namespace Go.Proofs.YtjepodlalcnecaaDoor
open Go.RowKit Go.Fk
def eB : Elt Tryd.prog UInt8 := ⟨5, 1, 1, 0, .int .u8 0, fun c => [u8 c], by kernel_rfl, by decide, by decide, by simp [Value.cells], fun _ => rfl, by intro x u hu; simp at hu; subst hu; rfl⟩
def eS : Elt Tryd.prog (List UInt8) := ⟨9, 1, 16, [], .string ⟨#[]⟩, fun c => [S c], by kernel_rfl, by decide, by decide, by simp [Value.cells], fun _ => rfl, by intro x u hu; simp at hu; subst hu; rfl⟩
/-- a record -/
structure Rec where
  time : UInt64
  level : UInt8
  source : List UInt8
  text : List UInt8
  deriving DecidableEq
/-- its cells -/
def Rec.cells (r : Rec) : List Value := [.int .u64 r.time.toNat, u8 r.level, S r.source, S r.text]

end Go.Proofs.YtjepodlalcnecaaDoor
