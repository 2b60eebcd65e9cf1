/- The element types of this translation. -/
import Derived.Test.YtgckkemmabaffaaDoorChecked
import Derived.Test.YtgckkemmabaffaaDoorLib
set_option linter.unusedVariables false
namespace Go.Proofs.YtgckkemmabaffaaDoor
open Go.RowKit Go.Fk
def eB : Elt Tryd.prog UInt8 := ⟨5, 1, 1, 0, .int .u8 0, fun c => [u8 c], by kernel_rfl, by decide, by decide, by simp [Value.cells], fun _ => rfl, by intro x u hu; simp at hu; subst hu; rfl⟩
def eS : Elt Tryd.prog (List UInt8) := ⟨9, 1, 16, [], .string ⟨#[]⟩, fun c => [S c], by kernel_rfl, by decide, by decide, by simp [Value.cells], fun _ => rfl, by intro x u hu; simp at hu; subst hu; rfl⟩
/-- a record -/
structure Rec where
  time : UInt64
  level : UInt8
  source : List UInt8
  text : List UInt8
  deriving DecidableEq
/-- its cells -/
def Rec.cells (r : Rec) : List Value := [.int .u64 r.time.toNat, u8 r.level, S r.source, S r.text]
def eR : Elt Tryd.prog Rec := ⟨28, 4, 48, ⟨0, 0, [], []⟩, .agg #[.int .u64 0, .int .u8 0, .string ⟨#[]⟩, .string ⟨#[]⟩], Rec.cells, by kernel_rfl, by decide, by decide, by simp [Value.cells, Rec.cells], fun _ => rfl, by intro x u hu; simp only [Rec.cells, List.mem_cons, List.not_mem_nil, or_false] at hu; rcases hu with rfl | rfl | rfl | rfl <;> rfl⟩
end Go.Proofs.YtgckkemmabaffaaDoor
