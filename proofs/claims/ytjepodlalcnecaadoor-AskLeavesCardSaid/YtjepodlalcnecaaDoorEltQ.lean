/- The element types of queries. -/
import Derived.Test.YtjepodlalcnecaaDoorElt
import Derived.Test.YtjepodlalcnecaaDoorSpec28
set_option linter.unusedVariables false
namespace Go.Proofs.YtjepodlalcnecaaDoor
open Go.RowKit Go.Fk
/-- its cells -/
def stpCells (s : Stp) : List Value := [.int .i64 s.op, .int .i64 s.n, S s.word, .int .u64 s.fa.toNat, .int .u64 s.fb.toNat]
/-- its value -/
abbrev stpV (s : Stp) : Value := .agg #[.int .i64 s.op, .int .i64 s.n, S s.word, .int .u64 s.fa.toNat, .int .u64 s.fb.toNat]
def eT : Elt Tryd.prog Stp := ⟨34, 5, 48, ⟨0, 0, [], 0, 0⟩, .agg #[.int .i64 0, .int .i64 0, .string ⟨#[]⟩, .int .u64 0, .int .u64 0], stpCells, by kernel_rfl, by decide, by decide, by simp [Value.cells, stpCells], fun _ => rfl, by intro x u hu; simp only [stpCells, List.mem_cons, List.not_mem_nil, or_false] at hu; rcases hu with rfl | rfl | rfl | rfl | rfl <;> rfl⟩
def eI : Elt Tryd.prog Int := ⟨3, 1, 8, 0, .int .i64 0, fun n => [.int .i64 n], by kernel_rfl, by decide, by decide, by simp [Value.cells], fun _ => rfl, by intro x u hu; simp at hu; subst hu; rfl⟩
/-- the cells of a step that is seen -/
theorem stpAt {w : World} {v : Value} {l : List Stp} (h : See w eT v l) (k : Nat) (hk : k < l.length) :
    ∃ b off cap, v = .slice (some ⟨b, off, none⟩) l.length cap ∧ w.cell? ⟨b, off + k * 5, none⟩ = some (.int .i64 l[k].op) ∧ w.cell? ⟨b, off + k * 5 + 1, none⟩ = some (.int .i64 l[k].n) ∧ w.cell? ⟨b, off + k * 5 + 2, none⟩ = some (S l[k].word) ∧ w.cell? ⟨b, off + k * 5 + 3, none⟩ = some (.int .u64 l[k].fa.toNat) ∧ w.cell? ⟨b, off + k * 5 + 4, none⟩ = some (.int .u64 l[k].fb.toNat) := by
  obtain ⟨b, off, cap, rfl, h1, h2, h3⟩ := h.cells (by intro e; simp [e] at hk)
  have e0 := h3 k hk 0 (by decide) _ rfl
  have e1 := h3 k hk 1 (by decide) _ rfl
  have e2 := h3 k hk 2 (by decide) _ rfl
  have e3 := h3 k hk 3 (by decide) _ rfl
  have e4 := h3 k hk 4 (by decide) _ rfl
  exact ⟨b, off, cap, rfl, e0, e1, e2, e3, e4⟩
end Go.Proofs.YtjepodlalcnecaaDoor
