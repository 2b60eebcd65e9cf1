/- What strconv's ParseUint wants of a world, and what it tells of numbers. -/
import Derived.Test.YtjepodlalcnecaaDoorNum
import Derived.Test.YtjepodlalcnecaaDoorSpec33d
import Derived.Lib.SmallJoins
set_option linter.unusedVariables false
namespace Go.Proofs.YtjepodlalcnecaaDoor
open Go.RowKit Go.Fk
/-- the library's two sentinels -/
def Errs (w : World) : Prop := (∃ t p, w.cell? ⟨4, 0, none⟩ = some (.iface t p)) ∧ ∃ t p, w.cell? ⟨5, 0, none⟩ = some (.iface t p)
theorem Errs.fr {w w' : World} (h : Errs w) (hf : Fr w w') : Errs w' := by
  obtain ⟨⟨t, p, h1⟩, t', p', h2⟩ := h
  exact ⟨⟨t, p, hf.cell h1⟩, t', p', hf.cell h2⟩
theorem gPow2 : Tryd.prog.globalNamed "internal/strconv.uint64pow10" = some 0 := by kernel_rfl
theorem Pow.fr {w w' : World} (h : Pow w) (hz : 0 < w.heap.size) (hf : Fr w w') : Pow w' := var?_below hf gPow2 hz h
theorem parse_num (s : List UInt8) (u : Nat) (h : Lib.parseUintB 64 s = .ok u) : numL s = if Lib.decDigits u = s then some u else none := by
  rw [Lib.parseUintB_64] at h
  unfold Lib.parseMag at h
  split at h
  · cases h
  · rename_i hne
    have := (okV_parse s 0 u (by omega)).1 h
    unfold numL
    rw [if_neg hne, this]; rfl
theorem parse_none (s : List UInt8) (h : ∀ u, Lib.parseUintB 64 s ≠ .ok u) : numL s = none := by
  cases hn : numL s with
  | none => rfl
  | some u =>
    obtain ⟨h1, rfl⟩ := (numL_iff s u).1 hn
    exfalso
    apply h u
    rw [Lib.parseUintB_64]
    unfold Lib.parseMag
    rw [if_neg (dec_ne u)]
    exact (okV_parse _ 0 u (by omega)).2 (okV_dec u h1)
theorem parse_lt (s : List UInt8) (u : Nat) (h : Lib.parseUintB 64 s = .ok u) : u < 18446744073709551616 := by
  have := Lib.parseUintB_le h
  have e : (2 : Nat) ^ 64 - 1 = 18446744073709551615 := by decide
  omega
end Go.Proofs.YtjepodlalcnecaaDoor
