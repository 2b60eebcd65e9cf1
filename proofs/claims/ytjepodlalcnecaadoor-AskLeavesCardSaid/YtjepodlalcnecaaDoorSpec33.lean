/- Plain words of layer 33: quoted texts, numbers, lines. No program. -/
import Derived.WalkKit
set_option linter.unusedVariables false
namespace Go.Fk
/-- the digits of 16 -/
def hexDigits : List UInt8 := [48, 49, 50, 51, 52, 53, 54, 55, 56, 57, 97, 98, 99, 100, 101, 102]
/-- digit x of 16 -/
def hexd (x : Nat) : UInt8 := hexDigits.getD x 0
/-- does a byte stand for itself? -/
def plainB (c : UInt8) : Bool := decide (32 ≤ c.toNat) && decide (c.toNat ≤ 126) && c != 34 && c != 92
theorem plainB_iff (c : UInt8) : plainB c = true ↔ 32 ≤ c.toNat ∧ c.toNat ≤ 126 ∧ c.toNat ≠ 34 ∧ c.toNat ≠ 92 := by
  have h1 : ∀ k : UInt8, c = k ↔ c.toNat = k.toNat := fun k => UInt8.toNat_inj.symm
  unfold plainB
  simp only [Bool.and_eq_true, decide_eq_true_eq, bne_iff_ne, ne_eq, h1]
  have a : (34 : UInt8).toNat = 34 := rfl
  have b : (92 : UInt8).toNat = 92 := rfl
  rw [a, b]; constructor <;> intro h <;> omega
/-- a byte quoted -/
def quoteC (c : UInt8) : List UInt8 := if plainB c then [c] else [92, hexd (c.toNat / 16), hexd (c.toNat % 16)]
def quoteL (l : List UInt8) : List UInt8 := (l.map quoteC).flatten
/-- a text quoted -/
def quote (l : List UInt8) : List UInt8 := 34 :: quoteL l ++ [34]
end Go.Fk
