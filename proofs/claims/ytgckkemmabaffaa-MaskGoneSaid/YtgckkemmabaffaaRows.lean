/-
  No cell of these rows narrows 'for every input' (looked for: loops, veiled, ifaces, maps, wideKeys, modest, calm, conditions, laid).
  DERIVED. THE GIVEN ROWS OF THIS SEAT. 3 by the template 'for every input the law returns true; each argument reads behind the call as it read before'; 0 by the template 'total and deterministic' (their statements: YtgckkemmabaffaaTotals.lean).
  GIVEN WITH THE SEED: the statements are not yours to turn. If you find one false, say at which input.
  Laid BY PROGRAM, IN A SANDBOX (cutbox-rows.mjs): the forced cells as the released guide's own fill.sh prints them over the translation 177c509dd749019a… (all of the seat's roots in one cut). By AI agents, Wed Nov 11 2026. No macro, syntax, notation, axiom, sorry.
-/
import Derived.Test.YtgckkemmabaffaaChecked
import GoSem.Claim
import GoSem.ClaimJoined
import GoSem.ClaimMapViews
import Derived.JoinedTies
import Derived.KernelRfl
namespace Go.Proofs.Ytgckkemmabaffaa
/- THE CELL 'sum', in the pinned program and in every row, IS THE sha256 OF THE DUMP (.gsa) THAT YtgckkemmabaffaaProg.lean LOADS. Nothing in Lean hashes anything: it is a label: what it is worth is what the hold of that sum in a sandbox is worth. -/
noncomputable def Try.pinned : Pinned := { name := "ytgckkemmabaffaa", sum := "177c509dd749019aa9b2d711be590b8ff3e270ba3f2af830be9414feaff49f0b", checked := Try.checked }
namespace Rows
def none {H : Type} : Left H := { results := [], args := [] }

/-- 'firkinlaw37.MaskParts': WHATEVER THE INPUT: true; the input reads as it did. -/
def maskPartsSpec : ChangeSpec := { name := "maskParts", fn := fun _ => fun
  | [d1, d2, d3] => { results := [.lit (.bool true)], args := [d1, d2, d3] }
  | _ => none }
def maskPartsRow : OpenClaim := { program := "ytgckkemmabaffaa", sum := "177c509dd749019aa9b2d711be590b8ff3e270ba3f2af830be9414feaff49f0b", func := "firkin/firkinlaw37.MaskParts", spec := "maskParts", inPlace := ["internal/abi.NoEscape", "internal/bytealg.MakeNoZero"], unfollowed := true, recurses := true, apart := false }
def MaskPartsSaid : Prop := maskPartsRow.holds Try.pinned (OpenSpec.ofChange maskPartsSpec)

/-- ITS FALSE NEIGHBOUR: 'it returns false'. Refute it at one input. -/
def maskPartsWrong : ChangeSpec := { name := "maskParts", fn := fun _ => fun
  | [d1, d2, d3] => { results := [.lit (.bool false)], args := [d1, d2, d3] }
  | _ => none }
def MaskPartsWrongFalsely : Prop := maskPartsRow.holds Try.pinned (OpenSpec.ofChange maskPartsWrong)

/-- 'firkinlaw37.MaskTexts': WHATEVER THE INPUT: true; the input reads as it did. -/
def maskTextsSpec : ChangeSpec := { name := "maskTexts", fn := fun _ => fun
  | [d1, d2] => { results := [.lit (.bool true)], args := [d1, d2] }
  | _ => none }
def maskTextsRow : OpenClaim := { program := "ytgckkemmabaffaa", sum := "177c509dd749019aa9b2d711be590b8ff3e270ba3f2af830be9414feaff49f0b", func := "firkin/firkinlaw37.MaskTexts", spec := "maskTexts", inPlace := ["internal/abi.NoEscape", "internal/bytealg.MakeNoZero"], unfollowed := true, recurses := true, apart := false }
def MaskTextsSaid : Prop := maskTextsRow.holds Try.pinned (OpenSpec.ofChange maskTextsSpec)

/-- ITS FALSE NEIGHBOUR: 'it returns false'. Refute it at one input. -/
def maskTextsWrong : ChangeSpec := { name := "maskTexts", fn := fun _ => fun
  | [d1, d2] => { results := [.lit (.bool false)], args := [d1, d2] }
  | _ => none }
def MaskTextsWrongFalsely : Prop := maskTextsRow.holds Try.pinned (OpenSpec.ofChange maskTextsWrong)

/-- 'firkinlaw37.MaskGone': WHATEVER THE INPUT: true; the input reads as it did. -/
def maskGoneSpec : ChangeSpec := { name := "maskGone", fn := fun _ => fun
  | [d1, d2] => { results := [.lit (.bool true)], args := [d1, d2] }
  | _ => none }
def maskGoneRow : OpenClaim := { program := "ytgckkemmabaffaa", sum := "177c509dd749019aa9b2d711be590b8ff3e270ba3f2af830be9414feaff49f0b", func := "firkin/firkinlaw37.MaskGone", spec := "maskGone", inPlace := ["internal/abi.NoEscape", "internal/bytealg.MakeNoZero"], unfollowed := true, recurses := true, apart := false }
def MaskGoneSaid : Prop := maskGoneRow.holds Try.pinned (OpenSpec.ofChange maskGoneSpec)

/-- ITS FALSE NEIGHBOUR: 'it returns false'. Refute it at one input. -/
def maskGoneWrong : ChangeSpec := { name := "maskGone", fn := fun _ => fun
  | [d1, d2] => { results := [.lit (.bool false)], args := [d1, d2] }
  | _ => none }
def MaskGoneWrongFalsely : Prop := maskGoneRow.holds Try.pinned (OpenSpec.ofChange maskGoneWrong)

/- THE SECOND FORM. 'bulk': how many values and letters a reading holds, each counted each time it is reached (what is shared counts as often as it is met; a slice's spare places count too). A statement '..UptoSaid' is the law's where the arguments, and the package variables that the reading takes, are together of bulk at most 1048576: NARROWER than '..Said'. Prove '..Said' where nothing that the law and all that it calls make is longer than what came in: it says more and counts as full. Else prove '..UptoSaid'. A law counts once. -/
mutual
def uptoBulk {H : Type} : DataW H → Nat
  | .lit (.string bytes) => bytes.length + 1
  | .lit _ => 1
  | .nil => 1
  | .ptr d => uptoBulk d + 1
  | .slice elems spare => uptoBulkAll elems + uptoBulkAll spare + 1
  | .agg parts => uptoBulkAll parts + 1
  | .iface _ d => uptoBulk d + 1
  | .map entries => uptoBulkEntries entries + 1
  | .held _ => 1
def uptoBulkAll {H : Type} : List (DataW H) → Nat
  | [] => 0
  | d :: r => uptoBulk d + uptoBulkAll r
def uptoBulkEntries {H : Type} : List (Lit × DataW H) → Nat
  | [] => 0
  | x :: r => uptoBulkEntry x + uptoBulkEntries r
def uptoBulkEntry {H : Type} : Lit × DataW H → Nat
  | (.string bytes, d) => bytes.length + uptoBulk d + 1
  | (_, d) => uptoBulk d + 1
 end
def uptoSmall : (H : Type) → List (DataW H) → Bool := fun _ ds => decide (uptoBulkAll ds ≤ 1048576)
def OpenSpec.upto (s : _root_.Go.ChangeSpec) : _root_.Go.OpenSpec := { _root_.Go.OpenSpec.ofChange s with cond := some uptoSmall }

/-- 'firkinlaw37.MaskParts', WHERE WHAT IT READS IS OF BULK AT MOST 1048576: true; the input reads as it did. -/
def maskPartsUptoRow : OpenClaim := { program := "ytgckkemmabaffaa", sum := "177c509dd749019aa9b2d711be590b8ff3e270ba3f2af830be9414feaff49f0b", func := "firkin/firkinlaw37.MaskParts", spec := "maskParts", inPlace := ["internal/abi.NoEscape", "internal/bytealg.MakeNoZero"], unfollowed := true, recurses := true, apart := false, narrowed := true }
def MaskPartsUptoSaid : Prop := maskPartsUptoRow.holds Try.pinned (OpenSpec.upto maskPartsSpec)

/-- 'firkinlaw37.MaskTexts', WHERE WHAT IT READS IS OF BULK AT MOST 1048576: true; the input reads as it did. -/
def maskTextsUptoRow : OpenClaim := { program := "ytgckkemmabaffaa", sum := "177c509dd749019aa9b2d711be590b8ff3e270ba3f2af830be9414feaff49f0b", func := "firkin/firkinlaw37.MaskTexts", spec := "maskTexts", inPlace := ["internal/abi.NoEscape", "internal/bytealg.MakeNoZero"], unfollowed := true, recurses := true, apart := false, narrowed := true }
def MaskTextsUptoSaid : Prop := maskTextsUptoRow.holds Try.pinned (OpenSpec.upto maskTextsSpec)

/-- 'firkinlaw37.MaskGone', WHERE WHAT IT READS IS OF BULK AT MOST 1048576: true; the input reads as it did. -/
def maskGoneUptoRow : OpenClaim := { program := "ytgckkemmabaffaa", sum := "177c509dd749019aa9b2d711be590b8ff3e270ba3f2af830be9414feaff49f0b", func := "firkin/firkinlaw37.MaskGone", spec := "maskGone", inPlace := ["internal/abi.NoEscape", "internal/bytealg.MakeNoZero"], unfollowed := true, recurses := true, apart := false, narrowed := true }
def MaskGoneUptoSaid : Prop := maskGoneUptoRow.holds Try.pinned (OpenSpec.upto maskGoneSpec)

end Rows
end Go.Proofs.Ytgckkemmabaffaa
