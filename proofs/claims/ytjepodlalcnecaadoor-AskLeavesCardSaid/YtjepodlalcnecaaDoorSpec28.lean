/- Plain words of layer 28: what a query is. No program. -/
import Derived.Test.YtjepodlalcnecaaDoorSpec15
import Derived.Test.YtjepodlalcnecaaDoorSpec28b
set_option linter.unusedVariables false
namespace Go.Fk
/-- is a text a term? -/
def termB (s : List UInt8) : Bool :=
  match s with
  | [] => false
  | c :: r => if c = 64 then oneOf r == some r else oneOf s == some s
/-- a step of a query -/
structure Stp where
  op : Int
  n : Int
  word : List UInt8
  fa : UInt64
  fb : UInt64
  deriving DecidableEq
/-- may a step be, by itself? -/
def rightB (s : Stp) : Bool :=
  if s.op = 1 ∨ s.op = 2 then decide (s.n = 0 ∧ (s.fa.toNat : Int) = 0 ∧ (s.fb.toNat : Int) = 0) && termB s.word
  else if s.op = 3 ∨ s.op = 4 then decide (s.n = 0 ∧ s.word = [])
  else if s.op = 6 ∨ s.op = 7 then decide (s.word = [] ∧ (s.fa.toNat : Int) = 0 ∧ (s.fb.toNat : Int) = 0 ∧ 2 ≤ s.n)
  else decide (s.op = 5 ∧ s.word = [] ∧ (s.fa.toNat : Int) = 0 ∧ (s.fb.toNat : Int) = 0 ∧ s.n = 0)
/-- how many queries a step takes -/
def takesZ (s : Stp) : Int := if s.op = 5 then 1 else if s.op = 6 ∨ s.op = 7 then s.n else 0
/-- how many queries a step takes, as the reference has it -/
def takesR (s : Stp) : Int := if s.op = 5 then 1 else s.n
/-- the stack of depths behind the steps -/
def stacks : List Nat → List Stp → Option (List Nat)
  | st, [] => some st
  | st, s :: r => if rightB s = false ∨ (st.length : Int) < takesZ s then none else stacks (pushD st (takesZ s).toNat) r
/-- the one depth that is there in the end -/
def depthE : Option (List Nat) → Except Int Nat
  | some [d] => .ok d
  | _ => .error 10
/-- a query's depth, or the number of the error -/
def depthQ (q : List Stp) : Except Int Nat := if 1000 < q.length then .error 6 else depthE (stacks [] q)
/-- what Check answers -/
def checkQ (q : List Stp) : Int :=
  match depthQ q with
  | .error n => n
  | .ok d => if 64 < d then 11 else 0
/-- a step of so many -/
def stepN (op : Int) (n : Nat) : Stp := ⟨op, n, [], 0, 0⟩
/-- what is put together by a step of so many -/
def joinL (op : Int) (ls : List (List Stp)) : List Stp := ls.flatten ++ if 1 < ls.length then [stepN op ls.length] else []
/-- the term that a text is, made small -/
def smallO (s : List UInt8) : Option (List UInt8) :=
  match s with
  | [] => none
  | c :: r => if c = 64 then (oneOf r).map fun w => 64 :: w else oneOf s
/-- the leaf of a term -/
def leafL (op : Int) (s : List UInt8) : List Stp :=
  match smallO s with
  | some w => [⟨op, 0, w, 0, 0⟩]
  | none => []
/-- a step of a span -/
def spanS (op : Int) (a b : UInt64) : Stp := ⟨op, 0, [], a, b⟩
theorem right_takes (s : Stp) (h : rightB s = true) : 0 ≤ takesZ s := by
  unfold rightB at h
  unfold takesZ
  split
  · omega
  · split
    · rename_i h6
      rw [if_neg (by omega), if_neg (by omega), if_pos h6] at h
      simp at h; omega
    · omega
theorem stacks_end (st : List Nat) (q : List Stp) (k : Nat) (h : q.length ≤ k) : stacks st (q.drop k) = some st := by
  rw [List.drop_eq_nil_of_le h, stacks]
theorem stacks_at (st : List Nat) (q : List Stp) (k : Nat) (h : k < q.length) : stacks st (q.drop k) = if rightB q[k] = false ∨ (st.length : Int) < takesZ q[k] then none else stacks (pushD st (takesZ q[k]).toNat) (q.drop (k + 1)) := by
  rw [List.drop_eq_getElem_cons h, stacks]
theorem takes_same (s : Stp) (h : rightB s = true) : takesR s = takesZ s := by
  unfold rightB at h
  unfold takesR takesZ
  split
  · rfl
  · rename_i h5
    split
    · rfl
    · rename_i h6
      split at h
      · simp at h; omega
      · split at h
        · simp at h; omega
        · simp at h; exact absurd h.1 h5
end Go.Fk
