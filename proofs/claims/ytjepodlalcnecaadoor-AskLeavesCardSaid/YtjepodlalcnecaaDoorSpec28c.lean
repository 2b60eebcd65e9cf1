/- Plain words of layer 28: what is read, and the text of a query. No program. -/
import Derived.Test.YtjepodlalcnecaaDoorSpec28
import Derived.Test.YtjepodlalcnecaaDoorSpec33e
set_option linter.unusedVariables false
namespace Go.Fk
/-- behind blanks -/
def skipB (l : List UInt8) : List UInt8 := l.dropWhile (· == 32)
/-- a sign taken, if it is the next one -/
def takeB (c : UInt8) (l : List UInt8) : Bool × List UInt8 :=
  match skipB l with
  | [] => (false, [])
  | x :: r => if x = c then (true, r) else (false, x :: r)
/-- a word, or the beginning of one -/
def wordP (l : List UInt8) : List Stp × List UInt8 :=
  let h := if l.head? = some 64 then [64] else []
  let l1 := if l.head? = some 64 then l.drop 1 else l
  let w := h ++ l1.takeWhile isL
  let l2 := l1.dropWhile isL
  if l2.head? = some 42 then (leafL 2 w, l2.drop 1) else (leafL 1 w, l2)
/-- a span of two numbers -/
def spanP (op : Int) (e : UInt8) (l : List UInt8) : List Stp × List UInt8 :=
  if e ∈ l then
    let c := Lib.cut ((bef e l).drop 1) [46, 46]
    match c.2.2, numL c.1, numL c.2.1 with
    | true, some a, some b => ([spanS op (UInt64.ofNat a) (UInt64.ofNat b)], aft e l)
    | _, _, _ => ([], l)
  else ([], l)
/-- what is read: the steps and what stands behind; or how much stood where it went wrong -/
abbrev Rd := Except Nat (List Stp × List UInt8)
/-- a leaf, without blanks ahead -/
def leafQ (l : List UInt8) : List Stp × List UInt8 :=
  if l.head? = some 91 then spanP 3 93 l else if l.head? = some 60 then spanP 4 62 l else wordP l
/-- a leaf -/
def leafP (l : List UInt8) : Rd := if (leafQ (skipB l)).1 = [] then .error (skipB l).length else .ok (leafQ (skipB l))
/-- a row of parts with a sign between -/
def rowP (part : List UInt8 → Rd) (c : UInt8) : Nat → List UInt8 → Except Nat (List (List Stp) × List UInt8)
  | 0, l => .error l.length
  | f + 1, l =>
    match part l with
    | .error e => .error e
    | .ok (x, l1) =>
      if (takeB c l1).1 then
        match rowP part c f (takeB c l1).2 with
        | .error e => .error e
        | .ok (xs, l3) => .ok (x :: xs, l3)
      else .ok ([x], (takeB c l1).2)
/-- a row of parts put together -/
def joinP (part : List UInt8 → Rd) (c : UInt8) (op : Int) (l : List UInt8) : Rd :=
  match rowP part c (l.length + 1) l with
  | .error e => .error e
  | .ok (xs, l1) => .ok (joinL op xs, l1)
def bothW (part : List UInt8 → Rd) (l : List UInt8) : Rd := joinP part 38 6 l
def anyW (part : List UInt8 → Rd) (l : List UInt8) : Rd := joinP (bothW part) 124 7 l
/-- behind an opened bracket -/
def closeP (r : Rd) : Rd :=
  match r with
  | .error e => .error e
  | .ok (q, l) => if (takeB 41 l).1 then .ok (q, (takeB 41 l).2) else .error (takeB 41 l).2.length
/-- a not -/
def notP : Nat → List UInt8 → Rd
  | 0, l => .error l.length
  | n + 1, l =>
    if (takeB 33 l).1 then
      match notP n (takeB 33 l).2 with
      | .error e => .error e
      | .ok (q, l1) => .ok (q ++ [stepN 5 0], l1)
    else if (takeB 40 (takeB 33 l).2).1 then closeP (anyW (notP n) (takeB 40 (takeB 33 l).2).2)
    else leafP (takeB 40 (takeB 33 l).2).2
/-- a whole text -/
def readP (s : List UInt8) : Except Nat (List Stp) :=
  match anyW (notP (s.length + 1)) s with
  | .error e => .error e
  | .ok (q, l) => if skipB l = [] then .ok q else .error (skipB l).length
/-- what Parse answers: the query; or the place and the error -/
def parseQ (s : List UInt8) : Except (Nat × Int) (List Stp) :=
  if 100000 < s.length then .error (0, 6) else
  match readP s with
  | .error e => .error (s.length - e, 10)
  | .ok q => if checkQ q = 0 then .ok q else .error (0, checkQ q)
/-- a shown query: its text, and its last step's Op -/
abbrev Sh := List UInt8 × Int
/-- a shown query within an Op -/
def within (op : Int) (x : Sh) : List UInt8 := if x.2 = 7 ∨ x.2 = 6 ∧ op ≠ 7 then 40 :: (x.1 ++ [41]) else x.1
/-- texts with one between -/
def sepL (sep : List UInt8) : List (List UInt8) → List UInt8
  | [] => []
  | [x] => x
  | x :: r => x ++ (sep ++ sepL sep r)
/-- the text of a step of shown queries -/
def showT (s : Stp) (kids : List Sh) : List UInt8 :=
  if s.op = 1 then s.word
  else if s.op = 2 then s.word ++ [42]
  else if s.op = 3 then 91 :: (Lib.decDigits s.fa.toNat ++ 46 :: 46 :: (Lib.decDigits s.fb.toNat ++ [93]))
  else if s.op = 4 then 60 :: (Lib.decDigits s.fa.toNat ++ 46 :: 46 :: (Lib.decDigits s.fb.toNat ++ [62]))
  else if s.op = 5 then 33 :: (kids.map (within s.op)).headD []
  else if s.op = 6 then sepL [32, 38, 32] (kids.map (within s.op))
  else sepL [32, 124, 32] (kids.map (within s.op))
/-- the stack of shown queries behind a step -/
def pushT (st : List Sh) (s : Stp) : List Sh := st.take (st.length - (takesZ s).toNat) ++ [(showT s (st.drop (st.length - (takesZ s).toNat)), s.op)]
/-- the stack of shown queries behind steps -/
def shows (q : List Stp) : List Sh := q.foldl pushT []
/-- a query's text -/
def textQ (q : List Stp) : List UInt8 := ((shows q).headD ([], 0)).1
end Go.Fk
