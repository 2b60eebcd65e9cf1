/- Parts of the proof of ThreeMends: SpecQ. -/
import Derived.Test.YtfhdgenlpmlajaaGreatDoorM06
set_option linter.unusedVariables false
set_option linter.unusedSectionVars false
set_option linter.unusedSimpArgs false
set_option maxHeartbeats 8000000
namespace Go.Fk
def wtS {α : Type} (f : α → Nat) (l : List α) : Nat := (l.map f).sum
theorem wtS_snoc {α : Type} (f : α → Nat) (l : List α) (k : Nat) (h : k < l.length) : wtS f (l.take (k + 1)) = wtS f (l.take k) + f l[k] := by
 unfold wtS; rw [List.take_succ_eq_append_getElem h, List.map_append, List.sum_append]; simp
theorem wtS_le {α : Type} (f : α → Nat) (m : Nat) (l : List α) (h : ∀ x ∈ l, f x ≤ m) : wtS f l ≤ l.length * m := by
 induction l with
 | nil => simp [wtS]
 | cons x l ih =>
  have h1 := h x (List.mem_cons_self ..)
  have h2 := ih (fun y hy => h y (List.mem_cons_of_mem _ hy))
  unfold wtS at *
  rw [List.map_cons, List.sum_cons, List.length_cons, Nat.add_mul]; omega
theorem flat_len {α β : Type} (f : α → List β) (l : List α) : ((l.map f).flatten).length = wtS (fun x => (f x).length) l := by
 induction l with
 | nil => rfl
 | cons x l ih => unfold wtS at *; simp [ih]
def grpGo {α : Type} (S : Nat) (f : α → Nat) : Nat → Nat → List α → List Nat
 | c, _, [] => [c]
 | c, h, r :: l => if h + f r ≤ S then grpGo S f (c + 1) (h + f r) l else c :: grpGo S f 1 (f r) l
def groupsL {α : Type} (S : Nat) (f : α → Nat) : List α → List Nat
 | [] => []
 | r :: l => grpGo S f 1 (f r) l
def dif64 (t was : Nat) : Nat := (t + 18446744073709551616 - was) % 18446744073709551616
def timesGo : Nat → List Nat → List UInt8
 | _, [] => []
 | was, t :: l => numB (zigN (dif64 t was)) ++ timesGo t l
def lvGo : UInt8 → Nat → List UInt8 → List UInt8
 | x, c, [] => x :: numB c
 | x, c, y :: l => if y = x then lvGo x (c + 1) l else (x :: numB c) ++ lvGo y 1 l
def levelsL : List UInt8 → List UInt8
 | [] => []
 | x :: l => lvGo x 1 l
end Go.Fk
