/- The walk at an append that has a guard. No program is named. -/
import Derived.Test.YtjepodlalcnecaaDoorLib3
set_option linter.unusedVariables false
namespace Go.Fk
open Go.RowKit
section
variable {P : Program} {α : Type} {w : World} {base : Nat} {v : Value} {l : List α}
theorem wpList_live {ops : Array Oper} {rest : List Oper} {o : Oper} {a : Act} {Q : Exit → Act → World → Prop} (hw : Region.wanted o (yielded ops a.tmps) = true)
    (h : ∀ K : Act → World → Prop, (∀ a w, wpList P ops Q rest a w → K a w) → o.wp P a w K Q) : wpList P ops Q (o :: rest) a w :=
  wpList_step fun K hK => by rw [if_pos hw]; exact h K hK
theorem wpList_appg (E : Elt P α) {ops : Array Oper} {rest : List Oper} {o : Oper} {a : Act} {Q : Exit → Act → World → Prop} (hw : Region.wanted o (yielded ops a.tmps) = true) (s x : Operand) (t : TypeId)
    (ho : o.op = .call { callee := .builtin .append, args := #[s, x], argTypes := #[t, t] }) (ht : P.underlying t = some (.slice E.e))
    (base : Nat) (hs : a.eval s = v) (hown : Own w base E v l) (y : Value) (m : List α) (hx : a.eval x = y) (hsee : See w E y m) (hn : l.length + m.length ≤ 2147483648) (hbase : base ≤ w.heap.size)
    (h : ∀ v' w', App base E (l ++ m) w v v' w' → wpList P ops Q rest (a.put o.dst v') w') : wpList P ops Q (o :: rest) a w := by
  refine wpList_live hw fun K hK => ?_
  obtain ⟨v', w', hr, h2⟩ := run_app (P := P) E w base t o.type ht hown hsee hn hbase
  unfold Oper.wp execOp
  simp only [ho, resolve, invoke, builtin, Sem.run_bind, Sem.run_pure, Result.andThen_ok, List.map_toArray, List.map_cons, List.map_nil, hs, hx, hr]
  exact hK _ _ (h v' w' h2)
theorem wpList_app1g (E : Elt P α) {ops : Array Oper} {rest : List Oper} {o : Oper} {a : Act} {Q : Exit → Act → World → Prop} (hw : Region.wanted o (yielded ops a.tmps) = true) (s x : Operand) (t : TypeId)
    (ho : o.op = .call { callee := .builtin .append, args := #[s, x], argTypes := #[t, t] }) (ht : P.underlying t = some (.slice E.e))
    (base : Nat) (hs : a.eval s = v) (hown : Own w base E v l) (c : List α) (cs : Array Value) (e' : TypeId) (n : Nat) (hc : cs.toList = E.cells c) (hcn : n = c.length) (hx : a.eval x = .slice (some ⟨w.heap.size, 0, none⟩) n n) (hn : l.length + c.length ≤ 2147483648) (hbase : base ≤ w.heap.size)
    (h : ∀ v' w', App base E (l ++ c) w v v' w' → wpList P ops Q rest (a.put o.dst v') w') : wpList P ops Q (o :: rest) a (w.alloc (.cells cs e')) := by
  refine wpList_appg E hw s x t ho ht base hs (hown.fr ((Fr.refl w).alloc _)) _ c hx (see_new E w c cs e' n hcn hc (by unfold maxLen; omega)) hn (by simp; omega) fun v' w' ha => h v' w' (ha.under ((Fr.refl w).alloc _))
theorem ne_flip {a b : Option Nat} (h : a = none ∨ a ≠ b) : b = none ∨ b ≠ a := by
  cases b with
  | none => exact .inl rfl
  | some g =>
    rcases h with h | h
    · exact .inr (by rw [h]; simp)
    · exact .inr (fun e => h e.symm)
theorem apart_of {β : Type} {E : Elt P α} {F : Elt P β} {w' : World} {b' : Nat} {x : Value} {m : List β} (h1 : Own w base E v l) (h2 : Own w' b' F x m) (hb : w.heap.size ≤ b') : x.ownBlock = none ∨ x.ownBlock ≠ v.ownBlock := by
  cases hx : x.ownBlock with
  | none => exact .inl rfl
  | some g =>
    refine .inr fun e => ?_
    have i2 := h2.lt g hx
    have i1 := h1.lt g e.symm
    omega
end
end Go.Fk
