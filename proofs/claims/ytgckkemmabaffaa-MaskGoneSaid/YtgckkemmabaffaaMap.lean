/- Sets of texts as maps to nothing. No program. -/
import Derived.Test.YtgckkemmabaffaaLib
import Derived.Maps.OwnSet
set_option linter.unusedVariables false
namespace Go.Fk
open Go.RowKit Go.WideMaps Go.WideElems

/-- block b is a set of texts -/
def SetAt (P : Program) (k : TypeId) (w : World) (b : Nat) (ws : List (List UInt8)) : Prop :=
  ∃ n, n ≤ ws.length ∧ w.ownsMap (H := Unit) P k unitElem b n (Maps.setOf (.agg []) (ws.map Lit.string))
theorem SetAt.same {P : Program} {k : TypeId} {w w' : World} {b : Nat} {ws : List (List UInt8)} (h : SetAt P k w b ws) (hb : w'.heap[b]? = w.heap[b]?) : SetAt P k w' b ws := by
  obtain ⟨n, hn, es, clock, hh, r⟩ := h
  exact ⟨n, hn, es, clock, hb.trans hh, r⟩
theorem SetAt.lt {P : Program} {k : TypeId} {w : World} {b : Nat} {ws : List (List UInt8)} (h : SetAt P k w b ws) : b < w.heap.size := by
  obtain ⟨n, hn, es, clock, hh, r⟩ := h
  exact (Array.getElem?_eq_some_iff.1 hh).1
theorem SetAt.fr {P : Program} {k : TypeId} {w w' : World} {b : Nat} {ws : List (List UInt8)} (h : SetAt P k w b ws) (hf : Fr w w') : SetAt P k w' b ws :=
  h.same (Below.block hf b h.lt)
theorem SetAt.made (P : Program) (k : TypeId) (w : World) : SetAt P k (w.alloc (.map #[] 0)) w.heap.size [] :=
  ⟨0, Nat.le_refl _, World.ownsMap_made _ _ _ _⟩
theorem key_string (y : List UInt8) : WideAt.IsKeyLit (.string y) := by simp [WideAt.IsKeyLit]
theorem any_sameKey (ws : List (List UInt8)) (s : List UInt8) : (ws.map Lit.string).any (fun x => x.sameKey (.string s)) = decide (s ∈ ws) := by
  induction ws with
  | nil => simp
  | cons a l ih =>
    rw [List.map_cons, List.any_cons, ih]
    by_cases h : a = s
    · subst h; simp [Lit.sameKey]
    · have : (Lit.string a).sameKey (.string s) = false := Maps.sameKey_ne (by simpa using h)
      rw [this]
      have h' : ¬ s = a := fun e => h e.symm
      simp [h']
theorem SetAt.look {P : Program} {k e t : TypeId} {w : World} {b : Nat} {ws : List (List UInt8)} (h : SetAt P k w b ws) (hk : P.underlying k = some .string) (ht : P.underlying t = some (.map k e))
    (hz : (zeroValue e).run P w = .ok (.agg #[]) w) (s : List UInt8) (hs : s.length ≤ maxLen) :
    (Instr.lookup t (.map (some b)) (S s) true).run P w = .ok (.tuple #[.agg #[], .bool (decide (s ∈ ws))]) w := by
  obtain ⟨n, hn, hown⟩ := h
  have hkey : keyOf P k (S s) = some (.string s) := by simpa using keyOf_string_mk (s := ⟨s.toArray⟩) hk (by simpa [ByteArray.size] using hs)
  obtain ⟨v, ps, hrun, hv⟩ := hown.look_ok (Maps.string_keyed hk) ht hz unitElem_mk hkey
  obtain ⟨rfl, _⟩ := unitElem_inv hv
  rw [hrun, Maps.has_setOf _ _ _ (by intro x hx; obtain ⟨y, _, rfl⟩ := List.mem_map.1 hx; exact key_string y), any_sameKey]
theorem wpList_set_put {P : Program} {w : World} {ops : Array Oper} {rest : List Oper} {o : Oper} {a : Act} {Q : Exit → Act → World → Prop}
    (hg : o.guard = none) (m x v : Operand) (t : TypeId) (hop : o.op = Op.mapUpdate t m x v)
    (k e : TypeId) (hk : P.underlying k = some .string) (ht : P.underlying t = some (.map k e)) (b : Nat) (ws : List (List UInt8)) (s : List UInt8)
    (hm : a.eval m = .map (some b)) (h : SetAt P k w b ws) (hn : ws.length < maxLen) (hs : s.length ≤ maxLen) (hx : a.eval x = S s) (hv : a.eval v = .agg #[])
    (hK : ∀ w', SetAt P k w' b (ws ++ [s]) → w.grownBy w' (some b) → wpList P ops Q rest (a.put o.dst undef) w') :
    wpList P ops Q (o :: rest) a w := by
  obtain ⟨n, hn', hown⟩ := h
  have hkey : keyOf P k (S s) = some (.string s) := by simpa using keyOf_string_mk (s := ⟨s.toArray⟩) hk (by simpa [ByteArray.size] using hs)
  refine wpList_mapUpdate_own w hg m x v t hop k e (Maps.string_keyed hk) ht unitElem b n _ hm hown (by omega) _ _ _ hx hv hkey (.agg []) [] unitElem_mk fun w' h1 h2 => hK w' ⟨n + 1, by simpa using hn', ?_⟩ h2
  rw [List.map_append, List.map_singleton, Maps.setOf_snoc]
  exact h1
end Go.Fk
