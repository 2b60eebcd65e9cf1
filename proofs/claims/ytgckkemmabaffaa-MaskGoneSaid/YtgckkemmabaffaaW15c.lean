/- Walks of words: the words of a text. -/
import Derived.Test.YtgckkemmabaffaaW15b
set_option linter.unusedVariables false
namespace Go.Proofs.Ytgckkemmabaffaa
open Go.RowKit Go.Fk

/-- a variable at Bo that holds a list of texts of its own: pre, and g of each word -/
def OutI (Bo : Nat) (pre : List (List UInt8)) (g : List UInt8 → List UInt8) (ws : List (List UInt8)) (F : Nat → Prop) (w : World) : Prop :=
  ∃ ov, w.heap[Bo]? = some (.cells #[ov] 22 (0, 0)) ∧ Own w (Bo + 1) eS ov (pre ++ ws.map g) ∧ (∀ b, F b ↔ b = Bo ∨ ov.ownBlock = some b)
theorem OutI.loc {Bo : Nat} {pre : List (List UInt8)} {g : List UInt8 → List UInt8} {ws : List (List UInt8)} {F G : Nat → Prop} {w w' : World} (h : OutI Bo pre g ws F w) (hc : Chg G w w') (hn : ∀ b, F b → ¬ G b) : OutI Bo pre g ws F w' := by
  obtain ⟨ov, h1, h2, h3⟩ := h
  exact ⟨ov, hc.heap h1 (hn _ ((h3 _).2 (.inl rfl))), h2.chg hc (fun b hb => hn _ ((h3 _).2 (.inr hb))), h3⟩
theorem OutI.bd {Bo : Nat} {pre : List (List UInt8)} {g : List UInt8 → List UInt8} {ws : List (List UInt8)} {F : Nat → Prop} {w : World} (h : OutI Bo pre g ws F w) (b : Nat) (hb : F b) : b < w.heap.size := by
  obtain ⟨ov, h1, h2, h3⟩ := h
  rcases (h3 b).1 hb with e | e
  · rw [e]; exact (Array.getElem?_eq_some_iff.1 h1).1
  · exact (h2.lt b e).2
/-- one text more -/
theorem OutI.put {Bo : Nat} {pre : List (List UInt8)} {g : List UInt8 → List UInt8} {ws : List (List UInt8)} {w w1 : World} {ov : Value} {a : Option Addr} {n cap : Nat} {x : List UInt8}
    (h1 : w.heap[Bo]? = some (.cells #[ov] 22 (0, 0))) (h2 : Own w (Bo + 1) eS ov (pre ++ ws.map g)) (ha : App (Bo + 1) eS (pre ++ ws.map g ++ [g x]) w ov (.slice a n cap) w1) :
    ∃ F', OutI Bo pre g (ws ++ [x]) F' (w1.setCell ⟨Bo, 0, none⟩ (.slice a n cap)) ∧ Chg (fun b => b = Bo ∨ ov.ownBlock = some b) w (w1.setCell ⟨Bo, 0, none⟩ (.slice a n cap)) ∧ (∀ b, F' b → (b = Bo ∨ ov.ownBlock = some b) ∨ w.heap.size ≤ b) := by
  have hne := h2.ne_cells h1 (by decide)
  have h3 := ha.chg'.heap h1 hne
  have hne2 := ha.own.ne_cells h3 (by decide)
  have hst := setCell_chg w1 ⟨Bo, 0, none⟩ (.slice a n cap)
  refine ⟨fun b => b = Bo ∨ (Value.slice a n cap).ownBlock = some b, ⟨_, by rw [heap_setCell_own h3]; rfl, ?_, fun b => Iff.rfl⟩, ?_, ?_⟩
  · rw [List.map_append, ← List.append_assoc]
    exact ha.own.chg hst (by intro b hb e; simp at e; subst e; exact hne2 hb)
  · exact (ha.chg'.mono (G' := fun b => b = Bo ∨ ov.ownBlock = some b) (fun b _ h => .inr h)).trans hst (fun b _ h => .inl h)
  · rintro b (e | e)
    · exact .inl (.inl e)
    · rcases ha.fresh b e with h | h
      · exact .inl (.inr h)
      · exact .inr h
/-- a text as it is -/
def asIs (l : List UInt8) : List UInt8 := l
theorem words1_any (Bo : Nat) (pre ws : List (List UInt8)) (F : Nat → Prop) (x : List UInt8) (w : World) (h : OutI Bo pre asIs ws F w) (hp : pre.length ≤ 1) (hlen : ws.length ≤ 2147483646) :
    Calls Try.prog 20 #[S x, .pointer (some ⟨Bo, 0, none⟩)] w fun e w' => e = .returned (.tuple #[]) ∧
      ∃ F', OutI Bo pre asIs (ws ++ [x]) F' w' ∧ Chg F w w' ∧ (∀ b, F' b → F b ∨ w.heap.size ≤ b) := by
  obtain ⟨ov, h1, h2, h3⟩ := h
  have c0 : w.cell? ⟨Bo, 0, none⟩ = some ov := by rw [cell_of_heap h1]; rfl
  have hsz : Bo < w.heap.size := (Array.getElem?_eq_some_iff.1 h1).1
  have H1 := hid h1
  clear h1
  go_enter Try.func20, Try.ntmps20
  go_wp2_with (at_builtin; refine wpList_app1 eS rfl (.tmp 3) (.tmp 5) 22 rfl Try.underlying22 (Bo + 1) rfl h2 [asIs x] _ _ _ rfl rfl rfl ?c1 ?c2 ?_)
  case c1 => simp; omega
  case c2 => omega
  intro v' w1 ha
  have hne := h2.ne_cells H1.out (by decide)
  have HH := hid (ha.chg'.heap H1.out hne)
  have d1 : w1.cell? ⟨Bo, 0, none⟩ = some ov := by rw [cell_of_heap HH.out]; rfl
  have e1 : w1.frozen? ⟨Bo, 0, none⟩ = false := frozen_of_heap HH.out 0
  obtain ⟨a, n', cap, rfl⟩ := ha.own.shape
  go_wp2_with fail
  go_end0
  obtain ⟨F', r1, r2, r3⟩ := OutI.put (g := asIs) (x := x) H1.out h2 (by rw [List.append_assoc]; exact ha)
  refine ⟨rfl, F', r1, r2.mono (fun b _ hb => (h3 b).2 hb), fun b hb => (r3 b hb).imp (fun h => (h3 b).2 h) id⟩
theorem words1_sink (Bo : Nat) : Sink 20 #[.pointer (some ⟨Bo, 0, none⟩)] (OutI Bo [] asIs) :=
  ⟨fun h hc hn => h.loc hc hn, fun h => h.bd, fun x h _ hl => words1_any Bo [] _ _ x _ h (by simp) hl⟩

theorem Words_any (s : List UInt8) (w : World) (hlen : s.length ≤ 2147483646) :
    Calls Try.prog 12 #[S s] w fun e w' => ∃ v, e = .returned v ∧ Own w' w.heap.size eS v (wordsOf s) ∧ Fr w w' := by
  have hmf : ∀ (fn : Fn) (first cap : Array Value) (w : World), (Instr.makeFunc fn first cap).run Try.prog w = .ok (.func fn first cap) w := fun _ _ _ _ => rfl
  go_enter Try.func12, Try.ntmps12
  go_wp2_with fail
  refine (split_any (words1_sink w.heap.size) (enters Try.func20 (by kernel_rfl) rfl) s [] (fun b => b = w.heap.size) _ ?h (by simpa using hlen)).mono ?_
  case h => exact ⟨_, heap_new _ _ _ rfl, Own.nil, fun b => by simp [Value.ownBlock]⟩
  rintro e w1 ⟨rfl, F', ⟨ov, h1, h2, h3⟩, hc, hF⟩
  have c0 : w1.cell? ⟨w.heap.size, 0, none⟩ = some ov := by rw [cell_of_heap h1]; rfl
  have h2' := hid h2
  clear h1 h2
  go_wp2_with fail
  go_ret
  refine ⟨ov, rfl, ?_, ?_⟩
  · have := h2'.out
    have e : ([] : List (List UInt8)) ++ (([] : List (List UInt8)) ++ wordsOf s).map asIs = wordsOf s := List.map_id _
    rw [e] at this
    exact this.rebase (by omega)
  · exact (((Fr.refl w).alloc _).chg (fun _ => False)).trans hc (by intro i hi e; exact absurd e (by omega)) |>.fr (fun _ _ h => h)
end Go.Proofs.Ytgckkemmabaffaa
