/- Walks of ask: read. -/
import Derived.Test.YtjepodlalcnecaaDoorW28r
import Derived.WalkSmall
import Derived.Test.YtjepodlalcnecaaDoorW28f
set_option linter.unusedVariables false
namespace Go.Proofs.YtjepodlalcnecaaDoor
open Go.RowKit Go.Fk
def ReadPost (w : World) (s : List UInt8) (e : Ending) (w' : World) : Prop :=
  match readP s with
  | .ok q => ∃ v, e = .returned (.tuple #[v, .int .i64 0, .int .i64 0]) ∧ Own w' w.heap.size eT v q ∧ Fr w w'
  | .error _ => ∃ k : Nat, k ≤ s.length ∧ e = .returned (.tuple #[.slice none 0 0, .int .i64 (k : Int), .int .i64 10]) ∧ Fr w w'
/-- three results in cells of their own -/
def Thr (w W : World) (x1 x2 x3 : Value) : Prop :=
  Fr w W ∧ (∃ T, W.heap[w.heap.size]? = some (.cells #[x1] T (0, 0))) ∧ (∃ T, W.heap[w.heap.size + 1]? = some (.cells #[x2] T (0, 0))) ∧ (∃ T, W.heap[w.heap.size + 2]? = some (.cells #[x3] T (0, 0)))
theorem Thr.chb {w W W' : World} {x1 x2 x3 : Value} (h : Thr w W x1 x2 x3) (hc : ChB (w.heap.size + 3) W W') : Thr w W' x1 x2 x3 := by
  obtain ⟨h0, ⟨T1, h1⟩, ⟨T2, h2⟩, ⟨T3, h3⟩⟩ := h
  exact ⟨hc.below h0 h0.size (fun i hi => by subst hi; omega), ⟨T1, hc.heap h1 (by omega)⟩, ⟨T2, hc.heap h2 (by omega)⟩, ⟨T3, hc.heap h3 (by omega)⟩⟩
theorem Thr.facts {w W : World} {x1 x2 x3 : Value} (h : Thr w W x1 x2 x3) :
    W.cell? ⟨w.heap.size, 0, none⟩ = some x1 ∧ W.cell? ⟨w.heap.size + 1, 0, none⟩ = some x2 ∧ W.cell? ⟨w.heap.size + 2, 0, none⟩ = some x3 ∧
    W.frozen? ⟨w.heap.size, 0, none⟩ = false ∧ W.frozen? ⟨w.heap.size + 1, 0, none⟩ = false ∧ W.frozen? ⟨w.heap.size + 2, 0, none⟩ = false := by
  obtain ⟨h0, ⟨T1, h1⟩, ⟨T2, h2⟩, ⟨T3, h3⟩⟩ := h
  exact ⟨cell_of_heap h1 0, cell_of_heap h2 0, cell_of_heap h3 0, frozen_of_heap h1 0, frozen_of_heap h2 0, frozen_of_heap h3 0⟩
theorem Thr.set1 {w W : World} {x1 x2 x3 : Value} (h : Thr w W x1 x2 x3) (u : Value) : Thr w (W.setCell ⟨w.heap.size, 0, none⟩ u) u x2 x3 := by
  obtain ⟨h0, ⟨T1, h1⟩, ⟨T2, h2⟩, ⟨T3, h3⟩⟩ := h
  have hc := setCell_chg W ⟨w.heap.size, 0, none⟩ u
  exact ⟨hc.below h0 h0.size (fun i hi => by subst hi; exact Nat.le_refl _), ⟨T1, heap_setCell_own h1 0 u⟩, ⟨T2, hc.heap h2 (by simp)⟩, ⟨T3, hc.heap h3 (by simp)⟩⟩
theorem Thr.set2 {w W : World} {x1 x2 x3 : Value} (h : Thr w W x1 x2 x3) (u : Value) : Thr w (W.setCell ⟨w.heap.size + 1, 0, none⟩ u) x1 u x3 := by
  obtain ⟨h0, ⟨T1, h1⟩, ⟨T2, h2⟩, ⟨T3, h3⟩⟩ := h
  have hc := setCell_chg W ⟨w.heap.size + 1, 0, none⟩ u
  exact ⟨hc.below h0 h0.size (fun i hi => by subst hi; exact Nat.le_succ _), ⟨T1, hc.heap h1 (by simp)⟩, ⟨T2, heap_setCell_own h2 0 u⟩, ⟨T3, hc.heap h3 (by simp)⟩⟩
theorem Thr.set3 {w W : World} {x1 x2 x3 : Value} (h : Thr w W x1 x2 x3) (u : Value) : Thr w (W.setCell ⟨w.heap.size + 2, 0, none⟩ u) x1 x2 u := by
  obtain ⟨h0, ⟨T1, h1⟩, ⟨T2, h2⟩, ⟨T3, h3⟩⟩ := h
  have hc := setCell_chg W ⟨w.heap.size + 2, 0, none⟩ u
  exact ⟨hc.below h0 h0.size (fun i hi => by subst hi; show _ ≤ _ + 2; omega), ⟨T1, hc.heap h1 (by simp)⟩, ⟨T2, hc.heap h2 (by simp)⟩, ⟨T3, heap_setCell_own h3 0 u⟩⟩
theorem Thr.new (w : World) (x1 x2 x3 : Value) (T1 T2 T3 : TypeId) (o : Obj) : Thr w ((((w.alloc (.cells #[x1] T1)).alloc (.cells #[x2] T2)).alloc (.cells #[x3] T3)).alloc o) x1 x2 x3 := by
  have f1 : Fr w (w.alloc (.cells #[x1] T1)) := (Fr.refl w).alloc _
  have f2 : Fr (w.alloc (.cells #[x1] T1)) ((w.alloc (.cells #[x1] T1)).alloc (.cells #[x2] T2)) := (Fr.refl _).alloc _
  have f3 : Fr ((w.alloc (.cells #[x1] T1)).alloc (.cells #[x2] T2)) (((w.alloc (.cells #[x1] T1)).alloc (.cells #[x2] T2)).alloc (.cells #[x3] T3)) := (Fr.refl _).alloc _
  have f4 : Fr (((w.alloc (.cells #[x1] T1)).alloc (.cells #[x2] T2)).alloc (.cells #[x3] T3)) ((((w.alloc (.cells #[x1] T1)).alloc (.cells #[x2] T2)).alloc (.cells #[x3] T3)).alloc o) := (Fr.refl _).alloc _
  refine ⟨f1.trans (f2.trans (f3.trans f4)), ⟨T1, ?_⟩, ⟨T2, ?_⟩, ⟨T3, ?_⟩⟩
  · exact (f2.trans (f3.trans f4)).heap (heap_new w (.cells #[x1] T1) _ rfl)
  · exact (f3.trans f4).heap (heap_new (w.alloc (.cells #[x1] T1)) (.cells #[x2] T2) _ (by rw [size_alloc]))
  · exact f4.heap (heap_new ((w.alloc (.cells #[x1] T1)).alloc (.cells #[x2] T2)) (.cells #[x3] T3) _ (by rw [size_alloc, size_alloc]))
set_option maxRecDepth 100000 in
set_option maxHeartbeats 4000000 in
theorem read_any (s : List UInt8) (w : World) (hlen : s.length ≤ 100000) (hT : LibT w) (hG : LibB (w.heap.size + 3)) :
    Calls Tryd.prog 35 #[S s] w (ReadPost w s) := by
  have hmf : ∀ (fn : Fn) (first cap : Array Value) (w : World), (Instr.makeFunc fn first cap).run Tryd.prog w = .ok (.func fn first cap) w := fun _ _ _ _ => rfl
  have HA := hid (anyP_ok (w.heap.size + 3) s (by omega) hG (s.length + 1) (by omega))
  have HR : Hid (∀ e w', ReadPost w s e w' = match (match anyW (notP (s.length + 1)) s with
      | .error e => Except.error e
      | .ok (q, l) => if skipB l = [] then .ok q else .error (skipB l).length : Except Nat (List Stp)) with
      | .ok q => ∃ v, e = .returned (.tuple #[v, .int .i64 0, .int .i64 0]) ∧ Own w' w.heap.size eT v q ∧ Fr w w'
      | .error _ => ∃ k : Nat, k ≤ s.length ∧ e = .returned (.tuple #[.slice none 0 0, .int .i64 (k : Int), .int .i64 10]) ∧ Fr w w') := by
    intro e w'; rfl
  generalize ReadPost w s = R at *
  generalize anyW (notP (s.length + 1)) = A at *
  go_enter_defers Tryd.func35, Tryd.ntmps35
  go_wp2_with fail
  have hthr := Thr.new w (.slice none 0 0) (.int .i64 0) (.int .i64 0) 22 3 24 (.cells #[S s, .int .i64 0] 71)
  have hrd : RdL ((((w.alloc (.cells #[.slice none 0 0] 22)).alloc (.cells #[.int .i64 0] 3)).alloc (.cells #[.int .i64 0] 24)).alloc (.cells #[S s, .int .i64 0] 71)) (w.heap.size + 3) s s :=
    ⟨0, by simp, rfl, heap_new (((w.alloc (.cells #[.slice none 0 0] 22)).alloc (.cells #[.int .i64 0] 3)).alloc (.cells #[.int .i64 0] 24)) _ _ (by simp only [size_alloc])⟩
  have hsz : ((((w.alloc (.cells #[.slice none 0 0] 22)).alloc (.cells #[.int .i64 0] 3)).alloc (.cells #[.int .i64 0] 24)).alloc (.cells #[S s, .int .i64 0] 71)).heap.size = w.heap.size + 4 := by simp only [size_alloc]
  have e3 : w.heap.size + 1 + 1 + 1 = w.heap.size + 3 := rfl
  have e2 : w.heap.size + 1 + 1 = w.heap.size + 2 := rfl
  rw [e3, e2]
  clear e3 e2
  generalize ((((w.alloc (.cells #[.slice none 0 0] 22)).alloc (.cells #[.int .i64 0] 3)).alloc (.cells #[.int .i64 0] 24)).alloc (.cells #[S s, .int .i64 0] 71)) = w4 at *
  have hT4 := hT.fr hthr.1
  refine (HA.out s w4 (by omega) hrd.rds (by omega) hT4).mono ?_
  intro e w5 h5
  cases hq : A s with
  | error m =>
    rw [hq] at h5
    obtain ⟨⟨k, hk, rfl⟩, hc5, hs5⟩ := h5
    have HR2 := HR.out
    rw [hq] at HR2
    have ht5 := hthr.chb hc5
    obtain ⟨c1, c2, c3, f1, f2, f3⟩ := ht5.facts
    go_wp2_with fail
    clear HA HR
    simp only [bodyPostD]
    refine leaves_cons (f := 44) (args := #[.pointer (some ⟨w.heap.size, 0, none⟩), .pointer (some ⟨w.heap.size + 1, 0, none⟩), .pointer (some ⟨w.heap.size + 2, 0, none⟩)]) (by simp) (by simp [go_sem]) ?_
    refine (catch_panicking w.heap.size k [] w5 _ _ _ c1 c2 c3 f1 f2 f3).mono ?_
    rintro e u' w6 ⟨rfl, rfl, rfl⟩
    have ht6 := ((ht5.set1 (.slice none 0 0)).set2 (.int .i64 k)).set3 (.int .i64 10)
    obtain ⟨d1, d2, d3, _, _, _⟩ := ht6.facts
    have HG : R (.returned (.tuple #[.slice none 0 0, .int .i64 (k : Int), .int .i64 10])) (((w5.setCell ⟨w.heap.size, 0, none⟩ (.slice none 0 0)).setCell ⟨w.heap.size + 1, 0, none⟩ (.int .i64 k)).setCell ⟨w.heap.size + 2, 0, none⟩ (.int .i64 10)) := by
      rw [HR2]; exact ⟨k, hk, rfl, ht6.1⟩
    generalize (((w5.setCell ⟨w.heap.size, 0, none⟩ (.slice none 0 0)).setCell ⟨w.heap.size + 1, 0, none⟩ (.int .i64 k)).setCell ⟨w.heap.size + 2, 0, none⟩ (.int .i64 10)) = w6 at *
    simp [Leaves, settle, results, Tryd.results35, go_sem, d1, d2, d3]
    exact HG
  | ok y =>
    obtain ⟨q, l⟩ := y
    rw [hq] at h5
    obtain ⟨v, rfl, hown, hrd5, hc5⟩ := h5
    have ht5 := hthr.chb hc5
    obtain ⟨c1, c2, c3, f1, f2, f3⟩ := ht5.facts
    have hs5 := hc5.size
    obtain ⟨va, vc, hv⟩ := hown.shape'
    subst hv
    have ht6 := ht5.set1 (.slice va q.length vc)
    have hc6 := setCell_chg w5 ⟨w.heap.size, 0, none⟩ (.slice va q.length vc)
    have hown6 := hown.chg hc6 (fun i h1 h2 => by have := (hown.lt i h1).1; simp at h2; omega)
    have hT6 := hT.fr ht6.1
    have hrd6 : RdS (w5.setCell ⟨w.heap.size, 0, none⟩ (.slice va q.length vc)) (w.heap.size + 3) s l := by
      obtain ⟨l1, ⟨i, h1, h2, h3⟩, h4⟩ := hrd5
      exact ⟨l1, ⟨i, h1, h2, hc6.heap h3 (by simp)⟩, h4⟩
    have hs6 : (w5.setCell ⟨w.heap.size, 0, none⟩ (.slice va q.length vc)).heap.size = w5.heap.size := by simp
    go_wp2_with fail
    generalize (w5.setCell ⟨w.heap.size, 0, none⟩ (.slice va q.length vc)) = w6 at *
    refine (signS_any (w.heap.size + 3) s l w6 hrd6 (by omega)).mono ?_
    rintro e w7 ⟨rfl, hrd7, hc7⟩
    have ht7 := ht6.chb hc7
    have hs7 := hc7.size
    have hown7 := own_chb hown6 (by omega) hc7
    obtain ⟨i, q1, q2, q3⟩ := hrd7
    obtain ⟨r0, r1, g1⟩ := rd_cells q3
    obtain ⟨d1, d2, d3, e1, e2, e3⟩ := ht7.facts
    have HR2 := hid HR.out
    rw [hq] at HR2
    clear hq HR HA
    by_cases hl : skipB l = []
    · have hi : ¬ i < s.length := by rw [hl] at q1; simp at q1; omega
      go_wp2_with fail
      have ht8 := ((ht7.set1 (.slice va q.length vc)).set2 (.int .i64 0)).set3 (.int .i64 0)
      have hc8 : Chg (fun k => k = w.heap.size ∨ k = w.heap.size + 1 ∨ k = w.heap.size + 2) w7 (((w7.setCell ⟨w.heap.size, 0, none⟩ (.slice va q.length vc)).setCell ⟨w.heap.size + 1, 0, none⟩ (.int .i64 0)).setCell ⟨w.heap.size + 2, 0, none⟩ (.int .i64 0)) :=
        (((setCell_chg w7 ⟨w.heap.size, 0, none⟩ (.slice va q.length vc)).mono (fun _ _ h => .inl h)).trans (setCell_chg _ ⟨w.heap.size + 1, 0, none⟩ (.int .i64 0)) (fun _ _ h => .inr (.inl h))).trans (setCell_chg _ ⟨w.heap.size + 2, 0, none⟩ (.int .i64 0)) (fun _ _ h => .inr (.inr h))
      have hown8 := hown7.chg hc8 (fun j h1 h2 => by have := (hown7.lt j h1).1; omega)
      simp only [bodyPostD]
      refine leaves_cons (f := 44) (args := #[.pointer (some ⟨w.heap.size, 0, none⟩), .pointer (some ⟨w.heap.size + 1, 0, none⟩), .pointer (some ⟨w.heap.size + 2, 0, none⟩)]) (by simp) (by simp [go_sem]) ?_
      refine (catch_idle w.heap.size _).mono ?_
      rintro e u' w9 ⟨rfl, rfl, rfl⟩
      obtain ⟨d1, d2, d3, _, _, _⟩ := ht8.facts
      have HG : R (.returned (.tuple #[.slice va q.length vc, .int .i64 0, .int .i64 0])) (((w7.setCell ⟨w.heap.size, 0, none⟩ (.slice va q.length vc)).setCell ⟨w.heap.size + 1, 0, none⟩ (.int .i64 0)).setCell ⟨w.heap.size + 2, 0, none⟩ (.int .i64 0)) := by
        rw [HR2.out]; simp only [hl, if_true]; exact ⟨_, rfl, hown8.rebase (by omega), ht8.1⟩
      generalize (((w7.setCell ⟨w.heap.size, 0, none⟩ (.slice va q.length vc)).setCell ⟨w.heap.size + 1, 0, none⟩ (.int .i64 0)).setCell ⟨w.heap.size + 2, 0, none⟩ (.int .i64 0)) = w8 at *
      simp [Leaves, settle, results, Tryd.results35, go_sem, d1, d2, d3]
      exact HG
    · have hi : i < s.length := by
        cases hh : skipB l with
        | nil => exact absurd hh hl
        | cons a b => rw [hh] at q1; simp at q1; omega
      go_wp2_with fail
      simp only [bodyPostD]
      refine leaves_cons (f := 44) (args := #[.pointer (some ⟨w.heap.size, 0, none⟩), .pointer (some ⟨w.heap.size + 1, 0, none⟩), .pointer (some ⟨w.heap.size + 2, 0, none⟩)]) (by simp) (by simp [go_sem]) ?_
      refine (catch_panicking w.heap.size i [] w7 _ _ _ d1 d2 d3 e1 e2 e3).mono ?_
      rintro e u' w9 ⟨rfl, rfl, rfl⟩
      have ht8 := ((ht7.set1 (.slice none 0 0)).set2 (.int .i64 i)).set3 (.int .i64 10)
      clear d1 d2 d3 e1 e2 e3
      obtain ⟨d1, d2, d3, _, _, _⟩ := ht8.facts
      have HG : R (.returned (.tuple #[.slice none 0 0, .int .i64 (i : Int), .int .i64 10])) (((w7.setCell ⟨w.heap.size, 0, none⟩ (.slice none 0 0)).setCell ⟨w.heap.size + 1, 0, none⟩ (.int .i64 i)).setCell ⟨w.heap.size + 2, 0, none⟩ (.int .i64 10)) := by
        rw [HR2.out]; simp only [hl, if_false]; exact ⟨i, by omega, rfl, ht8.1⟩
      generalize (((w7.setCell ⟨w.heap.size, 0, none⟩ (.slice none 0 0)).setCell ⟨w.heap.size + 1, 0, none⟩ (.int .i64 i)).setCell ⟨w.heap.size + 2, 0, none⟩ (.int .i64 10)) = w8 at *
      simp [Leaves, settle, results, Tryd.results35, go_sem, d1, d2, d3]
      exact HG
end Go.Proofs.YtjepodlalcnecaaDoor
namespace Go.Proofs.YtjepodlalcnecaaDoor
open Go.RowKit Go.Fk
/-- what Parse leaves -/
def ParsePost (w : World) (s : List UInt8) (e : Ending) (w' : World) : Prop :=
  match parseQ s with
  | .ok q => ∃ v, e = .returned (.tuple #[v, .int .i64 0, .int .i64 0]) ∧ Own w' w.heap.size eT v q ∧ Fr w w'
  | .error x => ∃ k : Nat, k ≤ s.length ∧ (x.2 = 10 ∨ k = 0) ∧ e = .returned (.tuple #[.slice none 0 0, .int .i64 (k : Int), .int .i64 x.2]) ∧ Fr w w'
theorem lib_b {w : World} (h : LibT w) : LibB (w.heap.size + 3) := by
  obtain ⟨h1, h2, ⟨⟨t1, p1, h3⟩, t2, p2, h4⟩, m, h5⟩ := h
  have b3 := World.block_lt_of_cell? w _ h3
  have b4 := World.block_lt_of_cell? w _ h4
  have b5 := World.block_lt_of_cell? w _ h5
  simp only at b3 b4 b5
  exact ⟨by omega, by omega, by omega, by omega⟩
set_option maxRecDepth 100000 in
set_option maxHeartbeats 4000000 in
theorem Parse_any (s : List UInt8) (w : World) (hlen : s.length < 9223372036854775808) (hT : LibT w) :
    Calls Tryd.prog 20 #[S s] w (ParsePost w s) := by
  have HP : Hid (∀ e w', ParsePost w s e w' = match (if 100000 < s.length then .error (0, 6) else
      match readP s with
      | .error e => .error (s.length - e, 10)
      | .ok q => if checkQ q = 0 then .ok q else .error (0, checkQ q) : Except (Nat × Int) (List Stp)) with
      | .ok q => ∃ v, e = .returned (.tuple #[v, .int .i64 0, .int .i64 0]) ∧ Own w' w.heap.size eT v q ∧ Fr w w'
      | .error x => ∃ k : Nat, k ≤ s.length ∧ (x.2 = 10 ∨ k = 0) ∧ e = .returned (.tuple #[.slice none 0 0, .int .i64 (k : Int), .int .i64 x.2]) ∧ Fr w w') := by
    intro e w'; rfl
  have HL := hid hlen
  clear hlen
  generalize ParsePost w s = R at *
  by_cases hl : 100000 < s.length
  · have HP2 : Hid (∀ e w', R e w' = ∃ k : Nat, k ≤ s.length ∧ (6 = (10 : Int) ∨ k = 0) ∧ e = .returned (.tuple #[.slice none 0 0, .int .i64 (k : Int), .int .i64 6]) ∧ Fr w w') := by
      intro e w'; rw [HP.out, if_pos hl]
    clear HP
    go_enter Tryd.func20, Tryd.ntmps20
    go_wp2_with fail
    exact bodyPost_ret (v := .tuple #[.slice none 0 0, .int .i64 0, .int .i64 6]) (by simp [results, Tryd.results20, go_sem, *]) rfl (by rw [HP2.out]; exact ⟨0, by omega, .inr rfl, rfl, Fr.refl w⟩)
  · have HB := hid (read_any s w (by omega) hT (lib_b hT))
    have HP2 : Hid (∀ e w', R e w' = match (match readP s with
      | .error e => .error (s.length - e, 10)
      | .ok q => if checkQ q = 0 then .ok q else .error (0, checkQ q) : Except (Nat × Int) (List Stp)) with
      | .ok q => ∃ v, e = .returned (.tuple #[v, .int .i64 0, .int .i64 0]) ∧ Own w' w.heap.size eT v q ∧ Fr w w'
      | .error x => ∃ k : Nat, k ≤ s.length ∧ (x.2 = 10 ∨ k = 0) ∧ e = .returned (.tuple #[.slice none 0 0, .int .i64 (k : Int), .int .i64 x.2]) ∧ Fr w w') := by
      intro e w'; rw [HP.out]; simp only [hl, if_false]
    clear HP
    unfold ReadPost at HB
    go_enter Tryd.func20, Tryd.ntmps20
    go_wp2_with fail
    refine HB.out.mono ?_
    intro e w1 h1
    cases hq : readP s with
    | error m =>
      rw [hq] at h1
      obtain ⟨k, hk, rfl, hf⟩ := h1
      have HP3 : Hid (∀ e w', R e w' = ∃ k : Nat, k ≤ s.length ∧ (10 = (10 : Int) ∨ k = 0) ∧ e = .returned (.tuple #[.slice none 0 0, .int .i64 (k : Int), .int .i64 10]) ∧ Fr w w') := by
        intro e w'; rw [HP2.out, hq]
      clear HP2 hq
      go_wp2_with fail
      exact bodyPost_ret (v := .tuple #[.slice none 0 0, .int .i64 (k : Int), .int .i64 10]) (by simp [results, Tryd.results20, go_sem, *]) rfl (by rw [HP3.out]; exact ⟨k, hk, .inl trivial, rfl, hf⟩)
    | ok q =>
      rw [hq] at h1
      obtain ⟨v, rfl, hown, hf⟩ := h1
      have HP3 : Hid (∀ e w', R e w' = match (if checkQ q = 0 then .ok q else .error (0, checkQ q) : Except (Nat × Int) (List Stp)) with
        | .ok q => ∃ v, e = .returned (.tuple #[v, .int .i64 0, .int .i64 0]) ∧ Own w' w.heap.size eT v q ∧ Fr w w'
        | .error x => ∃ k : Nat, k ≤ s.length ∧ (x.2 = 10 ∨ k = 0) ∧ e = .returned (.tuple #[.slice none 0 0, .int .i64 (k : Int), .int .i64 x.2]) ∧ Fr w w') := by
        intro e w'; rw [HP2.out, hq]
      clear HP2 hq
      obtain ⟨va, vc, hv⟩ := hown.shape'
      subst hv
      go_wp2_with fail
      refine (Check_any _ q w1 hown.see).mono ?_
      rintro e w2 ⟨rfl, hf2⟩
      have hown2 := hown.fr hf2
      by_cases hc : checkQ q = 0
      · have HP4 : Hid (∀ e w', R e w' = ∃ v, e = .returned (.tuple #[v, .int .i64 0, .int .i64 0]) ∧ Own w' w.heap.size eT v q ∧ Fr w w') := by
          intro e w'; rw [HP3.out]; simp only [hc, if_true]
        clear HP3
        go_wp2_with fail
        exact bodyPost_ret (v := .tuple #[.slice va q.length vc, .int .i64 0, .int .i64 0]) (by simp [results, Tryd.results20, go_sem, *]) rfl (by rw [HP4.out]; exact ⟨_, rfl, hown2, hf.trans hf2⟩)
      · have HP4 : Hid (∀ e w', R e w' = ∃ k : Nat, k ≤ s.length ∧ ((checkQ q) = (10 : Int) ∨ k = 0) ∧ e = .returned (.tuple #[.slice none 0 0, .int .i64 (k : Int), .int .i64 (checkQ q)]) ∧ Fr w w') := by
          intro e w'; rw [HP3.out]; simp only [hc, if_false]
        clear HP3
        generalize checkQ q = c at *
        go_wp2_with fail
        exact bodyPost_ret (v := .tuple #[.slice none 0 0, .int .i64 0, .int .i64 c]) (by simp [results, Tryd.results20, go_sem, *]) rfl (by rw [HP4.out]; exact ⟨0, by omega, .inr rfl, rfl, hf.trans hf2⟩)
end Go.Proofs.YtjepodlalcnecaaDoor
