/- Walks of strings.Builder, written in a block of its own. -/
import Derived.Test.YtgckkemmabaffaaDoorElt
import Derived.Test.YtgckkemmabaffaaDoorShelf
set_option linter.unusedVariables false
namespace Go.Proofs.YtgckkemmabaffaaDoor
open Go.RowKit Go.Fk

theorem sizeBuilder : (Tryd.prog.info? 54).map (·.size) = some 2 := by kernel_rfl
theorem liesBuilder : liesAt Tryd.prog Tryd.prog.depth 54 (2 / Tryd.prog.cellsOf 54) 0 54 1 = true := by kernel_rfl
set_option maxHeartbeats 1000000 in
set_option maxRecDepth 100000 in
theorem copyCheck_any (b : Nat) (p v : Value) (w : World) (h : w.heap[b]? = some (.cells #[p, v] 54 (0, 0))) (hp : p = .pointer none ∨ p = .pointer (some ⟨b, 0, none⟩)) :
    Calls Tryd.prog 44 #[.pointer (some ⟨b, 0, none⟩)] w fun e w' => e = .returned (.tuple #[]) ∧ w'.heap[b]? = some (.cells #[.pointer (some ⟨b, 0, none⟩), v] 54 (0, 0)) ∧ Chg (fun k => k = b) w w' := by
  have c0 : w.cell? ⟨b, 0, none⟩ = some p := by rw [cell_of_heap h]; rfl
  have f0 : w.frozen? ⟨b, 0, none⟩ = false := frozen_of_heap h 0
  have hsh : w.shape? b = some (54, 2) := by simp [World.shape?, h]
  have hh := hid h
  clear h
  obtain ⟨j, hj, hjs⟩ := Option.map_eq_some_iff.1 sizeBuilder
  rcases hp with rfl | rfl
  · go_enter Tryd.func44, Tryd.ntmps44
    go_wp2_with fail
    rw [Lib.run_to_unsafe w ⟨b, 0, none⟩ Tryd.underlying51 Tryd.underlying83 hj (by rw [hjs]; decide) hsh (Nat.zero_lt_succ 1)]
    simp only [Result.andThen]
    rw [Oper.upon_value]
    go_wp2_with fail
    rw [run_callFunc_extern Tryd.func56 (by kernel_rfl) (by kernel_rfl) (by kernel_rfl) (e := Extern.AbiNoEscape.same) (by kernel_rfl)]
    rw [Lib.run_noEscape]
    simp only [Result.andThen]
    rw [Oper.upon_value]
    go_wp2_with fail
    rw [Lib.run_from_unsafe w ⟨b, 0, none⟩ Tryd.underlying83 Tryd.underlying51 hj hsh liesBuilder]
    simp only [Result.andThen]
    rw [Oper.upon_value]
    go_wp2_with fail
    go_end0
    exact ⟨rfl, by rw [heap_setCell_own hh.out]; rfl, setCell_chg w ⟨b, 0, none⟩ _⟩
  · go_enter Tryd.func44, Tryd.ntmps44
    go_wp2_with fail
    rw [Lib.run_neq_ptr_same w _ Tryd.underlying51 hj]
    go_wp2_with fail
    go_end0
    exact ⟨rfl, hh.out, Chg.refl _ _⟩

set_option maxHeartbeats 1000000 in
set_option maxRecDepth 100000 in
theorem wstr_any (b base : Nat) (p v : Value) (l s : List UInt8) (w : World) (h : w.heap[b]? = some (.cells #[p, v] 54 (0, 0))) (hp : p = .pointer none ∨ p = .pointer (some ⟨b, 0, none⟩))
    (hown : Own w base eB v l) (hlen : l.length + s.length ≤ 2147483648) (hbase : base ≤ w.heap.size) :
    Calls Tryd.prog 31 #[.pointer (some ⟨b, 0, none⟩), S s] w fun e w' => e = .returned (.tuple #[N s.length, .nilIface]) ∧
      ∃ v', w'.heap[b]? = some (.cells #[.pointer (some ⟨b, 0, none⟩), v'] 54 (0, 0)) ∧ Own w' base eB v' (l ++ s) ∧ Chg (fun k => k = b ∨ v.ownBlock = some k) w w' ∧ (∀ k, v'.ownBlock = some k → v.ownBlock = some k ∨ w.heap.size ≤ k) := by
  have hne := hown.ne_cells h (by decide)
  have hh := hid h
  clear h
  go_enter Tryd.func31, Tryd.ntmps31
  go_wp2_with fail
  refine (copyCheck_any b p v _ hh.out hp).mono ?_
  rintro e w1 ⟨rfl, h1, hc1⟩
  have hown1 := hown.chg hc1 (by intro k hk e; subst e; exact hne hk)
  have c0 : w1.cell? ⟨b, 0, none⟩ = some (.pointer (some ⟨b, 0, none⟩)) := by rw [cell_of_heap h1]; rfl
  have c1 : w1.cell? ⟨b, 1, none⟩ = some v := by rw [cell_of_heap h1]; rfl
  have hh1 := hid h1
  clear h1
  go_wp2_with (at_builtin; refine wpList_app_str eB rfl (.tmp 12) (.tmp 13) 52 9 rfl Tryd.underlying52 Tryd.underlying9 rfl rfl rfl base rfl hown1 s rfl hlen ?c5 ?_)
  case c5 => have := hc1.size; omega
  intro v' w2 ha
  have h2 := ha.chg'.heap hh1.out hne
  have d0 : w2.cell? ⟨b, 0, none⟩ = some (.pointer (some ⟨b, 0, none⟩)) := by rw [cell_of_heap h2]; rfl
  have d1 : w2.cell? ⟨b, 1, none⟩ = some v := by rw [cell_of_heap h2]; rfl
  have f1 : w2.frozen? ⟨b, 1, none⟩ = false := frozen_of_heap h2 1
  have hne2 := ha.own.ne_cells h2 (by decide)
  have hh2 := hid h2
  clear h2
  obtain ⟨ao, n', cap, rfl⟩ := ha.own.shape
  go_wp2_with fail
  go_ret2
  refine ⟨rfl, _, by rw [heap_setCell_own hh2.out]; rfl, ha.own.chg (setCell_chg _ _ _) (by intro k hk e; subst e; exact hne2 hk), ?_, ?_⟩
  · refine ((hc1.mono (fun k _ hk => .inl hk)).trans (ha.chg'.mono (G' := fun k => k = b ∨ v.ownBlock = some k) (fun k _ hk => .inr hk)) (fun i _ hi => hi)).trans (setCell_chg _ _ _) (fun i _ hi => .inl hi)
  · intro k hk
    rcases ha.fresh k hk with h | h
    · exact .inl h
    · exact .inr (Nat.le_trans hc1.size h)
/-- String, of a builder in a block of its own -/
theorem bstr_any (b base : Nat) (p v : Value) (l : List UInt8) (w : World) (h : w.heap[b]? = some (.cells #[p, v] 54 (0, 0))) (hp : p = .pointer none ∨ p = .pointer (some ⟨b, 0, none⟩))
    (hown : Own w base eB v l) (hb : b ≤ base) :
    Calls Tryd.prog 32 #[.pointer (some ⟨b, 0, none⟩)] w fun e w' => e = .returned (S l) ∧ Below b w w' ∧ Lib.OthersKept 5 (some b) w w' := by
  have hsz : b < w.heap.size := (Array.getElem?_eq_some_iff.1 h).1
  have hne := hown.ne_cells h (by decide)
  have e1 : eB.cells l = Lib.byteCells l := by
    unfold Elt.cells eB Lib.byteCells; clear hown hne; induction l with
    | nil => rfl
    | cons x l ih => simp_all
  have hB : ∀ q, p = q → Lib.BuilderAt 54 5 b b q (Lib.byteCells l) w := by
    rintro q rfl
    have h3 := hown.rebase hb
    unfold Own at h3
    rw [e1] at h3
    exact ⟨Nat.le_refl _, v, h, by simpa [Lib.byteCells, eB] using h3, hne⟩
  refine (Tryd.Builder_String_any_k b b l w (Lib.IsBuilderF.of ?_) (by omega)).mono ?_
  · rcases hp with hp | hp
    · exact .inl (hB _ hp)
    · exact .inr (hB _ hp)
  · rintro e w' ⟨he, _, h1, h2⟩
    exact ⟨he, h1, h2⟩
end Go.Proofs.YtgckkemmabaffaaDoor
