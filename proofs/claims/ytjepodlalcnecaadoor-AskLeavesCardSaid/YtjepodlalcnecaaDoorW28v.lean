/- Walks of ask: a step shown. -/
import Derived.Test.YtjepodlalcnecaaDoorW28u
import Derived.Test.YtjepodlalcnecaaDoorLib2
set_option linter.unusedVariables false
namespace Go.Proofs.YtjepodlalcnecaaDoor
open Go.RowKit Go.Fk
theorem shAt {w : World} {v : Value} {l : List Sh} (h : See w eW v l) (k : Nat) (hk : k < l.length) :
    ∃ b off cap, v = .slice (some ⟨b, off, none⟩) l.length cap ∧ w.cell? ⟨b, off + k * 2, none⟩ = some (S l[k].1) ∧ w.cell? ⟨b, off + k * 2 + 1, none⟩ = some (.int .i64 l[k].2) := by
  obtain ⟨b, off, cap, rfl, h1, h2, h3⟩ := h.cells (by intro e; simp [e] at hk)
  have e0 := h3 k hk 0 (by decide) _ rfl
  have e1 := h3 k hk 1 (by decide) _ rfl
  exact ⟨b, off, cap, rfl, e0, e1⟩
theorem join_sep (sep : List UInt8) (xs : List (List UInt8)) : Lib.join xs sep = sepL sep xs := by
  induction xs with
  | nil => rfl
  | cons x r ih =>
    cases r with
    | nil => simp [Lib.join, sepL]
    | cons y r =>
      rw [sepL]
      · rw [← ih]; simp [Lib.join]
      · intro h; cases h
set_option maxRecDepth 100000 in
theorem JoinS_any (v : Value) (xs : List (List UInt8)) (sep : List UInt8) (w : World) (hs : See w eS v xs) (hl : (sepL sep xs).length ≤ 1000000000) (hn : xs.length ≤ 1000000000) :
    Calls Tryd.prog 43 #[v, S sep] w fun e w' => e = .returned (S (sepL sep xs)) ∧ Fr w w' := by
  by_cases h0 : xs = []
  · subst h0
    obtain ⟨a, cap, hv, _⟩ := hs.shape
    subst hv
    refine (Tryd.strings_Join_none a cap ⟨sep.toArray⟩ w).mono ?_
    rintro e w' ⟨rfl, rfl⟩
    exact ⟨rfl, Fr.refl _⟩
  · obtain ⟨b, off, cap, rfl, h1, h2, h3⟩ := hs.cells h0
    have e : Lib.join ((xs.map fun x => (⟨x.toArray⟩ : ByteArray)).map (·.data.toList)) (⟨sep.toArray⟩ : ByteArray).data.toList = sepL sep xs := by
      rw [List.map_map, ← join_sep]
      congr 1
      exact (List.map_congr_left (fun _ _ => by simp)).trans (List.map_id _)
    have hl2 : (xs.map fun x => (⟨x.toArray⟩ : ByteArray)).length = xs.length := List.length_map ..
    have hl3 : (sepL sep xs).length ≤ 140737488355328 := Nat.le_trans hl (by decide)
    have hn3 : xs.length ≤ 140737488355328 := Nat.le_trans hn (by decide)
    have hc : ∀ (j : Nat) x, (xs.map fun x => (⟨x.toArray⟩ : ByteArray))[j]? = some x → w.cell? ⟨b, off + j, none⟩ = some (.string x) := by
      intro j x hx
      rw [List.getElem?_map] at hx
      have hj : j < xs.length := by
        by_cases hj : j < xs.length
        · exact hj
        · rw [List.getElem?_eq_none (by omega)] at hx; cases hx
      rw [List.getElem?_eq_getElem hj] at hx
      simp only [Option.map_some, Option.some.injEq] at hx
      subst hx
      have := h3 j hj 0 (by decide) (S xs[j]) rfl
      have e2 : off + (j * eS.k + 0) = off + j := by show off + (j * 1 + 0) = _; omega
      rw [e2] at this
      exact this
    have hbk : b < w.heap.size := by
      have h0 : 0 < xs.length := by cases xs with | nil => exact absurd rfl h0 | cons a r => simp
      have := h3 0 h0 0 (by decide) (S xs[0]) rfl
      exact World.block_lt_of_cell? w _ this
    have hj := Tryd.strings_Join b off cap (xs.map fun x => (⟨x.toArray⟩ : ByteArray)) ⟨sep.toArray⟩ w hc hbk (hl2.symm ▸ hn3) (hl2.symm ▸ h1) (e.symm ▸ hl3)
    rw [hl2, e] at hj
    exact hj
end Go.Proofs.YtjepodlalcnecaaDoor
