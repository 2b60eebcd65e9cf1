/- Walks of mask: rows of letters, texts. -/
import Derived.Test.YtgckkemmabaffaaW37
import Derived.Test.YtgckkemmabaffaaWB
set_option linter.unusedVariables false
namespace Go.Proofs.Ytgckkemmabaffaa
open Go.RowKit Go.Fk

/-- is a row's word one of these? -/
def gone (ws : List (List UInt8)) (s : List UInt8) : Bool := decide (s ∈ ws)
theorem oneOf_row {row : List UInt8} (h0 : row ≠ []) (hl : row.all isL = true) : oneOf (row.take 24) = some ((row.map sm).take 24) := by
  unfold oneOf
  rw [if_pos, List.map_take]
  refine ⟨by cases row <;> simp_all, by simp; omega, ?_⟩
  rw [List.all_eq_true] at hl ⊢
  exact fun x hx => hl x (List.mem_of_mem_take hx)
theorem has_any (mb : Nat) (ws : List (List UInt8)) (row : List UInt8) (w : World) (hset : SetAt Try.prog 9 w mb ws) (h0 : row ≠ []) (hl : row.all isL = true) (hlen : row.length ≤ 2147483648) :
    Calls Try.prog 24 #[.map (some mb), S row] w fun e w' => e = .returned (.bool (gone ws ((row.map sm).take 24))) ∧ Fr w w' := by
  have HO : Hid (oneOf (row.take 24) = some ((row.map sm).take 24)) := oneOf_row h0 hl
  have hz : ∀ w, (zeroValue 51).run Try.prog w = .ok (.agg #[]) w := fun w => by kernel_rfl
  clear hl h0
  go_enter Try.func24, Try.ntmps24
  go_wp2_with fail
  rw [show (⟨row.toArray⟩ : ByteArray).extract 0 (min (row.length : Int) 24).toNat = ⟨(row.take 24).toArray⟩ from extract_min row 24]
  refine (wOne_any (row.take 24) _).mono ?_
  rintro e w1 ⟨he, hf1⟩
  rw [HO.out] at he
  subst he
  unfold OneV
  have hset1 := hset.fr hf1
  have hlk := hset1.look Try.underlying9 Try.underlying40 (hz _) ((row.map sm).take 24) (by simp; unfold maxLen; omega)
  go_wp2_with fail
  go_ret
  exact ⟨rfl, hf1.alloc _⟩

theorem repeat_star (c : Nat) : Lib.repeatL [42] c = List.replicate c (42 : UInt8) := by
  induction c with
  | zero => rfl
  | succ c ih => simp only [Lib.repeatL, List.replicate_succ] at *; rw [ih]; rfl
/-- what text's closure has captured: the words, the builder, the number -/
def TI (W mb : Nat) (ws : List (List UInt8)) (n : Nat) (o : List UInt8) (w : World) : Prop :=
  w.heap[W]? = some (.cells #[.map (some mb)] 40 (0, 0)) ∧
  (∃ p v, w.heap[W + 1]? = some (.cells #[p, v] 54 (0, 0)) ∧ (p = .pointer none ∨ p = .pointer (some ⟨W + 1, 0, none⟩)) ∧ Own w (W + 3) eB v o) ∧
  w.heap[W + 2]? = some (.cells #[N n] 3 (0, 0)) ∧ SetAt Try.prog 9 w mb ws ∧ mb < W
theorem TI.fr {W mb : Nat} {ws : List (List UInt8)} {n : Nat} {o : List UInt8} {w w' : World} (h : TI W mb ws n o w) (hf : Fr w w') : TI W mb ws n o w' := by
  obtain ⟨h1, ⟨p, v, h2, h3, h4⟩, h5, h6, h7⟩ := h
  exact ⟨hf.heap h1, ⟨p, v, hf.heap h2, h3, h4.fr hf⟩, hf.heap h5, h6.fr hf, h7⟩
/-- the row is written -/
theorem TI.write {W mb : Nat} {ws : List (List UInt8)} {n : Nat} {o s : List UInt8} {w : World} (h : TI W mb ws n o w) (hlen : o.length + s.length ≤ 2147483648) :
    Calls Try.prog 26 #[.pointer (some ⟨W + 1, 0, none⟩), S s] w fun e w' => e = .returned (.tuple #[N s.length, .nilIface]) ∧ TI W mb ws n (o ++ s) w' ∧ Below W w w' := by
  obtain ⟨h1, ⟨p, v, h2, h3, h4⟩, h5, h6, h7⟩ := h
  have hsz : W + 2 < w.heap.size := (Array.getElem?_eq_some_iff.1 h5).1
  have hlt := h4.lt
  refine (wstr_any (W + 1) (W + 3) p v o s w h2 h3 h4 hlen (by omega)).mono ?_
  rintro e w' ⟨he, v', h8, h9, hc, hfr⟩
  have hn : ∀ k, k ≠ W + 1 → k < W + 3 → ¬ (k = W + 1 ∨ v.ownBlock = some k) := by
    rintro k hk hk2 (e | e)
    · exact hk e
    · have := (hlt k e).1; omega
  refine ⟨he, ⟨hc.heap h1 (hn _ (by omega) (by omega)), ⟨_, v', h8, .inr rfl, h9⟩, hc.heap h5 (hn _ (by omega) (by omega)), h6.same (hc.block _ (by omega) (hn _ (by omega) (by omega))), h7⟩, ?_⟩
  refine Chg.below (Below.refl _ _) hc (by omega) ?_
  rintro i (e | e)
  · omega
  · have := (hlt i e).1; omega
/-- the number is raised -/
theorem TI.count {W mb : Nat} {ws : List (List UInt8)} {n m : Nat} {o : List UInt8} {w : World} (h : TI W mb ws n o w) : TI W mb ws m o (w.setCell ⟨W + 2, 0, none⟩ (N m)) := by
  obtain ⟨h1, ⟨p, v, h2, h3, h4⟩, h5, h6, h7⟩ := h
  have hc := setCell_chg w ⟨W + 2, 0, none⟩ (N m)
  have hlt := h4.lt
  exact ⟨hc.heap h1 (by simp), ⟨p, v, hc.heap h2 (by simp), h3, h4.chg hc (by intro k hk e; have := (hlt k hk).1; simp at e; omega)⟩, by rw [heap_setCell_own h5]; rfl, h6.same (hc.block _ h6.lt (by simp; omega)), h7⟩

theorem tx1_plain (W mb : Nat) (ws : List (List UInt8)) (n : Nat) (o row : List UInt8) (isl : Bool) (w : World) (h : TI W mb ws n o w) (hlen : o.length + row.length ≤ 2147483648)
    (hno : isl = true → row ≠ [] ∧ row.all isL = true ∧ gone ws ((row.map sm).take 24) = false) :
    Calls Try.prog 23 #[S row, .bool isl, .pointer (some ⟨W, 0, none⟩), .pointer (some ⟨W + 2, 0, none⟩), .pointer (some ⟨W + 1, 0, none⟩)] w fun e w' => e = .returned (.tuple #[]) ∧ TI W mb ws n (o ++ row) w' ∧ Below W w w' := by
  have c0 : w.cell? ⟨W, 0, none⟩ = some (.map (some mb)) := by rw [cell_of_heap h.1]; rfl
  have HT := hid h
  clear h
  cases isl with
  | false =>
    go_enter Try.func23, Try.ntmps23
    go_wp2_with fail
    refine (TI.write HT.out hlen).mono ?_
    rintro e w1 ⟨rfl, hT1, hb⟩
    have HT1 := hid hT1
    clear hT1
    go_wp2_with fail
    go_end0
    exact ⟨rfl, HT1.out, hb⟩
  | true =>
    obtain ⟨h0, hl, hg⟩ := hno rfl
    have HG : Hid (gone ws ((row.map sm).take 24) = false) := hg
    clear hg hno
    go_enter Try.func23, Try.ntmps23
    go_wp2_with fail
    refine (has_any mb ws row _ HT.out.2.2.2.1 h0 hl (by omega)).mono ?_
    rintro e w1 ⟨he, hf1⟩
    rw [HG.out] at he
    subst he
    have HT1 := hid (HT.out.fr hf1)
    go_wp2_with fail
    refine (TI.write HT1.out hlen).mono ?_
    rintro e w2 ⟨rfl, hT2, hb⟩
    have HT2 := hid hT2
    clear hT2
    go_wp2_with fail
    go_end0
    exact ⟨rfl, HT2.out, (Below.mono hf1 (by have := HT.out.2.2.1; have := (Array.getElem?_eq_some_iff.1 this).1; omega)).trans hb⟩
theorem tx1_gone (W mb : Nat) (ws : List (List UInt8)) (n : Nat) (o row : List UInt8) (w : World) (h : TI W mb ws n o w) (hlen : o.length + row.length ≤ 2147483648) (hn : n ≤ 2147483648)
    (h0 : row ≠ []) (hl : row.all isL = true) (hg : gone ws ((row.map sm).take 24) = true) :
    Calls Try.prog 23 #[S row, .bool true, .pointer (some ⟨W, 0, none⟩), .pointer (some ⟨W + 2, 0, none⟩), .pointer (some ⟨W + 1, 0, none⟩)] w fun e w' => e = .returned (.tuple #[]) ∧ TI W mb ws (n + 1) (o ++ List.replicate row.length 42) w' ∧ Below W w w' := by
  have c0 : w.cell? ⟨W, 0, none⟩ = some (.map (some mb)) := by rw [cell_of_heap h.1]; rfl
  have HT := hid h
  clear h
  have HG : Hid (gone ws ((row.map sm).take 24) = true) := hg
  clear hg
  have hsz : W + 2 < w.heap.size := (Array.getElem?_eq_some_iff.1 HT.out.2.2.1).1
  go_enter Try.func23, Try.ntmps23
  go_wp2_with fail
  refine (has_any mb ws row _ HT.out.2.2.2.1 h0 hl (by omega)).mono ?_
  rintro e w1 ⟨he, hf1⟩
  rw [HG.out] at he
  subst he
  have HT1 := hid (HT.out.fr hf1)
  have c2 : w1.cell? ⟨W + 2, 0, none⟩ = some (N n) := by rw [cell_of_heap HT1.out.2.2.1]; rfl
  have f2 : w1.frozen? ⟨W + 2, 0, none⟩ = false := frozen_of_heap HT1.out.2.2.1 0
  go_wp2_with fail
  refine (Try.strings_Repeat ⟨#[42]⟩ row.length _ (by omega) (by simp [ByteArray.size]; omega)).mono ?_
  rintro e w2 ⟨rfl, hb2⟩
  have HT2 : Hid (TI W mb ws (n + 1) o w2) := hid (TI.fr (TI.count HT1.out) hb2)
  simp only [repeat_star]
  go_wp2_with fail
  refine (TI.write HT2.out (s := List.replicate row.length 42) (by simpa using hlen)).mono ?_
  rintro e w3 ⟨rfl, hT3, hb⟩
  have HT3 := hid hT3
  clear hT3
  go_wp2_with fail
  go_end0
  refine ⟨rfl, HT3.out, ?_⟩
  have hw1 := hf1.size
  exact (((Below.mono hf1 (by omega)).setCell (p := ⟨W + 2, 0, none⟩) (by simp) _).trans (Below.mono hb2 (by simp [World.setCell]; omega))).trans hb
end Go.Proofs.Ytgckkemmabaffaa
