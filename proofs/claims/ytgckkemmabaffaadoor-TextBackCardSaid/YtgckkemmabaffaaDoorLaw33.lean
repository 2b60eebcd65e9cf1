/- Walks of the text laws: lines. -/
import Derived.Test.YtgckkemmabaffaaDoorW33f
set_option linter.unusedVariables false
namespace Go.Proofs.YtgckkemmabaffaaDoor
open Go.RowKit Go.Fk Go.Sort
def aliveRec : Rec := ⟨5, 1, [100, 98], [97, 34, 98, 10]⟩
theorem alive_line : lineOf aliveRec = [53, 32, 49, 32, 34, 100, 98, 34, 32, 34, 97, 92, 50, 50, 98, 92, 48, 97, 34] := by
  have h5 : Lib.decDigits (aliveRec.time.toNat) = [53] := by show Lib.decDigits 5 = _; rw [Lib.decDigits_one (by omega)]; rfl
  have h1 : Lib.decDigits (aliveRec.level.toNat) = [49] := by show Lib.decDigits 1 = _; rw [Lib.decDigits_one (by omega)]; rfl
  unfold lineOf
  rw [h5, h1]
  decide +kernel
theorem alive_any (w : World) (ht : Tabs w) :
    Calls Tryd.prog 9 #[] w fun e w' => e = .returned (.bool true) ∧ Fr w w' := by
  go_enter Tryd.func9, Tryd.ntmps9
  go_wp2_with fail
  refine (Line_any aliveRec _ ht (by decide) (by decide)).mono ?_
  rintro e w1 ⟨he, hf⟩
  rw [alive_line] at he
  subst he
  go_wp2_with fail
  go_ret
  exact ⟨rfl, hf⟩
/-- a record that is read, as it stands -/
def RecAt (w : World) (b off : Nat) (r : Rec) : Prop := w.cell? ⟨b, off, none⟩ = some (.int .u64 r.time.toNat) ∧ w.cell? ⟨b, off + 1, none⟩ = some (u8 r.level) ∧ w.cell? ⟨b, off + 2, none⟩ = some (S r.source) ∧ w.cell? ⟨b, off + 3, none⟩ = some (S r.text)
set_option maxRecDepth 100000 in
set_option maxHeartbeats 1000000 in
theorem TextLines_any (v : Value) (l : List Rec) (w : World) (ht : Tabs w) (hs : See w eR v l) :
    Calls Tryd.prog 3 #[v] w fun e w' => e = .returned (.bool true) ∧ Fr w w' := by
  obtain ⟨a, cap, hv, hcap1, hcap2, hnone⟩ := hs.shape
  subst hv
  go_enter Tryd.func3, Tryd.ntmps3
  go_wp2_with fail
  refine (alive_any _ ht).mono ?_
  rintro e w1 ⟨rfl, hf1⟩
  go_wp2_with fail
  refine (Great_any _ l _ (hs.fr hf1) 30 2000 (by omega)).mono ?_
  rintro e w2 ⟨he, hf2⟩
  have hf02 := hf1.trans hf2
  cases hg : (decide (30 < l.length) || decide (((2000 : Nat) : Int) < wtGo 0 l)) with
  | true =>
    rw [hg] at he
    subst he
    go_wp2_with fail
    go_ret
    exact ⟨rfl, hf02⟩
  | false =>
    rw [hg] at he
    subst he
    obtain ⟨hl, hb⟩ := great_no (by omega) hg
    clear hg
    go_wp2_with fail
    go_loopw [3] (fun iv wr => ∃ k : Nat, k ≤ l.length ∧ iv = N k ∧ Fr w wr) (fun iv _ => l.length - (intOf iv).toNat)
    case atStart => exact ⟨0, Nat.zero_le _, rfl, hf02⟩
    case round =>
      obtain ⟨k, hk, rfl, hf⟩ := hrel
      by_cases hlt : k < l.length
      · obtain ⟨b, off, cap', hv, c0, c1, c2, c3⟩ := recAt (hs.fr hf) k hlt
        have hbk := hb l[k] (List.getElem_mem hlt)
        obtain ⟨r, hr⟩ : ∃ r, l[k] = r := ⟨_, rfl⟩
        rw [hr] at c0 c1 c2 c3 hbk
        clear hr
        cases hv
        have HT := hid (ht.fr hf)
        go_upto_region 8 with fail
        go_region_held3 (fun w' => w'.cell? ⟨b, off + k * 4, none⟩ = some (.int .u64 r.time.toNat) ∧ w'.cell? ⟨b, off + k * 4 + 1, none⟩ = some (Fk.u8 r.level) ∧ w'.cell? ⟨b, off + k * 4 + 2, none⟩ = some (S r.source) ∧ w'.cell? ⟨b, off + k * 4 + 3, none⟩ = some (S r.text))
          (first | go_keep)
          ((first
            | (go_at_call 11; refine (Line_any r _ (HT.out.fr (Fr.drew (Fr.refl _))) (by omega) (by omega)).mono ?_; rintro e w1 ⟨rfl, hf1⟩; have b0 := hf1.cell c0; have b1 := hf1.cell c1; have b2 := hf1.cell c2; have b3 := hf1.cell c3)
            | (go_at_call 12; refine (RLine_any r _ (by omega) (by omega)).mono ?_; rintro e w2 ⟨rfl, hf2⟩; have d0 := hf2.cell b0; have d1 := hf2.cell b1; have d2 := hf2.cell b2; have d3 := hf2.cell b3)))
        go_goals
        go_wp2_with fail
        exact ⟨⟨k + 1, by omega, by go_num, ((hf.trans (Fr.drew (Fr.refl _))).trans hf1).trans hf2⟩, by simp [intOf]; omega⟩
      · go_wp2_with fail
        refine (Lines_any _ l _ (ht.fr hf) (hs.fr hf) (by omega) (fun r hr => by have := hb r hr; omega)).mono ?_
        rintro e w3 ⟨rfl, hf3⟩
        go_wp2_with fail
        refine (RLines_any _ l _ (hs.fr (hf.trans hf3)) (by omega) (fun r hr => by have := hb r hr; omega)).mono ?_
        rintro e w4 ⟨rfl, hf4⟩
        go_wp2_with fail
        go_ret
        exact ⟨by simp, (hf.trans hf3).trans hf4⟩
end Go.Proofs.YtgckkemmabaffaaDoor
