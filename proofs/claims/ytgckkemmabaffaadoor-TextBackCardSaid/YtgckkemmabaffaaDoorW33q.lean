/- Walks of text: Parse. -/
import Derived.Test.YtgckkemmabaffaaDoorW33p
import Derived.Test.YtgckkemmabaffaaDoorSpec33f
set_option linter.unusedVariables false
namespace Go.Proofs.YtgckkemmabaffaaDoor
open Go.RowKit Go.Fk
/-- the record of its parts -/
def recP (q : Parts) : Rec := ⟨UInt64.ofNat q.1, UInt8.ofNat q.2.1, q.2.2.1, q.2.2.2⟩
/-- what Parse answers -/
def ParseP (w : World) (x : Except (Nat × Bool) (List Parts)) (e : Ending) (w' : World) : Prop :=
  match x with
  | .ok L => ∃ v, e = .returned (.tuple #[v, .int .i64 0, .int .i64 0]) ∧ Own w' w.heap.size eR v (L.map recP) ∧ Fr w w'
  | .error (n, b) => e = .returned (.tuple #[.slice none 0 0, .int .i64 (n : Nat), .int .i64 (if b then 1 else 2)]) ∧ Fr w w'
theorem recP_cells (t l : Nat) (u v : List UInt8) (ht : t < 18446744073709551616) (hl : l ≤ 255) : (#[.int .u64 (t : Nat), .int .u8 (l : Nat), S u, S v] : Array Value).toList = eR.cells [recP (t, l, u, v)] := by
  have e1 : (UInt64.ofNat t).toNat = t := by rw [UInt64.toNat_ofNat']; omega
  have e2 : (UInt8.ofNat l).toNat = l := by rw [UInt8.toNat_ofNat']; omega
  show _ = (recP (t, l, u, v)).cells ++ []
  unfold recP Rec.cells Fk.u8
  simp only [e1, e2, List.append_nil]
set_option maxRecDepth 100000 in
set_option maxHeartbeats 4000000 in
theorem Parse_any (s : List UInt8) (w : World) (ht : Tabs w) (he : Errs w) (hm : MaxL w) (hlen : s.length ≤ 1000000) :
    Calls Tryd.prog 23 #[S s] w (ParseP w (parses s 0)) := by
  go_enter Tryd.func23, Tryd.ntmps23
  go_wp2_with fail
  go_loopw [0, 5] (fun sv ov wr => ∃ (s1 : List UInt8) (l : List Parts), sv = S s1 ∧ s1.length ≤ s.length ∧ l.length + s1.length ≤ s.length ∧ Own wr w.heap.size eR ov (l.map recP) ∧ Hid (parses s 0 = (parses s1 l.length).map fun x => l ++ x) ∧ Fr w wr) (fun sv _ _ => strLen sv)
  case atStart => exact ⟨s, [], rfl, Nat.le_refl _, by simp, Own.nil, by show _ = _; cases parses s 0 <;> rfl, Fr.refl w⟩
  case round =>
    obtain ⟨s1, l, rfl, hl1, hl2, hown, HP, hf⟩ := hrel
    by_cases hs : s1 = []
    · subst hs
      have HN : Hid (parses s 0 = .ok l) := by show _ = _; rw [HP.out, parses_nil]; show Except.ok (l ++ []) = _; rw [List.append_nil]
      go_wp2_with fail
      go_ret3
      rw [HN.out]
      exact ⟨_, rfl, hown, hf⟩
    · have hie : s1.isEmpty = false := by cases s1 with | nil => exact absurd rfl hs | cons a l => rfl
      have hst := parses_step s1 l.length hs
      have C1 := Cut_any 10 s1
      have b1 := bef_len 10 s1
      have ha := aft_lt s1 hs
      have C2 := Read_any (bef 10 s1)
      have R2 := readL_iff (bef 10 s1)
      generalize bef 10 s1 = line at *
      generalize aft 10 s1 = rest at *
      have hnl : l.length ≤ 1000000 := by omega
      have hw1 : IntKind.i64.wrap ((l.length : Int) + 1) = (l.length : Int) + 1 := IntWalk.i64_in _ (by omega)
      obtain ⟨oa, oc, hov⟩ := hown.shape'
      have hovl : (l.map recP).length = l.length := List.length_map ..
      rw [hovl] at hov
      subst hov
      by_cases h10 : 10 ∈ s1
      · rw [if_pos h10] at hst
        simp only [h10, decide_true] at C1
        have D1 := hid C1
        clear C1 h10
        generalize readL line = q at *
        cases q with
        | none =>
          simp only [partsV_none, partsE_none] at C2
          have HN : Hid (parses s 0 = .error (l.length + 1, false)) := by show _ = _; rw [HP.out, hst]; rfl
          have D2 := hid C2
          clear C2 hst R2
          go_wp2_with fail
          refine (D1.out _ (hm.fr hf) (by omega)).mono ?_
          rintro e w1 ⟨rfl, hf1⟩
          have hf01 := hf.trans hf1
          go_wp2_with fail
          refine (D2.out _ (ht.fr ?_) (he.fr ?_) (hm.fr ?_) (by omega)).mono ?_
          all_goals first | exact hf01.alloc _ | exact hf01 | skip
          rintro e w2 ⟨rfl, hf2⟩
          go_wp2_with fail
          go_ret3
          rw [HN.out]
          exact ⟨rfl, by first | exact (hf01.trans hf2) | exact (hf01.trans hf2).alloc _ | exact (hf01.alloc _).trans hf2 | exact ((hf01.alloc _).trans hf2).alloc _⟩
        | some q =>
          obtain ⟨t, lv, u, v⟩ := q
          obtain ⟨r1, r2, r3⟩ := (R2 t lv u v).1 rfl
          have HT := hid r1
          have HL := readL_len line t lv u v ((readL_iff line t lv u v).2 ⟨r1, r2, r3⟩)
          simp only [partsV_some, partsE_some] at C2
          have HN : Hid (parses s 0 = (parses rest (l ++ [(t, lv, u, v)]).length).map fun x => (l ++ [(t, lv, u, v)]) ++ x) := by
            show _ = _; rw [HP.out, hst, List.length_append]; simp only [List.length_singleton]; cases parses rest (l.length + 1) <;> simp [Except.map]
          have D2 := hid C2
          clear C2 hst R2 r1 r3
          go_wp2_with fail
          refine (D1.out _ (hm.fr hf) (by omega)).mono ?_
          rintro e w1 ⟨rfl, hf1⟩
          have hf01 := hf.trans hf1
          go_wp2_with fail
          refine (D2.out _ (ht.fr ?_) (he.fr ?_) (hm.fr ?_) (by omega)).mono ?_
          all_goals first | exact hf01.alloc _ | exact hf01 | skip
          rintro e w2 ⟨rfl, hf2⟩
          have hown2 := hown.fr (hf1.trans hf2)
          go_upto_region 9 with fail
          have k0 : (w2.alloc (.cells #[.int .u64 (t : Nat), .int .u8 (lv : Nat), S u, S v] 28)).cell? ⟨w2.heap.size, 0, none⟩ = some (.int .u64 (t : Nat)) := by rw [World.cell?_alloc_at _ _ _ _ rfl]; rfl
          have k1 : (w2.alloc (.cells #[.int .u64 (t : Nat), .int .u8 (lv : Nat), S u, S v] 28)).cell? ⟨w2.heap.size, 1, none⟩ = some (.int .u8 (lv : Nat)) := by rw [World.cell?_alloc_at _ _ _ _ rfl]; rfl
          have k2 : (w2.alloc (.cells #[.int .u64 (t : Nat), .int .u8 (lv : Nat), S u, S v] 28)).cell? ⟨w2.heap.size, 2, none⟩ = some (S u) := by rw [World.cell?_alloc_at _ _ _ _ rfl]; rfl
          have k3 : (w2.alloc (.cells #[.int .u64 (t : Nat), .int .u8 (lv : Nat), S u, S v] 28)).cell? ⟨w2.heap.size, 3, none⟩ = some (S v) := by rw [World.cell?_alloc_at _ _ _ _ rfl]; rfl
          have hown3 := hown2.fr ((Fr.refl w2).alloc (.cells #[.int .u64 (t : Nat), .int .u8 (lv : Nat), S u, S v] 28))
          have hf3 := (hf01.trans hf2).alloc (.cells #[.int .u64 (t : Nat), .int .u8 (lv : Nat), S u, S v] 28)
          generalize w2.alloc (.cells #[.int .u64 (t : Nat), .int .u8 (lv : Nat), S u, S v] 28) = w3 at *
          have hsz3 := hf3.size
          go_wp2_with (at_builtin; refine wpList_app1 eR rfl (.tmp 35) (.tmp 37) 22 rfl Tryd.underlying22 w.heap.size rfl hown3 [recP (t, lv, u, v)] _ _ _ (recP_cells t lv u v HT.out r2) rfl rfl ?c1 ?c2 ?_)
          case c1 => rw [hovl]; simp; omega
          case c2 => omega
          intro v' w4 hap
          go_wp2_with fail
          go_roundw
          case rel => exact ⟨rest, l ++ [(t, lv, u, v)], rfl, by omega, by simp; omega, by rw [List.map_append]; exact hap.own, HN, hap.below hown3 hf3 (Nat.le_refl _) hsz3⟩
          case measure => simp [strLen, ByteArray.size]; omega
      · rw [if_neg h10] at hst
        simp only [h10, decide_false] at C1
        have D1 := hid C1
        have HN : Hid (parses s 0 = .error (l.length + 1, true)) := by show _ = _; rw [HP.out, hst]; rfl
        clear C1 h10 hst R2 C2
        go_wp2_with fail
        refine (D1.out _ (hm.fr hf) (by omega)).mono ?_
        rintro e w1 ⟨rfl, hf1⟩
        go_wp2_with fail
        go_ret3
        rw [HN.out]
        exact ⟨rfl, hf.trans hf1⟩
end Go.Proofs.YtgckkemmabaffaaDoor
