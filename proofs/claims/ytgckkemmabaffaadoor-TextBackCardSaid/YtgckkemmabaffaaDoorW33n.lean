/- Walks of text: the reference's blank. -/
import Derived.Test.YtgckkemmabaffaaDoorElt
import Derived.Test.YtgckkemmabaffaaDoorSpec33e
set_option linter.unusedVariables false
namespace Go.Proofs.YtgckkemmabaffaaDoor
open Go.RowKit Go.Fk
theorem blk_end (s : List UInt8) (i : Nat) (q : Bool) (h : s.length ≤ i) : blk q (s.drop i) = 0 := by
  rw [List.drop_eq_nil_of_le h, blk]
theorem blk_at (s : List UInt8) (i : Nat) (q : Bool) (h : i < s.length) : blk q (s.drop i) = if q = false ∧ s[i] = 32 then 0 else blk (if s[i] = 34 then !q else q) (s.drop (i + 1)) + 1 := by
  rw [List.drop_eq_getElem_cons h, blk]
theorem ne_b (c : UInt8) (n : Nat) (hn : n < 256) (h : ¬ c = UInt8.ofNat n) : ((c.toNat : Int) == n) = false := by
  simp; intro e; apply h; apply UInt8.toNat_inj.1; rw [UInt8.toNat_ofNat']; omega
set_option maxRecDepth 100000 in
theorem blank_any (s : List UInt8) (a : Nat) (w : World) (ha : a ≤ s.length) (hlen : s.length ≤ 1000000000) :
    Calls Tryd.prog 40 #[S s, .int .i64 a] w fun e w' => e = .returned (.int .i64 (blankAt s a)) ∧ w = w' := by
  go_enter Tryd.func40, Tryd.ntmps40
  go_wp2_with fail
  go_loop [1, 5] (fun iv qv => ∃ (i : Nat) (q : Bool), i ≤ s.length ∧ iv = N i ∧ qv = .bool q ∧ blankAt s a = i + blk q (s.drop i)) (fun iv _ => s.length - (intOf iv).toNat)
  case atStart => exact ⟨a, false, ha, rfl, rfl, rfl⟩
  case round =>
    obtain ⟨i, q, hi, rfl, rfl, hb⟩ := hrel
    have HB := hid hb
    clear hb
    by_cases hlt : i < s.length
    · obtain ⟨c, hc⟩ : ∃ c, s[i] = c := ⟨_, rfl⟩
      have hcb : (⟨s.toArray⟩ : ByteArray)[i]'(by simp [ByteArray.size]; omega) = c := hc
      have hst := blk_at s i q hlt
      rw [hc] at hst
      have HS := hid hst
      clear hst hc
      have hw1 : IntKind.i64.wrap ((i : Int) + 1) = (i : Int) + 1 := IntWalk.i64_in _ (by omega)
      cases q with
      | true =>
        by_cases h34 : c = 34
        · have b34 : ((c.toNat : Int) == 34) = true := by rw [h34]; rfl
          have hO : Hid (blankAt s a = (i + 1) + blk false (s.drop (i + 1))) := by show _ = _; rw [HB.out, HS.out, if_neg (by simp), if_pos h34]; simp; omega
          clear h34
          go_wp2_with fail
          go_round
          case rel => exact ⟨i + 1, false, by omega, by go_num, rfl, hO.out⟩
          case measure => simp [intOf]; omega
        · have b34 := ne_b c 34 (by omega) h34
          have hO : Hid (blankAt s a = (i + 1) + blk true (s.drop (i + 1))) := by show _ = _; rw [HB.out, HS.out, if_neg (by simp), if_neg h34]; omega
          clear h34
          go_wp2_with fail
          go_round
          case rel => exact ⟨i + 1, true, by omega, by go_num, rfl, hO.out⟩
          case measure => simp [intOf]; omega
      | false =>
        by_cases h32 : c = 32
        · have b32 : ((c.toNat : Int) == 32) = true := by rw [h32]; rfl
          have hO : Hid (blankAt s a = i) := by show _ = _; rw [HB.out, HS.out, if_pos ⟨rfl, h32⟩]; omega
          clear h32
          go_wp2_with fail
          go_ret
          exact ⟨by rw [hO.out]; rfl, rfl⟩
        · have b32 := ne_b c 32 (by omega) h32
          by_cases h34 : c = 34
          · have b34 : ((c.toNat : Int) == 34) = true := by rw [h34]; rfl
            have hO : Hid (blankAt s a = (i + 1) + blk true (s.drop (i + 1))) := by show _ = _; rw [HB.out, HS.out, if_neg (fun h => h32 h.2), if_pos h34]; simp; omega
            clear h34 h32
            go_wp2_with fail
            go_round
            case rel => exact ⟨i + 1, true, by omega, by go_num, rfl, hO.out⟩
            case measure => simp [intOf]; omega
          · have b34 := ne_b c 34 (by omega) h34
            have hO : Hid (blankAt s a = (i + 1) + blk false (s.drop (i + 1))) := by show _ = _; rw [HB.out, HS.out, if_neg (fun h => h32 h.2), if_neg h34]; omega
            clear h34 h32
            go_wp2_with fail
            go_round
            case rel => exact ⟨i + 1, false, by omega, by go_num, rfl, hO.out⟩
            case measure => simp [intOf]; omega
    · have hO : Hid (blankAt s a = i) := by show _ = _; rw [HB.out, blk_end s i q (by omega)]; omega
      go_wp2_with fail
      go_ret
      exact ⟨by rw [hO.out]; rfl, rfl⟩
end Go.Proofs.YtgckkemmabaffaaDoor
