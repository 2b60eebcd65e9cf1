/- Walks of words and of its reference. -/
import Derived.Test.YtjepodlalcnecaaDoorElt
import Derived.Test.YtjepodlalcnecaaDoorSpec15
set_option linter.unusedVariables false
namespace Go.Proofs.YtjepodlalcnecaaDoor
open Go.RowKit Go.Fk

theorem c_nat_bound (c : UInt8) : (c.toNat : Int) ≤ 255 ∧ (0 : Int) ≤ c.toNat := by have := c.toNat_lt; omega
theorem wletter_yes (c : UInt8) (w : World) (h : isL c = true) :
    Calls Tryd.prog 57 #[u8 c] w fun e w' => e = .returned (.tuple #[u8 (sm c), .bool true]) ∧ w = w' := by
  have hb := c_nat_bound c
  rw [isL_iff] at h
  have hs := sm_toNat c
  have H : Hid (((sm c).toNat : Int) = if 65 ≤ c.toNat ∧ c.toNat ≤ 90 then (c.toNat : Int) + 32 else c.toNat) := by
    show _ = _; rw [hs]; split <;> rfl
  clear hs
  obtain ⟨hb1, hb0⟩ := hb
  go_enter Tryd.func57, Tryd.ntmps57
  go_wp2_with fail
  all_goals (first | omega | skip)
  all_goals go_ret2
  all_goals refine ⟨?_, rfl⟩
  all_goals unfold u8; rw [H.out]
  all_goals split
  all_goals first | rfl | omega
theorem wletter_no (c : UInt8) (w : World) (h : isL c = false) :
    Calls Tryd.prog 57 #[u8 c] w fun e w' => e = .returned (.tuple #[.int .u8 0, .bool false]) ∧ w = w' := by
  have hb := c_nat_bound c
  rw [isL_not] at h
  obtain ⟨hb1, hb0⟩ := hb
  go_enter Tryd.func57, Tryd.ntmps57
  go_wp2_with fail
  all_goals (first | omega | skip)
  all_goals go_ret2
  all_goals exact ⟨rfl, rfl⟩
theorem rsmall_any (c : UInt8) (w : World) :
    Calls Tryd.prog 36 #[u8 c] w fun e w' => e = .returned (u8 (sml c)) ∧ w = w' := by
  have hb := c_nat_bound c
  obtain ⟨hb1, hb0⟩ := hb
  have H : Hid (((sml c).toNat : Int) = if 65 ≤ c.toNat ∧ c.toNat ≤ 90 then (c.toNat : Int) + 32 else if (97 ≤ c.toNat ∧ c.toNat ≤ 122) ∨ (48 ≤ c.toNat ∧ c.toNat ≤ 57) then (c.toNat : Int) else 0) := by
    show _ = _
    unfold sml
    split
    · next h => rw [isL_iff] at h; rw [sm_toNat]; split <;> first | omega | (split <;> omega)
    · next h => rw [isL_iff] at h; have z : (0 : UInt8).toNat = 0 := rfl; rw [z]; split <;> first | omega | (split <;> omega)
  go_enter Tryd.func36, Tryd.ntmps36
  go_wp2_with fail
  all_goals go_ret
  all_goals refine ⟨?_, rfl⟩
  all_goals unfold u8; rw [H.out]
  all_goals split
  all_goals first | omega | rfl | (split <;> first | omega | rfl)

theorem take_map_snoc {α β : Type} (f : α → β) (l : List α) (k : Nat) (h : k < l.length) : (l.map f).take (k + 1) = (l.map f).take k ++ [f l[k]] := by
  rw [List.take_succ_eq_append_getElem (by simpa using h)]; simp
/-- what One answers -/
def OneV : Option (List UInt8) → Value
  | some r => .tuple #[S r, .bool true]
  | none => .tuple #[S [], .bool false]
theorem all_take_snoc {α : Type} (p : α → Bool) (l : List α) (k : Nat) (h : k < l.length) (h1 : (l.take k).all p = true) (h2 : p l[k] = true) : (l.take (k + 1)).all p = true := by
  rw [List.take_succ_eq_append_getElem h, List.all_append, h1]; simp [h2]
theorem oneOf_yes {l : List UInt8} (h1 : l ≠ []) (h2 : l.length ≤ 24) (h3 : l.all isL = true) : oneOf l = some (l.map sm) := by
  unfold oneOf; rw [if_pos ⟨h1, h2, h3⟩]
theorem oneOf_bad {l : List UInt8} {k : Nat} (h : k < l.length) (h3 : isL l[k] = false) : oneOf l = none := by
  unfold oneOf; rw [if_neg]; rintro ⟨_, _, h4⟩
  have := List.all_eq_true.1 h4 l[k] (List.getElem_mem _)
  simp [h3] at this
theorem all_end {α : Type} {p : α → Bool} {l : List α} {k : Nat} (h : ¬ k < l.length) (h1 : (l.take k).all p = true) : l.all p = true := by
  rwa [List.take_of_length_le (by omega)] at h1
theorem OneV_eq {l : List UInt8} {o : Option (List UInt8)} (h : oneOf l = o) : OneV (oneOf l) = OneV o := by rw [h]

theorem wOne_any (l : List UInt8) (w : World) :
    Calls Tryd.prog 48 #[S l] w fun e w' => e = .returned (OneV (oneOf l)) ∧ Fr w w' := by
  by_cases h1 : l = []
  · subst h1
    go_enter Tryd.func48, Tryd.ntmps48
    go_wp2_with fail
    go_ret2
    exact ⟨rfl, Fr.refl _⟩
  by_cases h2 : 24 < l.length
  · have H : Hid (oneOf l = none) := by show _ = _; unfold oneOf; rw [if_neg]; rintro ⟨_, h, _⟩; omega
    have hne : l.isEmpty = false := by cases l <;> simp_all
    go_enter Tryd.func48, Tryd.ntmps48
    go_wp2_with fail
    go_ret2
    exact ⟨by rw [OneV_eq H.out]; rfl, Fr.refl _⟩
  have hne : l.isEmpty = false := by cases l <;> simp_all
  have h2' : l.length ≤ 24 := by omega
  go_enter Tryd.func48, Tryd.ntmps48
  go_wp2_with fail
  go_loopw [4, 17] (fun v i wr => ∃ k : Nat, k ≤ l.length ∧ i = N k ∧ Own wr w.heap.size eB v ((l.map sm).take k) ∧ Below w.heap.size w wr ∧ Hid ((l.take k).all isL = true)) (fun _ i _ => l.length - (intOf i).toNat)
  case atStart => exact ⟨0, Nat.zero_le _, rfl, Own.nil, Below.refl _ _, hid rfl⟩
  case round =>
    obtain ⟨k, hk, rfl, hown, hb, hall⟩ := hrel
    by_cases hlt : k < l.length
    · cases hL : isL l[k] with
      | true =>
        go_wp2_with fail
        refine (wletter_yes _ _ hL).mono ?_
        rintro e w' ⟨rfl, rfl⟩
        go_wp2_with (at_builtin; refine wpList_app1 eB rfl (.tmp 29) (.tmp 31) 60 rfl Tryd.underlying60 w.heap.size rfl hown [sm l[k]] _ _ _ rfl rfl rfl ?c1 ?c2 ?_)
        case c1 => simp; omega
        case c2 => exact hb.size
        intro v' w1 ha
        go_wp2_with fail
        go_roundw
        case rel => exact ⟨k + 1, by omega, by go_num, by rw [take_map_snoc _ _ _ hlt]; exact ha.own, ha.below hown hb (Nat.le_refl _) hb.size, hid (all_take_snoc _ _ _ hlt hall.out hL)⟩
        case measure => simp [intOf]; omega
      | false =>
        have H : Hid (oneOf l = none) := hid (oneOf_bad hlt hL)
        go_wp2_with fail
        refine (wletter_no _ _ hL).mono ?_
        rintro e w' ⟨rfl, rfl⟩
        go_wp2_with fail
        go_ret2
        exact ⟨by rw [OneV_eq H.out]; rfl, hb⟩
    · have H : Hid (oneOf l = some (l.map sm)) := hid (oneOf_yes h1 h2' (all_end hlt hall.out))
      rw [List.take_of_length_le (by simp; omega)] at hown
      have hcv := run_conv_see eB wr 60 9 Tryd.underlying60 Tryd.underlying5 Tryd.underlying9 rfl rfl hown.see
      go_wp2_with fail
      go_ret2
      exact ⟨by rw [OneV_eq H.out]; rfl, hb⟩
theorem rOne_any (l : List UInt8) (w : World) :
    Calls Tryd.prog 21 #[S l] w fun e w' => e = .returned (OneV (oneOf l)) ∧ Fr w w' := by
  by_cases h1 : l = []
  · subst h1
    go_enter Tryd.func21, Tryd.ntmps21
    go_wp2_with fail
    go_ret2
    exact ⟨rfl, Fr.refl _⟩
  have hp : ¬ l.length < 1 := by cases l <;> simp_all
  by_cases h2 : 24 < l.length
  · have H : Hid (oneOf l = none) := by show _ = _; unfold oneOf; rw [if_neg]; rintro ⟨_, h, _⟩; omega
    go_enter Tryd.func21, Tryd.ntmps21
    go_wp2_with fail
    go_ret2
    exact ⟨by rw [OneV_eq H.out]; rfl, Fr.refl _⟩
  have h2' : l.length ≤ 24 := by omega
  go_enter Tryd.func21, Tryd.ntmps21
  go_wp2_with fail
  go_loopw [4, 5] (fun v i wr => ∃ k : Nat, k ≤ l.length ∧ i = N k ∧ Own wr w.heap.size eB v ((l.map sm).take k) ∧ Below w.heap.size w wr ∧ Hid ((l.take k).all isL = true)) (fun _ i _ => l.length - (intOf i).toNat)
  case atStart => exact ⟨0, Nat.zero_le _, rfl, Own.nil, Below.refl _ _, hid rfl⟩
  case round =>
    obtain ⟨k, hk, rfl, hown, hb, hall⟩ := hrel
    by_cases hlt : k < l.length
    · cases hL : isL l[k] with
      | true =>
        have hs : Hid (sml l[k] = sm l[k]) := by show _ = _; unfold sml; rw [hL]; rfl
        have hz : (((sml l[k]).toNat : Int) == 0) = false := by
          have := sml_eq_zero l[k]
          rw [beq_eq_false_iff_ne]; intro e
          have e2 : sml l[k] = 0 := UInt8.toNat_inj.1 (by have z : (0 : UInt8).toNat = 0 := rfl; rw [z]; omega)
          rw [this.1 e2] at hL; cases hL
        go_wp2_with fail
        refine (rsmall_any l[k] _).mono ?_
        rintro e w' ⟨rfl, rfl⟩
        go_wp2_with fail
        refine (rsmall_any l[k] _).mono ?_
        rintro e w' ⟨rfl, rfl⟩
        go_wp2_with (at_builtin; refine wpList_app1 eB rfl (.tmp 25) (.tmp 30) 60 rfl Tryd.underlying60 w.heap.size rfl hown [sml l[k]] _ _ _ rfl rfl rfl ?c1 ?c2 ?_)
        case c1 => simp; omega
        case c2 => exact hb.size
        intro v' w1 ha
        go_wp2_with fail
        go_roundw
        case rel => exact ⟨k + 1, by omega, by go_num, by rw [take_map_snoc _ _ _ hlt, ← hs.out]; exact ha.own, ha.below hown hb (Nat.le_refl _) hb.size, hid (all_take_snoc _ _ _ hlt hall.out hL)⟩
        case measure => simp [intOf]; omega
      | false =>
        have hz : sml l[k] = 0 := (sml_eq_zero _).2 hL
        have H : Hid (oneOf l = none) := hid (oneOf_bad hlt hL)
        go_wp2_with fail
        refine (rsmall_any l[k] _).mono ?_
        rintro e w' ⟨rfl, rfl⟩
        go_wp2_with fail
        go_ret2
        exact ⟨by rw [OneV_eq H.out]; rfl, hb⟩
    · have H : Hid (oneOf l = some (l.map sm)) := hid (oneOf_yes h1 h2' (all_end hlt hall.out))
      rw [List.take_of_length_le (by simp; omega)] at hown
      have hcv := run_conv_see eB wr 60 9 Tryd.underlying60 Tryd.underlying5 Tryd.underlying9 rfl rfl hown.see
      go_wp2_with fail
      go_ret2
      exact ⟨by rw [OneV_eq H.out]; rfl, hb⟩
end Go.Proofs.YtjepodlalcnecaaDoor
