/- Walks of ask: leaves. -/
import Derived.Test.YtjepodlalcnecaaDoorW28g
import Derived.Test.YtjepodlalcnecaaDoorShelf
set_option linter.unusedVariables false
namespace Go.Proofs.YtjepodlalcnecaaDoor
open Go.RowKit Go.Fk
theorem oneOf_len (s r : List UInt8) (h : oneOf s = some r) : r.length ≤ 24 := by
  unfold oneOf at h
  split at h
  · rename_i hh; cases h; simp; exact hh.2.1
  · cases h
theorem hasP_any (c : UInt8) (s : List UInt8) (w : World) :
    Calls Tryd.prog 56 #[S s, S [c]] w fun e w' => e = .returned (.bool (match s with | [] => false | x :: _ => decide (x = c))) ∧ w = w' := by
  refine (Tryd.strings_HasPrefix ⟨s.toArray⟩ ⟨#[c]⟩ w).mono ?_
  rintro e w' ⟨rfl, rfl⟩
  refine ⟨?_, rfl⟩
  congr 2
  cases s with
  | nil => rfl
  | cons x r =>
    show [c].isPrefixOf (x :: r) = _
    simp [List.isPrefixOf]
    by_cases h : c = x
    · subst h; simp
    · have h2 : ¬ x = c := fun e => h e.symm
      simp [h, h2]
theorem b_join (a b : List UInt8) : (⟨a.toArray⟩ : ByteArray) ++ ⟨b.toArray⟩ = ⟨(a ++ b).toArray⟩ := by
  apply ByteArray.ext
  rw [ByteArray.data_append]
  simp
/-- what small answers -/
def smallV (s : List UInt8) : Value :=
  match smallO s with
  | some w => .tuple #[S w, .bool true]
  | none => .tuple #[S (match s with | [] => [] | c :: _ => if c = 64 then [64] else []), .bool false]
set_option maxRecDepth 100000 in
set_option maxHeartbeats 1000000 in
theorem small_any (s : List UInt8) (w : World) :
    Calls Tryd.prog 47 #[S s] w fun e w' => e = .returned (smallV s) ∧ Fr w w' := by
  have H := hasP_any 64 s
  go_enter Tryd.func47, Tryd.ntmps47
  match s with
  | [] =>
    go_wp2_with fail
    refine (H _).mono ?_
    rintro e w' ⟨rfl, rfl⟩
    go_wp2_with fail
    refine (wOne_any [] _).mono ?_
    rintro e w' ⟨he, hf⟩
    have : OneV (oneOf []) = .tuple #[S [], .bool false] := rfl
    rw [this] at he
    subst he
    go_wp2_with fail
    go_ret2
    exact ⟨rfl, hf⟩
  | c :: r =>
    have hV : ∀ o, (if c = 64 then (oneOf r).map (fun w => 64 :: w) else oneOf (c :: r)) = o → smallV (c :: r) = match o with
      | some w => .tuple #[S w, .bool true]
      | none => .tuple #[S (if c = 64 then [64] else []), .bool false] := by
      intro o ho; unfold smallV smallO; simp only [ho]
    have H : ∀ W, Calls Tryd.prog 56 #[S (c :: r), S [64]] W fun e w' => e = .returned (.bool (decide (c = 64))) ∧ W = w' := fun W => hasP_any 64 (c :: r) W
    have x1 := tail_eq c r
    have hl : (1 : Int) ≤ (c :: r).length := by simp; omega
    generalize hs : c :: r = s at *
    have HV := hid hV
    have HH := hid H
    clear hV H hs
    by_cases h : c = 64
    · subst h
      go_wp2_with fail
      refine (HH.out _).mono ?_
      rintro e w' ⟨he, rfl⟩
      simp only [decide_true] at he
      subst he
      go_wp2_with fail
      go_quiet (fail)
      go_wp2_with fail
      refine (wOne_any r _).mono ?_
      rintro e w1 ⟨he, hf'⟩
      have hf := ((Fr.refl w).drewN nq).trans hf'
      clear hf'
      cases ho : oneOf r with
      | none =>
        rw [ho] at he
        have HO := hid (HV.out none (by simp [ho]))
        subst he
        unfold OneV
        clear ho
        go_wp2_with fail
        go_ret2
        exact ⟨by rw [HO.out]; rfl, hf⟩
      | some q =>
        rw [ho] at he
        have hq := oneOf_len r q ho
        have HO := hid (HV.out (some (64 :: q)) (by simp [ho]))
        subst he
        unfold OneV
        clear ho
        have m1 : 1 + q.length ≤ 9223372036854775807 := by omega
        have m2 : ¬ 9223372036854775807 < 1 + q.length := by omega
        go_wp2_with fail
        go_ret2
        exact ⟨by rw [HO.out]; rfl, hf⟩
    · go_wp2_with fail
      refine (HH.out _).mono ?_
      rintro e w' ⟨he, rfl⟩
      simp only [h, decide_false] at he
      subst he
      go_wp2_with fail
      refine (wOne_any s _).mono ?_
      rintro e w1 ⟨he, hf⟩
      cases ho : oneOf s with
      | none =>
        rw [ho] at he
        have HO := hid (HV.out none (by rw [if_neg h, ho]))
        subst he
        unfold OneV
        clear ho
        go_wp2_with fail
        go_ret2
        exact ⟨by rw [HO.out, if_neg h]; rfl, hf⟩
      | some q =>
        rw [ho] at he
        have hq := oneOf_len s q ho
        have HO := hid (HV.out (some q) (by rw [if_neg h, ho]))
        subst he
        unfold OneV
        clear ho
        have m1 : q.length ≤ 9223372036854775807 := by omega
        have m2 : ¬ 9223372036854775807 < q.length := by omega
        go_wp2_with fail
        go_ret2
        exact ⟨by rw [HO.out]; show Ending.returned (.tuple #[.string (⟨([] : List UInt8).toArray⟩ ++ ⟨q.toArray⟩), .bool true]) = _; rw [b_join]; rfl, hf⟩
theorem small_some (s w : List UInt8) (h : smallO s = some w) : smallV s = .tuple #[S w, .bool true] := by unfold smallV; rw [h]
theorem small_none (s : List UInt8) (h : smallO s = none) : ∃ x : List UInt8, smallV s = .tuple #[S x, .bool false] := by unfold smallV; rw [h]; exact ⟨_, rfl⟩
set_option maxRecDepth 100000 in
theorem leaf_any (op : Int) (s : List UInt8) (w : World) :
    Calls Tryd.prog 37 #[.int .i64 op, S s] w fun e w' => ∃ v, e = .returned v ∧ Own w' w.heap.size eT v (leafL op s) ∧ Fr w w' ∧ (leafL op s = [] → v = .slice none 0 0) := by
  have C := small_any s w
  cases ho : smallO s with
  | none =>
    obtain ⟨x, hx⟩ := small_none s ho
    rw [hx] at C
    have HL : Hid (leafL op s = []) := by show _ = _; unfold leafL; rw [ho]
    have HC := hid C
    clear ho hx C
    go_enter Tryd.func37, Tryd.ntmps37
    go_wp2_with fail
    refine HC.out.mono ?_
    rintro e w' ⟨rfl, hf⟩
    go_wp2_with fail
    go_ret
    exact ⟨_, rfl, by rw [HL.out]; exact Own.nil, hf, fun _ => rfl⟩
  | some x =>
    rw [small_some s x ho] at C
    have HL : Hid (leafL op s = [⟨op, 0, x, 0, 0⟩]) := by show _ = _; unfold leafL; rw [ho]
    have HC := hid C
    clear ho C
    go_enter Tryd.func37, Tryd.ntmps37
    go_wp2_with fail
    refine HC.out.mono ?_
    rintro e w' ⟨rfl, hf⟩
    have hown := own_lit eT w' #[.int .i64 op, .int .i64 0, S x, .int .u64 0, .int .u64 0] [⟨op, 0, x, 0, 0⟩] 1 rfl (by simp [maxLen]) hf.size rfl
    go_wp2_with fail
    go_ret
    exact ⟨_, rfl, by rw [HL.out]; exact hown, hf.alloc _, fun h => by rw [HL.out] at h; cases h⟩
theorem Word_any (s : List UInt8) (w : World) :
    Calls Tryd.prog 22 #[S s] w fun e w' => ∃ v, e = .returned v ∧ Own w' w.heap.size eT v (leafL 1 s) ∧ Fr w w' ∧ (leafL 1 s = [] → v = .slice none 0 0) := by
  have C := hid (leaf_any 1 s w)
  go_enter Tryd.func22, Tryd.ntmps22
  go_wp2_with fail
  refine C.out.mono ?_
  rintro e w' ⟨v, rfl, hown, hf, hn⟩
  have hn := hid hn
  go_wp2_with fail
  go_ret
  exact ⟨_, rfl, hown, hf, hn.out⟩
theorem Prefix_any (s : List UInt8) (w : World) :
    Calls Tryd.prog 23 #[S s] w fun e w' => ∃ v, e = .returned v ∧ Own w' w.heap.size eT v (leafL 2 s) ∧ Fr w w' ∧ (leafL 2 s = [] → v = .slice none 0 0) := by
  have C := hid (leaf_any 2 s w)
  go_enter Tryd.func23, Tryd.ntmps23
  go_wp2_with fail
  refine C.out.mono ?_
  rintro e w' ⟨v, rfl, hown, hf, hn⟩
  have hn := hid hn
  go_wp2_with fail
  go_ret
  exact ⟨_, rfl, hown, hf, hn.out⟩
theorem Time_any (a b : UInt64) (w : World) :
    Calls Tryd.prog 24 #[.int .u64 a.toNat, .int .u64 b.toNat] w fun e w' => ∃ v, e = .returned v ∧ Own w' w.heap.size eT v [spanS 3 a b] ∧ Fr w w' := by
  have hown := own_lit eT w #[.int .i64 3, .int .i64 0, .string ⟨#[]⟩, .int .u64 a.toNat, .int .u64 b.toNat] [spanS 3 a b] 1 rfl (by simp [maxLen]) (Nat.le_refl _) rfl
  go_enter Tryd.func24, Tryd.ntmps24
  go_wp2_with fail
  go_ret
  exact ⟨_, rfl, hown, (Fr.refl w).alloc _⟩
theorem Level_any (a b : UInt64) (w : World) :
    Calls Tryd.prog 25 #[.int .u64 a.toNat, .int .u64 b.toNat] w fun e w' => ∃ v, e = .returned v ∧ Own w' w.heap.size eT v [spanS 4 a b] ∧ Fr w w' := by
  have hown := own_lit eT w #[.int .i64 4, .int .i64 0, .string ⟨#[]⟩, .int .u64 a.toNat, .int .u64 b.toNat] [spanS 4 a b] 1 rfl (by simp [maxLen]) (Nat.le_refl _) rfl
  go_enter Tryd.func25, Tryd.ntmps25
  go_wp2_with fail
  go_ret
  exact ⟨_, rfl, hown, (Fr.refl w).alloc _⟩
end Go.Proofs.YtjepodlalcnecaaDoor
