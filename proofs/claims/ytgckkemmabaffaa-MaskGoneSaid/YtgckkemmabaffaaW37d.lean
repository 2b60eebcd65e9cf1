/- Walks of mask's calls, and of its reference. -/
import Derived.Test.YtgckkemmabaffaaW37c
set_option linter.unusedVariables false
namespace Go.Proofs.Ytgckkemmabaffaa
open Go.RowKit Go.Fk

/-- what Text answers -/
def TextV (s : List UInt8) (o : Option (List (List UInt8))) : Value := match o with
  | some sw => .tuple #[S (maskGo (gone sw) [] s), N 0]
  | none => .tuple #[S [], N 13]
/-- what Count answers -/
def CountV (s : List UInt8) (o : Option (List (List UInt8))) : Value := match o with
  | some sw => .tuple #[N (maskNum (gone sw) [] s), N 0]
  | none => .tuple #[N 0, N 13]
theorem Text_any (v : Value) (ws : List (List UInt8)) (s : List UInt8) (w : World) (hs : See w eS v ws) (hlen : ws.length ≤ 2147483648) (hn : s.length ≤ 1073741824) :
    Calls Try.prog 8 #[S s, v] w fun e w' => e = .returned (TextV s (smalls ws)) ∧ Fr w w' := by
  cases ho : smalls ws with
  | none =>
    have HO := hid ho
    clear ho
    go_enter Try.func8, Try.ntmps8
    go_wp2_with fail
    refine (begin_any v ws _ hs hlen).mono ?_
    rintro e w1 he
    rw [HO.out] at he
    obtain ⟨hf, rfl⟩ := he
    go_wp2_with fail
    go_ret2
    exact ⟨rfl, hf⟩
  | some sw =>
    have HO := hid ho
    clear ho
    go_enter Try.func8, Try.ntmps8
    go_wp2_with fail
    refine (begin_any v ws _ hs hlen).mono ?_
    rintro e w1 he
    rw [HO.out] at he
    obtain ⟨hf, b, rfl, hset, _⟩ := he
    go_wp2_with fail
    refine (text_any b sw s _ hset hn).mono ?_
    rintro e w2 ⟨rfl, hf2⟩
    go_wp2_with fail
    go_ret2
    exact ⟨rfl, hf.trans hf2⟩
theorem Count_any (v : Value) (ws : List (List UInt8)) (s : List UInt8) (w : World) (hs : See w eS v ws) (hlen : ws.length ≤ 2147483648) (hn : s.length ≤ 1073741824) :
    Calls Try.prog 9 #[S s, v] w fun e w' => e = .returned (CountV s (smalls ws)) ∧ Fr w w' := by
  cases ho : smalls ws with
  | none =>
    have HO := hid ho
    clear ho
    go_enter Try.func9, Try.ntmps9
    go_wp2_with fail
    refine (begin_any v ws _ hs hlen).mono ?_
    rintro e w1 he
    rw [HO.out] at he
    obtain ⟨hf, rfl⟩ := he
    go_wp2_with fail
    go_ret2
    exact ⟨rfl, hf⟩
  | some sw =>
    have HO := hid ho
    clear ho
    go_enter Try.func9, Try.ntmps9
    go_wp2_with fail
    refine (begin_any v ws _ hs hlen).mono ?_
    rintro e w1 he
    rw [HO.out] at he
    obtain ⟨hf, b, rfl, hset, _⟩ := he
    go_wp2_with fail
    refine (text_any b sw s _ hset hn).mono ?_
    rintro e w2 ⟨rfl, hf2⟩
    go_wp2_with fail
    go_ret2
    exact ⟨rfl, hf.trans hf2⟩
theorem Great_any (v : Value) (ws : List (List UInt8)) (w : World) (hs : See w eS v ws) :
    Calls Try.prog 7 #[v] w fun e w' => e = .returned (.bool (decide (20 < ws.length))) ∧ w = w' := by
  obtain ⟨a, cap, rfl, hcap, hm, hnil⟩ := hs.shape
  go_enter Try.func7, Try.ntmps7
  go_wp2_with fail
  go_ret
  refine ⟨?_, rfl⟩
  congr 2
  simp
  omega
/-- what the reference's Small answers -/
def SmallPost (w : World) (o : Option (List (List UInt8))) (e : Ending) (w' : World) : Prop :=
  Fr w w' ∧ match o with
    | some sw => ∃ v, e = .returned (.tuple #[v, .bool true]) ∧ Own w' w.heap.size eS v sw
    | none => e = .returned (.tuple #[.slice none 0 0, .bool false])
theorem rSmall_any (v : Value) (ws : List (List UInt8)) (w : World) (hs : See w eS v ws) (hlen : ws.length ≤ 2147483647) :
    Calls Try.prog 10 #[v] w (SmallPost w (smalls ws)) := by
  obtain ⟨a, cap, rfl, hcap, hm, hnil⟩ := hs.shape
  unfold maxLen at hm
  go_enter Try.func10, Try.ntmps10
  go_wp2_with fail
  go_loopw [4, 5] (fun v i wr => ∃ k : Nat, k ≤ ws.length ∧ i = N k ∧ Hid ((ws.take k).all (fun s => (oneOf s).isSome) = true) ∧ Own wr w.heap.size eS v ((ws.map fun s => s.map sm).take k) ∧ Fr w wr) (fun _ i _ => ws.length - (intOf i).toNat)
  case atStart => exact ⟨0, Nat.zero_le _, rfl, hid rfl, Own.nil, Fr.refl _⟩
  case round =>
    obtain ⟨k, hk, rfl, hall, hown, hf⟩ := hrel
    by_cases hlt : k < ws.length
    · obtain ⟨b, off, cap', hv, _, _, hc⟩ := (hs.fr hf).at1 S rfl (by intro e; simp [e] at hlt)
      simp only [Value.slice.injEq] at hv
      obtain ⟨rfl, _, rfl⟩ := hv
      have hck := hc k hlt
      clear hc
      cases ho : oneOf ws[k] with
      | none =>
        have HS : Hid (smalls ws = none) := hid (smalls_bad hlt ho)
        have HO : Hid (oneOf ws[k] = none) := ho
        clear ho
        go_wp2_with fail
        refine (rOne_any ws[k] _).mono ?_
        rintro e w1 ⟨he, hf1⟩
        rw [HO.out] at he
        subst he
        unfold OneV
        go_wp2_with fail
        go_ret2
        rw [HS.out]
        exact ⟨hf.trans hf1, rfl⟩
      | some r =>
        have HO : Hid (oneOf ws[k] = some r) := ho
        have HR : Hid (r = ws[k].map sm) := (oneOf_eq ho).1
        clear ho
        go_wp2_with fail
        refine (rOne_any ws[k] _).mono ?_
        rintro e w1 ⟨he, hf1⟩
        rw [HO.out] at he
        subst he
        unfold OneV
        have hown1 := hown.fr hf1
        have hs1 := hf1.size
        have hs2 := hf.size
        go_wp2_with (at_builtin; refine wpList_app1 eS rfl (.tmp 24) (.tmp 26) 22 rfl Try.underlying22 w.heap.size rfl hown1 [r] _ _ _ rfl rfl rfl ?c1 ?c2 ?_)
        case c1 => simp; omega
        case c2 => omega
        intro v' w2 ha
        go_wp2_with fail
        go_roundw
        case rel => exact ⟨k + 1, by omega, by go_num, hid (all_take_snoc _ _ _ hlt hall.out (by rw [HO.out]; rfl)), by rw [take_map_snoc _ _ _ hlt, ← HR.out]; exact ha.own, ha.below hown1 (hf.trans hf1) (Nat.le_refl _) (by omega)⟩
        case measure => simp [intOf]; omega
    · have HS : Hid (smalls ws = some (ws.map fun s => s.map sm)) := by
        show _ = _; unfold smalls; rw [if_pos (all_end hlt hall.out)]
      rw [List.take_of_length_le (by simp; omega)] at hown
      go_wp2_with fail
      go_ret2
      rw [HS.out]
      exact ⟨hf, _, rfl, hown⟩
end Go.Proofs.Ytgckkemmabaffaa
