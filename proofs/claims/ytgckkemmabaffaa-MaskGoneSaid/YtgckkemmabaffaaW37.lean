/- Walks of mask. -/
import Derived.Test.YtgckkemmabaffaaW15
import Derived.Test.YtgckkemmabaffaaMap
set_option linter.unusedVariables false
namespace Go.Proofs.Ytgckkemmabaffaa
open Go.RowKit Go.Fk

theorem mletter_any (c : UInt8) (w : World) :
    Calls Try.prog 30 #[u8 c] w fun e w' => e = .returned (.bool (isL c)) ∧ w = w' := by
  have hb := c_nat_bound c
  obtain ⟨hb1, hb0⟩ := hb
  cases h : isL c with
  | true =>
    rw [isL_iff] at h
    go_enter Try.func30, Try.ntmps30
    go_wp2_with fail
    all_goals (first | omega | skip)
    all_goals go_ret
    all_goals exact ⟨by (try (refine congrArg (fun b => Ending.returned (.bool b)) ?_)); simp <;> omega, rfl⟩
  | false =>
    rw [isL_not] at h
    go_enter Try.func30, Try.ntmps30
    go_wp2_with fail
    all_goals (first | omega | skip)
    all_goals go_ret
    all_goals exact ⟨by (try (refine congrArg (fun b => Ending.returned (.bool b)) ?_)); simp <;> omega, rfl⟩

/-- words that are made small, if each is one by itself -/
def smalls (ws : List (List UInt8)) : Option (List (List UInt8)) := if ws.all (fun s => (oneOf s).isSome) = true then some (ws.map fun s => s.map sm) else none
theorem smalls_bad {ws : List (List UInt8)} {k : Nat} (h : k < ws.length) (h1 : oneOf ws[k] = none) : smalls ws = none := by
  unfold smalls; rw [if_neg]; intro h4
  have := List.all_eq_true.1 h4 ws[k] (List.getElem_mem _)
  simp [h1] at this
theorem oneOf_eq {s r : List UInt8} (h : oneOf s = some r) : r = s.map sm ∧ s.length ≤ 24 := by
  unfold oneOf at h; split at h
  · next h2 => exact ⟨(Option.some.inj h).symm, h2.2.1⟩
  · cases h
/-- what begin answers -/
def BeginPost (w : World) (o : Option (List (List UInt8))) (e : Ending) (w' : World) : Prop :=
  Fr w w' ∧ match o with
    | some sw => ∃ b, e = .returned (.tuple #[.map (some b), .bool true]) ∧ SetAt Try.prog 9 w' b sw ∧ w.heap.size ≤ b
    | none => e = .returned (.tuple #[.map none, .bool false])
theorem begin_any (v : Value) (ws : List (List UInt8)) (w : World) (hs : See w eS v ws) (hlen : ws.length ≤ 2147483648) :
    Calls Try.prog 15 #[v] w (BeginPost w (smalls ws)) := by
  obtain ⟨a, cap, rfl, hcap, hm, hnil⟩ := hs.shape
  unfold maxLen at hm
  have hmm := @run_makeMap Try.prog
  go_enter Try.func15, Try.ntmps15
  go_wp2_with fail
  go_loopw [12] (fun i wr => ∃ k : Nat, k ≤ ws.length ∧ i = N k ∧ Hid ((ws.take k).all (fun s => (oneOf s).isSome) = true) ∧ SetAt Try.prog 9 wr w.heap.size ((ws.map fun s => s.map sm).take k) ∧ Fr w wr) (fun i _ => ws.length - (intOf i).toNat)
  case atStart => exact ⟨0, Nat.zero_le _, rfl, hid rfl, SetAt.made _ _ _, (Fr.refl w).alloc _⟩
  case round =>
    obtain ⟨k, hk, rfl, hall, hset, hf⟩ := hrel
    by_cases hlt : k < ws.length
    · obtain ⟨b, off, cap', hv, _, _, hc⟩ := (hs.fr hf).at1 S rfl (by intro e; simp [e] at hlt)
      simp only [Value.slice.injEq] at hv
      obtain ⟨rfl, _, rfl⟩ := hv
      have hck := hc k hlt
      clear hc
      cases ho : oneOf ws[k] with
      | none =>
        have HS : Hid (smalls ws = none) := hid (smalls_bad hlt ho)
        have HO : Hid (oneOf ws[k] = none) := ho
        clear ho
        go_wp2_with fail
        refine (wOne_any ws[k] _).mono ?_
        rintro e w1 ⟨he, hf1⟩
        rw [HO.out] at he
        subst he
        unfold OneV
        go_wp2_with fail
        go_ret2
        rw [HS.out]
        exact ⟨hf.trans hf1, rfl⟩
      | some r =>
        have HO : Hid (oneOf ws[k] = some r) := ho
        obtain ⟨hr, hr2⟩ := oneOf_eq ho
        have HR : Hid (r = ws[k].map sm) := hr
        have hrl : r.length ≤ maxLen := by rw [hr]; simp; unfold maxLen; omega
        clear ho hr
        go_wp2_with fail
        refine (wOne_any ws[k] _).mono ?_
        rintro e w1 ⟨he, hf1⟩
        rw [HO.out] at he
        subst he
        unfold OneV
        have hset1 := hset.fr hf1
        go_wp2_with (refine wpList_set_put rfl (.tmp 23) (.tmp 24) (.tmp 25) 40 rfl 9 51 Try.underlying9 Try.underlying40 w.heap.size _ r rfl hset1 ?c1 hrl rfl rfl ?_)
        case c1 => simp; unfold maxLen; omega
        intro w2 hset2 hg
        go_wp2_with fail
        go_roundw
        case rel => exact ⟨k + 1, by omega, by go_num, hid (all_take_snoc _ _ _ hlt hall.out (by rw [HO.out]; rfl)), by rw [take_map_snoc _ _ _ hlt, ← HR.out]; exact hset2, (hf.trans hf1).own hg (by intro k e; cases e; exact Nat.le_refl _)⟩
        case measure => simp [intOf]; omega
    · have HS : Hid (smalls ws = some (ws.map fun s => s.map sm)) := by
        show _ = _; unfold smalls; rw [if_pos (all_end hlt hall.out)]
      rw [List.take_of_length_le (by simp; omega)] at hset
      go_wp2_with fail
      go_ret2
      rw [HS.out]
      exact ⟨hf, _, rfl, hset, Nat.le_refl _⟩
end Go.Proofs.Ytgckkemmabaffaa
