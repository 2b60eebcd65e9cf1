/- Walks of ask: queries put together. -/
import Derived.Test.YtjepodlalcnecaaDoorW28f
import Derived.Test.YtjepodlalcnecaaDoorLib3
import Derived.Lib.SliceRun
set_option linter.unusedVariables false
namespace Go.Proofs.YtjepodlalcnecaaDoor
open Go.RowKit Go.Fk
def eH : Elt Tryd.prog Hd := ⟨22, 1, 24, ⟨none, 0, 0⟩, .slice none 0 0, fun h => [h.v], by kernel_rfl, by decide, by decide, by simp [Value.cells], fun _ => rfl, by intro x u hu; simp at hu; subst hu; rfl⟩
set_option maxRecDepth 100000 in
theorem Grow_any (n : Nat) (w : World) (hn : n ≤ 2147483648) :
    Calls Tryd.prog 49 #[.slice none 0 0, .int .i64 n] w fun e w' => ∃ v, e = .returned v ∧ Own w' w.heap.size eT v [] ∧ Fr w w' := by
  go_enter Tryd.func49, Tryd.ntmps49
  have hn1 : ¬ (n : Int) < 0 := by omega
  by_cases h0 : n = 0
  · subst h0
    go_wp2_with fail
    go_ret
    exact ⟨_, rfl, Own.nil, Fr.refl w⟩
  · have h0' : (0 : Int) < n := by omega
    obtain ⟨cap, w1, hr, hown, hf, hc, hsl⟩ := run_grow eT w 22 3 22 .i64 .i64 Tryd.underlying22 Tryd.underlying3 n (by omega) hn
    go_wp2_with (at_builtin; refine Lib.wpList_append_run _ rfl (.tmp 20) (.tmp 21) 22 3 rfl _ _ rfl rfl _ _ hr ?_)
    go_ret
    exact ⟨_, rfl, hown, hf⟩
/-- how long lists are, all together -/
def totL (ls : List (List Stp)) : Nat := ls.flatten.length
set_option maxRecDepth 100000 in
set_option maxHeartbeats 1000000 in
theorem Concat_any (v : Value) (hs : List Hd) (ls : List (List Stp)) (w : World) (hv : Sees2 w eH eT v hs ls) (hn : ls.flatten.length ≤ 1000000) :
    Calls Tryd.prog 40 #[v] w fun e w' => ∃ v, e = .returned v ∧ Own w' w.heap.size eT v ls.flatten ∧ Fr w w' := by
  obtain ⟨a, cap, hva, hc1, hc2, hnn⟩ := hv.1.shape
  unfold maxLen at hc2
  subst hva
  have hlen := hv.2.1
  have HL := hid hlen
  have HN := hid hnn
  clear hlen hnn
  have hll : ls.length ≤ 9223372036854775807 := by have := HL.out; omega
  go_enter Tryd.func40, Tryd.ntmps40
  go_wp2_with fail
  go_loop [3, 11] (fun nv iv => ∃ k n : Nat, k ≤ hs.length ∧ iv = N k ∧ nv = N n ∧ Hid (n = (ls.take k).flatten.length)) (fun _ iv => hs.length - (intOf iv).toNat)
  case atStart => exact ⟨0, 0, Nat.zero_le _, rfl, rfl, rfl⟩
  case round =>
    obtain ⟨k, n, hk, rfl, rfl, HK⟩ := hrel
    have hnl : n ≤ 1000000 := by have h1 := flat_take_le ls k; have := HK.out; omega
    by_cases hlt : k < hs.length
    · obtain ⟨b, off, cap', hv2, e0⟩ := hv.1.cell1 (fun (h : Hd) => h.v) rfl k hlt
      have hlt2 : k < ls.length := by have := HL.out; omega
      have hsee := hv.2.2 k hlt hlt2
      have HK2 : Hid (n + ls[k].length = (ls.take (k + 1)).flatten.length) := by show _ = _; rw [flat_snoc ls k hlt2, List.length_append, ← HK.out]
      have hl2 := flat_take_le ls (k + 1)
      have hl3 : n + ls[k].length ≤ 1000000 := by have := HK2.out; omega
      obtain ⟨a2, c2, hh, _⟩ := hsee.shape
      generalize hs[k] = h at *
      obtain ⟨ha, hn2, hcc⟩ := h
      simp only [Hd.v, Value.slice.injEq] at hh
      obtain ⟨rfl, hnn, rfl⟩ := hh
      rw [← hnn] at HK2 hl3
      clear hnn hl2
      simp only [Hd.v] at e0
      cases hv2
      have i1 : (0 : Int) ≤ k := by omega
      have i2 : (k : Int) < hs.length := by omega
      have hw1 : IntKind.i64.wrap ((n : Int) + hn2) = (n : Int) + hn2 := IntWalk.i64_in _ (by omega)
      have hge : ¬ (n : Int) + hn2 < 0 := by omega
      go_wp2_with fail
      go_round
      case rel => exact ⟨k + 1, n + hn2, by omega, by go_num, by go_num, HK2⟩
      case measure => simp [intOf]; omega
    · have HK2 : Hid (n = ls.flatten.length) := by have := HK.out; rw [List.take_of_length_le (by have := HL.out; omega)] at this; exact this
      clear HK
      go_wp2_with fail
      refine (Grow_any n _ (by omega)).mono ?_
      rintro e w1 ⟨v1, rfl, hown1, hf1⟩
      go_wp2_with fail
      go_loopw [6, 27] (fun ov iv wr => ∃ k : Nat, k ≤ hs.length ∧ iv = N k ∧ Own wr w.heap.size eT ov (ls.take k).flatten ∧ Fr w wr) (fun _ iv _ => hs.length - (intOf iv).toNat)
      case atStart => exact ⟨0, Nat.zero_le _, rfl, hown1, hf1⟩
      case round =>
        clear hown1
        obtain ⟨k, hk2, rfl, hown, hf⟩ := hrel
        by_cases hlt : k < hs.length
        · have hv2 := hv.fr hf
          obtain ⟨b, off, cap', hv3, e0⟩ := hv2.1.cell1 (fun (h : Hd) => h.v) rfl k hlt
          have hlt2 : k < ls.length := by have := HL.out; omega
          have hsee := hv2.2.2 k hlt hlt2
          have HF : Hid ((ls.take (k + 1)).flatten = (ls.take k).flatten ++ ls[k]) := flat_snoc ls k hlt2
          have hl2 := flat_take_le ls (k + 1)
          rw [HF.out, List.length_append] at hl2
          generalize hs[k] = h at *
          cases hv3
          have i1 : (0 : Int) ≤ k := by omega
          have i2 : (k : Int) < hs.length := by omega
          go_wp2_with (at_builtin; refine wpList_app eT rfl (.tmp 31) (.tmp 32) 22 rfl Tryd.underlying22 w.heap.size rfl hown _ _ rfl hsee ?c1 hf.size ?_)
          case c1 => omega
          intro v' w4 hap
          go_wp2_with fail
          go_roundw
          case rel => exact ⟨k + 1, by omega, by go_num, by rw [HF.out]; exact hap.own, hap.below hown hf (Nat.le_refl _) hf.size⟩
          case measure => simp [intOf]; omega
        · rw [List.take_of_length_le (by have := HL.out; omega)] at hown
          go_wp2_with fail
          go_ret
          exact ⟨_, rfl, hown, hf⟩
set_option maxRecDepth 100000 in
theorem join_any (op : Int) (v : Value) (hs : List Hd) (ls : List (List Stp)) (w : World) (hv : Sees2 w eH eT v hs ls) (hn : ls.flatten.length ≤ 1000000) :
    Calls Tryd.prog 30 #[.int .i64 op, v] w fun e w' => ∃ v, e = .returned v ∧ Own w' w.heap.size eT v (joinL op ls) ∧ Fr w w' := by
  obtain ⟨a, cap, hva, hc1, hc2, hnn⟩ := hv.1.shape
  have hlen := hv.2.1
  have C := Concat_any v hs ls w hv hn
  subst hva
  have HC := hid C
  have HL := hid hlen
  clear C hnn hlen
  go_enter Tryd.func30, Tryd.ntmps30
  go_wp2_with fail
  refine HC.out.mono ?_
  rintro e w1 ⟨v1, rfl, hown, hf⟩
  by_cases h1 : 1 < ls.length
  · have h1' : (1 : Int) < hs.length := by have := HL.out; omega
    have HJ : Hid (joinL op ls = ls.flatten ++ [stepN op hs.length]) := by show _ = _; unfold joinL; rw [if_pos h1, HL.out]
    clear h1
    go_wp2_with (at_builtin; refine wpList_app1 eT rfl (.tmp 11) (.tmp 16) 22 rfl Tryd.underlying22 w.heap.size rfl hown [stepN op hs.length] _ _ _ rfl rfl rfl ?c1 ?c2 ?_)
    case c1 => show _ + 1 ≤ _; omega
    case c2 => exact hf.size
    intro v' w4 hap
    go_wp2_with fail
    go_ret
    exact ⟨_, rfl, by rw [HJ.out]; exact hap.own, hap.below hown hf (Nat.le_refl _) hf.size⟩
  · have h1' : ¬ (1 : Int) < hs.length := by have := HL.out; omega
    have HJ : Hid (joinL op ls = ls.flatten) := by show _ = _; unfold joinL; rw [if_neg h1, List.append_nil]
    clear h1
    go_wp2_with fail
    go_ret
    exact ⟨_, rfl, by rw [HJ.out]; exact hown, hf⟩
theorem Both_any (v : Value) (hs : List Hd) (ls : List (List Stp)) (w : World) (hv : Sees2 w eH eT v hs ls) (hn : ls.flatten.length ≤ 1000000) :
    Calls Tryd.prog 14 #[v] w fun e w' => ∃ v, e = .returned v ∧ Own w' w.heap.size eT v (joinL 6 ls) ∧ Fr w w' := by
  obtain ⟨a, cap, hva, hc1, hc2, hnn⟩ := hv.1.shape
  have C := join_any 6 v hs ls w hv hn
  subst hva
  have HC := hid C
  clear C hnn
  go_enter Tryd.func14, Tryd.ntmps14
  go_wp2_with fail
  refine HC.out.mono ?_
  rintro e w1 ⟨v1, rfl, hown, hf⟩
  go_wp2_with fail
  go_ret
  exact ⟨_, rfl, hown, hf⟩
theorem Any_any (v : Value) (hs : List Hd) (ls : List (List Stp)) (w : World) (hv : Sees2 w eH eT v hs ls) (hn : ls.flatten.length ≤ 1000000) :
    Calls Tryd.prog 15 #[v] w fun e w' => ∃ v, e = .returned v ∧ Own w' w.heap.size eT v (joinL 7 ls) ∧ Fr w w' := by
  obtain ⟨a, cap, hva, hc1, hc2, hnn⟩ := hv.1.shape
  have C := join_any 7 v hs ls w hv hn
  subst hva
  have HC := hid C
  clear C hnn
  go_enter Tryd.func15, Tryd.ntmps15
  go_wp2_with fail
  refine HC.out.mono ?_
  rintro e w1 ⟨v1, rfl, hown, hf⟩
  go_wp2_with fail
  go_ret
  exact ⟨_, rfl, hown, hf⟩
set_option maxRecDepth 100000 in
theorem Clone_any (v : Value) (q : List Stp) (w : World) (hv : See w eT v q) (hn : q.length ≤ 1000000) :
    Calls Tryd.prog 31 #[v] w fun e w' => ∃ v, e = .returned v ∧ Own w' w.heap.size eT v q ∧ Fr w w' := by
  obtain ⟨a, cap, hva, hc1, hc2, hnn⟩ := hv.shape
  subst hva
  cases a with
  | none =>
    obtain ⟨rfl, rfl⟩ := hnn rfl
    have heq := fun W => Lib.run_eql_slice_nil (P := Tryd.prog) W 22 34 none 0 0 0 0 Tryd.underlying22
    go_enter Tryd.func31, Tryd.ntmps31
    go_wp2_with fail
    go_ret
    exact ⟨_, rfl, Own.nil, Fr.refl w⟩
  | some a =>
    clear hnn
    have hown0 := own_lit eT w #[] ([] : List Stp) 0 rfl (by simp) (Nat.le_refl w.heap.size) rfl
    have hv2 := hv.fr ((Fr.refl w).alloc (.cells #[] eT.e))
    have heq := fun W => Lib.run_eql_slice_nil (P := Tryd.prog) W 22 34 (some a) q.length cap 0 0 Tryd.underlying22
    go_enter Tryd.func31, Tryd.ntmps31
    go_wp2_with (at_builtin; refine wpList_app eT rfl (.tmp 5) (.tmp 6) 22 rfl Tryd.underlying22 w.heap.size rfl hown0 _ _ rfl hv2 ?c1 ?c2 ?_)
    case c1 => simp; omega
    case c2 => simp
    intro v' w4 hap
    go_wp2_with fail
    go_ret
    exact ⟨_, rfl, hap.own, hap.below hown0 ((Fr.refl w).alloc _) (Nat.le_refl _) (by simp)⟩
set_option maxRecDepth 100000 in
theorem Not_any (v : Value) (q : List Stp) (w : World) (hv : See w eT v q) (hn : q.length ≤ 1000000) :
    Calls Tryd.prog 16 #[v] w fun e w' => ∃ v, e = .returned v ∧ Own w' w.heap.size eT v (q ++ [stepN 5 0]) ∧ Fr w w' := by
  obtain ⟨a, cap, hva, hc1, hc2, hnn⟩ := hv.shape
  have C := Clone_any v q w hv hn
  subst hva
  have HC := hid C
  clear C hnn
  go_enter Tryd.func16, Tryd.ntmps16
  go_wp2_with fail
  refine HC.out.mono ?_
  rintro e w1 ⟨v1, rfl, hown, hf⟩
  go_wp2_with (at_builtin; refine wpList_app1 eT rfl (.tmp 4) (.tmp 6) 22 rfl Tryd.underlying22 w.heap.size rfl hown [stepN 5 0] _ _ _ rfl rfl rfl ?c1 ?c2 ?_)
  case c1 => simp; omega
  case c2 => exact hf.size
  intro v' w4 hap
  go_wp2_with fail
  go_ret
  exact ⟨_, rfl, hap.own, hap.below hown hf (Nat.le_refl _) hf.size⟩
end Go.Proofs.YtjepodlalcnecaaDoor
