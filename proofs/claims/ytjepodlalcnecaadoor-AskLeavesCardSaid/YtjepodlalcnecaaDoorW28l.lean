/- Walks of ask: letters, numbers. -/
import Derived.Test.YtjepodlalcnecaaDoorW28i
import Derived.Test.YtjepodlalcnecaaDoorParse
set_option linter.unusedVariables false
namespace Go.Proofs.YtjepodlalcnecaaDoor
open Go.RowKit Go.Fk
set_option maxRecDepth 100000 in
theorem letter_any (c : UInt8) (w : World) :
    Calls Tryd.prog 83 #[Fk.u8 c] w fun e w' => e = .returned (.bool (isL c)) ∧ w = w' := by
  have hb := c_nat_bound c
  obtain ⟨hb1, hb0⟩ := hb
  cases hL : isL c with
  | true =>
    have h := (isL_iff c).1 hL
    clear hL
    rcases h with ⟨h1, h2⟩ | ⟨h1, h2⟩ | ⟨h1, h2⟩
    · have k1 : ¬ (97 : Int) ≤ c.toNat := by omega
      have j1 : (65 : Int) ≤ c.toNat := by omega
      have j2 : (c.toNat : Int) ≤ 90 := by omega
      go_enter Tryd.func83, Tryd.ntmps83
      go_wp2_with fail
      go_ret
      exact ⟨rfl, rfl⟩
    · have j1 : (97 : Int) ≤ c.toNat := by omega
      have j2 : (c.toNat : Int) ≤ 122 := by omega
      go_enter Tryd.func83, Tryd.ntmps83
      go_wp2_with fail
      go_ret
      exact ⟨rfl, rfl⟩
    · have k1 : ¬ (97 : Int) ≤ c.toNat := by omega
      have k2 : ¬ (65 : Int) ≤ c.toNat := by omega
      have j1 : (48 : Int) ≤ c.toNat := by omega
      have j2 : (c.toNat : Int) ≤ 57 := by omega
      go_enter Tryd.func83, Tryd.ntmps83
      go_wp2_with fail
      go_ret
      exact ⟨rfl, rfl⟩
  | false =>
    have h := (isL_not c).1 hL
    clear hL
    have h1 : ¬ ((65 : Int) ≤ c.toNat ∧ (c.toNat : Int) ≤ 90) := by omega
    have h2 : ¬ ((97 : Int) ≤ c.toNat ∧ (c.toNat : Int) ≤ 122) := by omega
    have h3 : ¬ ((48 : Int) ≤ c.toNat ∧ (c.toNat : Int) ≤ 57) := by omega
    have H := hid (And.intro h1 (And.intro h2 h3))
    clear h h1 h2 h3
    go_enter Tryd.func83, Tryd.ntmps83
    go_wp2_with fail
    all_goals first
      | (go_ret; exact ⟨rfl, rfl⟩)
      | (exfalso; obtain ⟨h1, h2, h3⟩ := H.out; omega)
      | (go_ret; refine ⟨congrArg (fun b => Ending.returned (.bool b)) ?_, rfl⟩; obtain ⟨h1, h2, h3⟩ := H.out; simp; omega)
set_option maxRecDepth 100000 in
set_option maxHeartbeats 800000 in
theorem number_any (s : List UInt8) (w : World) (ht : Pow w) (hz : 0 < w.heap.size) (he : Errs w) (hlen : s.length ≤ 1000000000) :
    Calls Tryd.prog 82 #[S s] w fun e w' => ∃ x : Int, e = .returned (.tuple #[.int .u64 x, .bool (numL s).isSome]) ∧ (∀ u, numL s = some u → x = u) ∧ Fr w w' := by
  have hsz : (⟨s.toArray⟩ : ByteArray).size = s.length := by simp [ByteArray.size]
  obtain ⟨⟨t1, p1, h1⟩, t2, p2, h2⟩ := he
  cases hp : Lib.parseUintB 64 s with
  | ok u =>
    have hu := parse_lt s u hp
    have hn := parse_num s u hp
    have c1 := Tryd.strconv_ParseUint_10_at64_ok ⟨s.toArray⟩ (by rw [hsz]; omega) u hp w
    have HU := hid hu
    have HN := hid hn
    have HC := hid c1
    have HT := hid ht
    clear hu hn hp h1 h2 c1 ht hsz
    go_enter Tryd.func82, Tryd.ntmps82
    go_wp2_with fail
    refine HC.out.mono ?_
    rintro e w' ⟨rfl, hw⟩
    have hf : Fr w w' := by
      rcases hw with rfl | rfl
      · exact Fr.refl _
      · exact Lib.bytesWorld_below _ _ _
    clear hw
    go_wp2_with fail
    refine (FormatUint_any u HU.out _ (HT.out.fr hz hf)).mono ?_
    rintro e w2 ⟨he, hf2⟩
    by_cases hd : Lib.decDigits u = s
    · rw [hd] at he
      subst he
      have hO : Hid (numL s = some u) := by show _ = _; rw [HN.out, if_pos hd]
      clear hd
      go_wp2_with fail
      go_ret2
      exact ⟨u, by rw [hO.out]; rfl, (fun v hv => by rw [hO.out] at hv; cases hv; rfl), hf.trans hf2⟩
    · have hO : Hid (numL s = none) := by show _ = _; rw [HN.out, if_neg hd]
      subst he
      generalize Lib.decDigits u = q at *
      have hq : (q == s) = false := by simp; exact hd
      go_wp2_with fail
      go_ret2
      exact ⟨u, by rw [hO.out]; rfl, (fun v hv => by rw [hO.out] at hv; cases hv), hf.trans hf2⟩
  | range =>
    have hO : Hid (numL s = none) := parse_none s (fun u h => by rw [hp] at h; cases h)
    have c1 := Tryd.strconv_ParseUint_10_at64_range ⟨s.toArray⟩ (by rw [hsz]; omega) hp _ w h2 (.inr ⟨_, _, rfl⟩)
    have HC := hid c1
    clear hp h1 h2 c1 ht hsz
    go_enter Tryd.func82, Tryd.ntmps82
    go_wp2_with fail
    refine HC.out.mono ?_
    rintro e w' ⟨M, rfl, hN, _, hf⟩
    go_wp2_with fail
    go_ret2
    exact ⟨_, by rw [hO.out]; rfl, (fun v hv => by rw [hO.out] at hv; cases hv), hf⟩
  | _ =>
    have hO : Hid (numL s = none) := parse_none s (fun u h => by rw [hp] at h; cases h)
    have c1 := Tryd.strconv_ParseUint_10_at64_syntax ⟨s.toArray⟩ (by rw [hsz]; omega) hp _ w h1 (.inr ⟨_, _, rfl⟩)
    have HC := hid c1
    clear hp h1 h2 c1 ht hsz
    go_enter Tryd.func82, Tryd.ntmps82
    go_wp2_with fail
    refine HC.out.mono ?_
    rintro e w' ⟨M, rfl, hN, _, hf⟩
    go_wp2_with fail
    go_ret2
    exact ⟨_, by rw [hO.out]; rfl, (fun v hv => by rw [hO.out] at hv; cases hv), hf⟩
end Go.Proofs.YtjepodlalcnecaaDoor
