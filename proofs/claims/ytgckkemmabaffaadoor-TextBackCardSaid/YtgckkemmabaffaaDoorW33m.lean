/- Walks of text: Number. -/
import Derived.Test.YtgckkemmabaffaaDoorW33l
import Derived.Lib.SmallJoins
set_option linter.unusedVariables false
namespace Go.Proofs.YtgckkemmabaffaaDoor
open Go.RowKit Go.Fk
/-- the library's two sentinels -/
def Errs (w : World) : Prop := (∃ t p, w.cell? ⟨2, 0, none⟩ = some (.iface t p)) ∧ ∃ t p, w.cell? ⟨3, 0, none⟩ = some (.iface t p)
theorem Errs.fr {w w' : World} (h : Errs w) (hf : Fr w w') : Errs w' := by
  obtain ⟨⟨t, p, h1⟩, t', p', h2⟩ := h
  exact ⟨⟨t, p, hf.cell h1⟩, t', p', hf.cell h2⟩
theorem gPow2 : Tryd.prog.globalNamed "internal/strconv.uint64pow10" = some 1 := by kernel_rfl
theorem Pow.fr {w w' : World} (h : Pow w) (hz : 1 < w.heap.size) (hf : Fr w w') : Pow w' := var?_below hf gPow2 hz h
theorem parse_num (s : List UInt8) (u : Nat) (h : Lib.parseUintB 64 s = .ok u) : numL s = if Lib.decDigits u = s then some u else none := by
  rw [Lib.parseUintB_64] at h
  unfold Lib.parseMag at h
  split at h
  · cases h
  · rename_i hne
    have := (okV_parse s 0 u (by omega)).1 h
    unfold numL
    rw [if_neg hne, this]; rfl
theorem parse_none (s : List UInt8) (h : ∀ u, Lib.parseUintB 64 s ≠ .ok u) : numL s = none := by
  cases hn : numL s with
  | none => rfl
  | some u =>
    obtain ⟨h1, rfl⟩ := (numL_iff s u).1 hn
    exfalso
    apply h u
    rw [Lib.parseUintB_64]
    unfold Lib.parseMag
    rw [if_neg (dec_ne u)]
    exact (okV_parse _ 0 u (by omega)).2 (okV_dec u h1)
theorem parse_lt (s : List UInt8) (u : Nat) (h : Lib.parseUintB 64 s = .ok u) : u < 18446744073709551616 := by
  have := Lib.parseUintB_le h
  have e : (2 : Nat) ^ 64 - 1 = 18446744073709551615 := by decide
  omega
set_option maxRecDepth 100000 in
set_option maxHeartbeats 800000 in
theorem Number_any (s : List UInt8) (w : World) (ht : Pow w) (hz : 1 < w.heap.size) (he : Errs w) (hlen : s.length ≤ 1000000000) :
    Calls Tryd.prog 17 #[S s] w fun e w' => e = .returned (.tuple #[.int .u64 (numT s : Nat), .bool (numL s).isSome]) ∧ Fr w w' := by
  have hsz : (⟨s.toArray⟩ : ByteArray).size = s.length := by simp [ByteArray.size]
  unfold numT
  obtain ⟨⟨t1, p1, h1⟩, t2, p2, h2⟩ := he
  cases hp : Lib.parseUintB 64 s with
  | ok u =>
    have hu := parse_lt s u hp
    have hn := parse_num s u hp
    have c1 := Tryd.strconv_ParseUint_10_at64_ok ⟨s.toArray⟩ (by rw [hsz]; omega) u hp w
    have HU := hid hu
    have HN := hid hn
    have HC := hid c1
    have HT := hid ht
    clear hu hn hp h1 h2 c1 ht hsz
    go_enter Tryd.func17, Tryd.ntmps17
    go_wp2_with fail
    refine HC.out.mono ?_
    rintro e w' ⟨rfl, hw⟩
    have hf : Fr w w' := by
      rcases hw with rfl | rfl
      · exact Fr.refl _
      · exact Lib.bytesWorld_below _ _ _
    clear hw
    go_wp2_with fail
    refine (FormatUint_any u HU.out _ (HT.out.fr hz hf)).mono ?_
    rintro e w2 ⟨he, hf2⟩
    by_cases hd : Lib.decDigits u = s
    · rw [hd] at he
      subst he
      have hO : Hid (numL s = some u) := by show _ = _; rw [HN.out, if_pos hd]
      clear hd
      go_wp2_with fail
      go_ret2
      exact ⟨by rw [hO.out]; rfl, hf.trans hf2⟩
    · have hO : Hid (numL s = none) := by show _ = _; rw [HN.out, if_neg hd]
      subst he
      generalize Lib.decDigits u = q at *
      have hq : (q == s) = false := by simp; exact hd
      go_wp2_with fail
      go_ret2
      exact ⟨by rw [hO.out]; rfl, hf.trans hf2⟩
  | range =>
    have hO : Hid (numL s = none) := parse_none s (fun u h => by rw [hp] at h; cases h)
    have c1 := Tryd.strconv_ParseUint_10_at64_range ⟨s.toArray⟩ (by rw [hsz]; omega) hp _ w h2 (.inr ⟨_, _, rfl⟩)
    have HC := hid c1
    clear hp h1 h2 c1 ht hsz
    go_enter Tryd.func17, Tryd.ntmps17
    go_wp2_with fail
    refine HC.out.mono ?_
    rintro e w' ⟨M, rfl, hN, _, hf⟩
    go_wp2_with fail
    go_ret2
    exact ⟨by rw [hO.out]; rfl, hf⟩
  | _ =>
    have hO : Hid (numL s = none) := parse_none s (fun u h => by rw [hp] at h; cases h)
    have c1 := Tryd.strconv_ParseUint_10_at64_syntax ⟨s.toArray⟩ (by rw [hsz]; omega) hp _ w h1 (.inr ⟨_, _, rfl⟩)
    have HC := hid c1
    clear hp h1 h2 c1 ht hsz
    go_enter Tryd.func17, Tryd.ntmps17
    go_wp2_with fail
    refine HC.out.mono ?_
    rintro e w' ⟨M, rfl, hN, _, hf⟩
    go_wp2_with fail
    go_ret2
    exact ⟨by rw [hO.out]; rfl, hf⟩
end Go.Proofs.YtgckkemmabaffaaDoor
