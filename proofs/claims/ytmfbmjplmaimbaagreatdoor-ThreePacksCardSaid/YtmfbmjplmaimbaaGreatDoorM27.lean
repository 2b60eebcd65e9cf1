/- Parts of the proof of ThreePacks: Y1 Y2. -/
import Derived.Test.YtmfbmjplmaimbaaGreatDoorM08
import Derived.Test.YtmfbmjplmaimbaaGreatDoorM20
import Derived.Test.YtmfbmjplmaimbaaGreatDoorM26
set_option linter.unusedVariables false
set_option linter.unusedSectionVars false
set_option linter.unusedSimpArgs false
set_option maxHeartbeats 8000000
namespace Go.Proofs.YtmfbmjplmaimbaaGreatDoor
open Go.RowKit Go.Fk
set_option maxRecDepth 100000
theorem class_any (v : Nat) (w : World) (h1 : 1 ≤ v) (h2 : v < 65536) :
  Calls Tryz.prog 191 #[N v] w fun e w' => e = .returned (.tuple #[N (clsK v), N (rstK v)]) ∧ Fr w w' := by
 have HB := hid (Tryz.bits_Len (v : Int) w (by omega) (by omega))
 have hlog := bitLen_log v h1 (by omega)
 rw [show ((v : Int)).toNat = v by simp] at HB
 rw [hlog] at HB
 have hc := cls_small v 16 h1 h2
 have hle := cls_le v h1
 have HR : Hid (v - 2 ^ clsK v = rstK v) := rfl
 rw [show Nat.log2 v = clsK v from rfl] at HB
 generalize clsK v = b at *
 have hp : (2 : Nat) ^ b ≤ 2 ^ 15 := Nat.pow_le_pow_right (by omega) (by omega)
 have hp0 : (2 : Nat) ^ 15 = 32768 := rfl
 have hw1 : IntKind.u64.wrap (v : Int) = v := IntWalk.u64_in _ (by omega)
 have hw2 : ((b + 1 : Nat) : Int) - 1 = b := by omega
 have hpi : (2 : Int) ^ b = ((2 ^ b : Nat) : Int) := by simp
 clear hlog
 go_enter Tryz.func191, Tryz.ntmps191
 go_wp2_with fail
 refine HB.out.mono ?_
 rintro e w1 ⟨rfl, rfl⟩
 have hi63 : (b : Int) < 64 := by omega
 have hn0 : ¬ (b : Int) < 0 := by omega
 generalize hpp : (2 : Nat) ^ b = pw at *
 have hsh : IntKind.i64.wrap ((2 : Int) ^ b) = (pw : Int) := by rw [hpi]; exact IntWalk.i64_in _ (by omega)
 have hsb : (v : Int) - (pw : Int) = ((v - pw : Nat) : Int) := by omega
 go_upto_region 2 with fail
 go_region
 all_goals go_wp2_with fail
 go_ret2
 exact ⟨by rw [← HR.out]; rfl, (Fr.refl _).drew⟩
theorem Rclass_any (v : Nat) (w : World) (h1 : 1 ≤ v) (h2 : v < 65536) :
  Calls Tryz.prog 189 #[N v] w fun e w' => e = .returned (.tuple #[N (clsK v), N (rstK v)]) ∧ Fr w w' := by
 have HC := hid (cls_of v)
 have HR : Hid (v - 2 ^ clsK v = rstK v) := rfl
 go_enter Tryz.func189, Tryz.ntmps189
 go_wp2_with fail
 go_loopw [4, 5] (fun bv pv wr => ∃ b p : Nat, bv = N b ∧ pv = N p ∧ Hid (p = 2 ^ b) ∧ b ≤ p ∧ 1 ≤ p ∧ p ≤ v ∧ wr = w) (fun _ pv _ => v - (intOf pv).toNat)
 case atStart => exact ⟨0, 1, rfl, rfl, rfl, by omega, by omega, h1, rfl⟩
 case round =>
  obtain ⟨b, p, rfl, rfl, HP, hbp, hp1, hpv, rfl⟩ := hrel
  by_cases hlt : 2 * p ≤ v
  · have hlt' : 2 * (p : Int) ≤ v := by omega
    have HP2 : Hid (2 * p = 2 ^ (b + 1)) := by show _ = _; rw [HP.out, Nat.pow_succ]; omega
    go_wp2_with fail
    go_roundw
    case rel => exact ⟨b + 1, 2 * p, by go_num, by go_num, HP2, by omega, by omega, hlt, trivial⟩
    case measure => simp [intOf]; omega
  · have hlt' : ¬ 2 * (p : Int) ≤ v := by omega
    have hc := HC.out b (by rw [← HP.out]; exact hpv) (by rw [Nat.pow_succ, ← HP.out]; omega)
    have HR2 : Hid (v - p = rstK v) := by show _ = _; rw [← HR.out, hc, ← HP.out]
    have hsb : (v : Int) - p = ((v - p : Nat) : Int) := by omega
    go_wp2_with fail
    go_ret2
    exact ⟨by rw [← HR2.out]; rfl, Fr.refl _⟩
set_option maxRecDepth 512
abbrev tkV (t : Tok) : Value := .agg #[.int .u8 (t.lit.toNat : Int), N t.len, N t.dist]
abbrev pcV (p : Pce) : Value := .agg #[N p.sym, N p.len, N p.dist, N p.far]
set_option maxRecDepth 100000
theorem LMay_any (t : Tok) (w : World) (hm : mayT t = true) :
  Calls Tryz.prog 190 #[tkV t] w fun e w' => e = .returned (.bool true) ∧ Fr w w' := by
 by_cases h0 : t.len = 0
 · have hd : t.dist = 0 := by unfold mayT at hm; rw [if_pos h0] at hm; simpa using hm
   obtain ⟨lit, len, dist⟩ := t
   simp only at h0 hd
   subst h0; subst hd
   clear hm
   generalize lit.toNat = ln at *
   go_enter Tryz.func190, Tryz.ntmps190
   go_wp2_with fail
   go_ret
   exact ⟨rfl, (Fr.refl w).alloc _⟩
 · obtain ⟨h1, h2, h3, h4, h5⟩ := mayT_len t hm h0
   obtain ⟨lit, len, dist⟩ := t
   simp only at h0 h1 h2 h3 h4 h5
   subst h1
   have i1 : (3 : Int) ≤ len := by omega
   have i2 : (len : Int) ≤ 257 := by omega
   have i3 : (1 : Int) ≤ dist := by omega
   have i4 : (dist : Int) ≤ 4095 := by omega
   have i5 : ¬ (len : Int) = 0 := by omega
   have i6 : ((len : Int) == 0) = false := by simp [h0]
   have hz : ((0 : UInt8).toNat : Int) = 0 := rfl
   clear hm
   go_enter Tryz.func190, Tryz.ntmps190
   go_wp2_with fail
   go_ret
   exact ⟨rfl, (Fr.refl w).alloc _⟩
theorem RMayT_any (t : Tok) (w : World) (hm : mayT t = true) :
  Calls Tryz.prog 188 #[tkV t] w fun e w' => e = .returned (.bool true) ∧ Fr w w' := by
 by_cases h0 : t.len = 0
 · have hd : t.dist = 0 := by unfold mayT at hm; rw [if_pos h0] at hm; simpa using hm
   obtain ⟨lit, len, dist⟩ := t
   simp only at h0 hd
   subst h0; subst hd
   clear hm
   generalize lit.toNat = ln at *
   go_enter Tryz.func188, Tryz.ntmps188
   go_wp2_with fail
   go_ret
   exact ⟨rfl, (Fr.refl w).alloc _⟩
 · obtain ⟨h1, h2, h3, h4, h5⟩ := mayT_len t hm h0
   obtain ⟨lit, len, dist⟩ := t
   simp only at h0 h1 h2 h3 h4 h5
   subst h1
   have i1 : (3 : Int) ≤ len := by omega
   have i2 : (len : Int) ≤ 257 := by omega
   have i3 : (1 : Int) ≤ dist := by omega
   have i4 : (dist : Int) ≤ 4095 := by omega
   have i5 : ¬ (len : Int) = 0 := by omega
   have i6 : ((len : Int) == 0) = false := by simp [h0]
   have hz : ((0 : UInt8).toNat : Int) = 0 := rfl
   clear hm
   go_enter Tryz.func188, Tryz.ntmps188
   go_wp2_with fail
   go_ret
   exact ⟨rfl, (Fr.refl w).alloc _⟩
set_option maxRecDepth 512
end Go.Proofs.YtmfbmjplmaimbaaGreatDoor
