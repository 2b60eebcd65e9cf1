/- Parts of the proof of ThreePacks: C1 N4. -/
import Derived.Test.YtmfbmjplmaimbaaGreatDoorM12
import Derived.Test.YtmfbmjplmaimbaaGreatDoorM08
set_option linter.unusedVariables false
set_option linter.unusedSectionVars false
set_option linter.unusedSimpArgs false
set_option maxHeartbeats 8000000
namespace Go.Proofs.YtmfbmjplmaimbaaGreatDoor
open Go.RowKit Go.Fk
def Crc (w : World) : Prop := ∀ i, i < 16 → w.cell? ⟨0, i, none⟩ = some (.int .u32 ((tabU i : Nat) : Int))
theorem Crc.fr {w w' : World} (h : Crc w) (hf : Fr w w') : Crc w' := fun i hi => hf.cell (h i hi)
abbrev U4 (n : Nat) : Value := .int .u32 (n : Int)
theorem and15_u32 (x : Nat) (h : x < 4294967296) : bits .and .u32 (x : Int) 15 = ((x % 16 : Nat) : Int) := by
 have := and_u32 x 15 h (by omega)
 have e : x &&& 15 = x % 16 := Nat.and_two_pow_sub_one_eq_mod x 4
 rw [e] at this
 exact this
theorem not_u32 (x : Nat) (h : x < 4294967296) : bits .xor .u32 IntKind.u32.max (x : Int) = ((4294967295 - x : Nat) : Int) := by
 have e := xor_ones 32 x h
 rw [Nat.xor_comm] at e
 have := xor_u32 4294967295 x (by omega) h
 rw [show (4294967295 : Nat) ^^^ x = 4294967295 - x from e] at this
 exact this
set_option maxRecDepth 100000
theorem More_any (x : Nat) (hx : x < 4294967296) (v : Value) (hs : List Hd) (ls : List (List UInt8)) (w : World) (hv : Sees2 w eHB eB v hs ls) (ht : Crc w) :
  Calls Tryz.prog 98 #[U4 x, v] w fun e w' => e = .returned (U4 (4294967295 - crcGo (4294967295 - x) ls.flatten)) ∧ w = w' := by
 obtain ⟨a, cap, hva, hc1, hc2, hnn⟩ := hv.1.shape
 subst hva
 unfold maxLen at hc2
 have hn1 := not_u32 x hx
 have HL := hid hv.2.1
 go_enter Tryz.func98, Tryz.ntmps98
 go_wp2_with fail
 go_loop [5, 14] (fun xv iv => ∃ k : Nat, k ≤ hs.length ∧ iv = N k ∧ xv = U4 (crcGo (4294967295 - x) (ls.take k).flatten)) (fun _ iv => hs.length - (intOf iv).toNat)
 case atStart => exact ⟨0, Nat.zero_le _, rfl, rfl⟩
 case round =>
  obtain ⟨k, hk, rfl, rfl⟩ := hrel
  clear hn1
  have hY : crcGo (4294967295 - x) (ls.take k).flatten < 4294967296 := crcGo_lt _ _ (by omega)
  by_cases hlt : k < hs.length
  · obtain ⟨b, off, cap', hv2, e0⟩ := hv.1.cell1 (fun (h : Hd) => h.v) rfl k hlt
    have hlt2 : k < ls.length := by have := HL.out; omega
    have hsee := hv.2.2 k hlt hlt2
    have HF : Hid (crcGo (4294967295 - x) (ls.take (k + 1)).flatten = crcGo (crcGo (4294967295 - x) (ls.take k).flatten) ls[k]) := by
     show _ = _; rw [flat_snoc ls k hlt2, crcGo_app]
    obtain ⟨a2, c2, hh, _⟩ := hsee.shape
    generalize hs[k] = h at *
    generalize ls[k] = p at *
    generalize crcGo (4294967295 - x) (ls.take k).flatten = Y at *
    obtain ⟨ha, hn2, hcc⟩ := h
    simp only [Hd.v, Value.slice.injEq] at hh
    obtain ⟨rfl, rfl, rfl⟩ := hh
    simp only [Hd.v] at e0 hsee
    cases hv2
    have i1 : (0 : Int) ≤ k := by omega
    have i2 : (k : Int) < hs.length := by omega
    have hpm := hsee.le
    unfold maxLen at hpm
    go_wp2_with fail
    go_loop [5, 20] (fun xv jv => ∃ j : Nat, j ≤ p.length ∧ jv = N j ∧ xv = U4 (crcGo Y (p.take j))) (fun _ jv => p.length - (intOf jv).toNat)
    case atStart => exact ⟨0, Nat.zero_le _, rfl, rfl⟩
    case round =>
     obtain ⟨j, hj, rfl, rfl⟩ := hrel
     have hZ : crcGo Y (p.take j) < 4294967296 := crcGo_lt _ _ hY
     by_cases hjl : j < p.length
     · obtain ⟨b2, off2, cap2, hv3, g0⟩ := hsee.cell1 (fun c => Fk.u8 c) rfl j hjl
       have HZ : Hid (crcGo Y (p.take (j + 1)) = byteU (crcGo Y (p.take j)) p[j].toNat) := crcGo_snoc Y p j hjl
       generalize p[j] = c at *
       generalize crcGo Y (p.take j) = z at *
       cases hv3
       have hcb := c.toNat_lt
       have k1 := xor_u32 z c.toNat hZ (by omega)
       have hz1 : z ^^^ c.toNat < 2 ^ 32 := Nat.xor_lt_two_pow hZ (by omega)
       have HB := hid (byte_nib z c.toNat)
       generalize z ^^^ c.toNat = z1 at *
       have k2 := and15_u32 z1 hz1
       have hi1 : z1 % 16 < 16 := by omega
       generalize z1 % 16 = i1 at *
       have t1 := ht i1 hi1
       have hT1 := tabU_lt i1 hi1
       have k3 : bits .xor .u32 ((z1 : Int) / 16) ((tabU i1 : Nat) : Int) = (((z1 / 16) ^^^ tabU i1 : Nat) : Int) := by
        rw [show (z1 : Int) / 16 = ((z1 / 16 : Nat) : Int) by omega]; exact xor_u32 (z1 / 16) (tabU i1) (by omega) hT1
       have hz2 : (z1 / 16) ^^^ tabU i1 < 2 ^ 32 := Nat.xor_lt_two_pow (by omega) hT1
       generalize (z1 / 16) ^^^ tabU i1 = z2 at *
       have k4 := and15_u32 z2 hz2
       have hi2 : z2 % 16 < 16 := by omega
       generalize z2 % 16 = i2 at *
       have t2 := ht i2 hi2
       have hT2 := tabU_lt i2 hi2
       have k5 : bits .xor .u32 ((z2 : Int) / 16) ((tabU i2 : Nat) : Int) = (((z2 / 16) ^^^ tabU i2 : Nat) : Int) := by
        rw [show (z2 : Int) / 16 = ((z2 / 16 : Nat) : Int) by omega]; exact xor_u32 (z2 / 16) (tabU i2) (by omega) hT2
       have HE : Hid (crcGo Y (p.take (j + 1)) = z2 / 16 ^^^ tabU i2) := by show _ = _; rw [HZ.out, HB.out]
       generalize (z2 / 16) ^^^ tabU i2 = z3 at *
       generalize tabU i1 = y1 at *
       generalize tabU i2 = y2 at *
       have l1 : (0 : Int) ≤ i1 := by omega
       have l2 : (i1 : Int) < 16 := by omega
       have l3 : (0 : Int) ≤ i2 := by omega
       have l4 : (i2 : Int) < 16 := by omega
       have l5 : (0 : Int) ≤ j := by omega
       have l6 : (j : Int) < p.length := by omega
       go_wp2_with fail
       go_round
       case rel => exact ⟨j + 1, by omega, by go_num, by rw [HE.out]⟩
       case measure => simp [intOf]; omega
     · obtain rfl : j = p.length := by omega
       have hnl : ¬ ((p.length : Int) < p.length) := by omega
       rw [List.take_length, ← HF.out]
       go_wp2_with fail
       go_round
       case rel => exact ⟨k + 1, by omega, by go_num, rfl⟩
       case measure => simp [intOf]; omega
  · obtain rfl : k = hs.length := by omega
    have hnl : ¬ ((hs.length : Int) < hs.length) := by omega
    rw [List.take_of_length_le (by have := HL.out; omega)] at hY ⊢
    have hn2 := not_u32 _ hY
    generalize hYe : crcGo (4294967295 - x) ls.flatten = Y at *
    have HY := hid hYe
    clear hYe
    go_wp2_with fail
    go_ret
    exact ⟨by rw [HY.out]; rfl, rfl⟩
set_option maxRecDepth 512
theorem one2 (w : World) (v : Value) (r : Hd) (p : List UInt8) (hr : v = r.v) (hv : See w eB v p) (cs : Array Value) (hcs : cs = #[v]) : Sees2 (w.alloc (.cells cs 31)) eHB eB (.slice (some ⟨w.heap.size, 0, none⟩) 1 1) [r] [p] := by
 subst hr hcs
 refine ⟨see_new eHB w [r] _ _ 1 rfl rfl (by simp [maxLen]), rfl, fun i h1 h2 => ?_⟩
 have : i = 0 := by simp at h1; exact h1
 subst this
 exact hv.fr ((Fr.refl w).alloc _)
set_option maxRecDepth 100000
theorem Sum_any (v : Value) (p : List UInt8) (w : World) (hv : See w eB v p) (ht : Crc w) :
  Calls Tryz.prog 61 #[v] w fun e w' => e = .returned (U4 (sumU p)) ∧ Fr w w' := by
 obtain ⟨a, cap, hva, _⟩ := hv.shape
 have h2 := one2 w v ⟨a, p.length, cap⟩ p hva hv #[v] rfl
 subst hva
 have HM := hid (More_any 0 (by omega) _ _ _ _ h2 (ht.fr ((Fr.refl w).alloc _)))
 have HE : Hid (4294967295 - crcGo (4294967295 - 0) [p].flatten = sumU p) := by show _ = _; unfold sumU; simp
 generalize 4294967295 - crcGo (4294967295 - 0) [p].flatten = Y at *
 clear h2
 go_enter Tryz.func61, Tryz.ntmps61
 go_wp2_with fail
 refine HM.out.mono ?_
 rintro e w1 ⟨rfl, rfl⟩
 go_wp2_with fail
 go_ret
 exact ⟨by rw [← HE.out]; rfl, (Fr.refl w).alloc _⟩
set_option maxRecDepth 512
def tailB (s : Nat) : List UInt8 := [UInt8.ofNat (s % 256), UInt8.ofNat (s / 256 % 256), UInt8.ofNat (s / 65536 % 256), UInt8.ofNat (s / 16777216 % 256)]
set_option maxRecDepth 100000
theorem tail_any (s : Nat) (hs : s < 4294967296) (w : World) :
  Calls Tryz.prog 60 #[U4 s] w fun e w' => ∃ v, e = .returned v ∧ Ow w' w.heap.size eB v (tailB s) ∧ Fr w w' := by
 have hc : ∀ W : World, Ow (W.alloc (.cells #[.int .u8 ((s : Int) % 256), .int .u8 ((s : Int) / 256 % 256), .int .u8 ((s : Int) / 65536 % 256), .int .u8 ((s : Int) / 16777216)] 5)) W.heap.size eB (.slice (some ⟨W.heap.size, 0, none⟩) 4 4) (tailB s) := by
  intro W
  refine own_lit eB W _ (tailB s) 4 rfl (by simp [maxLen, tailB]) (Nat.le_refl _) ?_
  rw [show (s : Int) % 256 = ((s % 256 : Nat) : Int) by omega, show (s : Int) / 256 % 256 = ((s / 256 % 256 : Nat) : Int) by omega, show (s : Int) / 65536 % 256 = ((s / 65536 % 256 : Nat) : Int) by omega, show (s : Int) / 16777216 = ((s / 16777216 % 256 : Nat) : Int) by omega]
  rw [byte_val _ (by omega), byte_val _ (by omega), byte_val _ (by omega), byte_val _ (by omega)]
  rfl
 have HC := hid (hc w)
 clear hc
 go_enter Tryz.func60, Tryz.ntmps60
 go_wp2_with fail
 go_ret
 exact ⟨_, rfl, HC.out, (Fr.refl w).alloc _⟩
theorem Put_any (v : Value) (p : List UInt8) (w : World) (hv : See w eB v p) (hn : p.length ≤ 1000000) (ht : Crc w) :
  Calls Tryz.prog 29 #[v] w fun e w' => ∃ v', e = .returned v' ∧ Ow w' w.heap.size eB v' (putB p) ∧ Fr w w' := by
 obtain ⟨a, cap, hva, _⟩ := hv.shape
 have HCl := hid (fun W (h : See W eB v p) => BClone_any v p W h hn)
 have HS := hid (fun W (h : See W eB v p) (h2 : Crc W) => Sum_any v p W h h2)
 have HT := hid (tail_any (sumU p) (sumU_lt p))
 have HE : Hid (putB p = p ++ tailB (sumU p)) := rfl
 generalize sumU p = s at *
 subst hva
 go_enter Tryz.func29, Tryz.ntmps29
 go_wp2_with fail
 refine (HCl.out _ hv).mono ?_
 rintro e w1 ⟨v1, rfl, hown1, hf1⟩
 go_wp2_with fail
 refine (HS.out _ (hv.fr hf1) (ht.fr hf1)).mono ?_
 rintro e w2 ⟨rfl, hf2⟩
 go_wp2_with fail
 refine (HT.out _).mono ?_
 rintro e w3 ⟨v3, rfl, hown3, hf3⟩
 have hown1' := hown1.fr (hf2.trans hf3)
 have hf03 := (hf1.trans hf2).trans hf3
 have hc1 : p.length + (tailB s).length ≤ 2147483648 := by show _ + 4 ≤ _; omega
 go_wp2_with (at_builtin; refine wpList_app eB rfl (.tmp 4) (.tmp 7) 31 rfl Tryz.underlying31 w.heap.size rfl hown1' _ _ rfl hown3.see hc1 hf03.size ?_)
 intro v4 w4 hap
 go_wp2_with fail
 go_ret
 exact ⟨_, rfl, by rw [HE.out]; exact hap.own, hap.below hown1' hf03 (Nat.le_refl _) hf03.size⟩
theorem RBit_any (x : Nat) (hx : x < 4294967296) (w : World) :
  Calls Tryz.prog 164 #[U4 x] w fun e w' => e = .returned (U4 (bitU x)) ∧ w = w' := by
 by_cases h : x % 2 = 1
 · have HE : Hid (bitU x = (x / 2) ^^^ 3988292384) := by show _ = _; unfold bitU; rw [if_pos h]
   have h1 : (x : Int) % 2 = 1 := by omega
   have h2 : bits .xor .u32 ((x : Int) / 2) 3988292384 = (((x / 2) ^^^ 3988292384 : Nat) : Int) := by
    rw [show (x : Int) / 2 = ((x / 2 : Nat) : Int) by omega]; exact xor_u32 (x / 2) 3988292384 (by omega) (by omega)
   go_enter Tryz.func164, Tryz.ntmps164
   go_wp2_with fail
   go_ret
   exact ⟨by rw [HE.out]; rfl, rfl⟩
 · have HE : Hid (bitU x = x / 2) := by show _ = _; unfold bitU; rw [if_neg h]
   have h1 : (x : Int) % 2 = 0 := by omega
   go_enter Tryz.func164, Tryz.ntmps164
   go_wp2_with fail
   go_ret
   exact ⟨by rw [HE.out]; go_num, rfl⟩
set_option maxRecDepth 512
def bitI : Nat → Nat → Nat
 | 0, x => x
 | n + 1, x => bitU (bitI n x)
theorem bitI_lt (n x : Nat) (h : x < 4294967296) : bitI n x < 4294967296 := by
 induction n with
 | zero => exact h
 | succ n ih => exact bitU_lt _ ih
set_option maxRecDepth 100000
theorem RMore_any (x : Nat) (hx : x < 4294967296) (v : Value) (p : List UInt8) (w : World) (hv : See w eB v p) :
  Calls Tryz.prog 137 #[U4 x, v] w fun e w' => e = .returned (U4 (4294967295 - crcGo (4294967295 - x) p)) ∧ w = w' := by
 obtain ⟨a, cap, hva, hc1, hc2, hnn⟩ := hv.shape
 subst hva
 unfold maxLen at hc2
 have hw1 : (4294967295 : Int) - x = ((4294967295 - x : Nat) : Int) := by omega
 have HW1 := hid hw1
 clear hw1
 go_enter Tryz.func137, Tryz.ntmps137
 go_wp2_with fail
 go_loop [5, 6] (fun xv iv => ∃ k : Nat, k ≤ p.length ∧ iv = N k ∧ xv = U4 (crcGo (4294967295 - x) (p.take k))) (fun _ iv => p.length - (intOf iv).toNat)
 case atStart => exact ⟨0, Nat.zero_le _, rfl, by first | rfl | (rw [HW1.out]; rfl)⟩
 case round =>
  obtain ⟨k, hk, rfl, rfl⟩ := hrel
  have hY : crcGo (4294967295 - x) (p.take k) < 4294967296 := crcGo_lt _ _ (by omega)
  by_cases hlt : k < p.length
  · obtain ⟨b, off, cap', hv2, e0⟩ := hv.cell1 (fun c => Fk.u8 c) rfl k hlt
    have HZ : Hid (crcGo (4294967295 - x) (p.take (k + 1)) = bitI 8 (crcGo (4294967295 - x) (p.take k) ^^^ p[k].toNat)) := crcGo_snoc _ p k hlt
    generalize p[k] = c at *
    generalize crcGo (4294967295 - x) (p.take k) = z at *
    cases hv2
    have hcb := c.toNat_lt
    have k1 := xor_u32 z c.toNat hY (by omega)
    have hz1 : z ^^^ c.toNat < 2 ^ 32 := Nat.xor_lt_two_pow hY (by omega)
    generalize z ^^^ c.toNat = z1 at *
    have i1 : (0 : Int) ≤ k := by omega
    have i2 : (k : Int) < p.length := by omega
    go_wp2_with fail
    go_loop [5, 7] (fun xv jv => ∃ j : Nat, j ≤ 8 ∧ jv = N j ∧ xv = U4 (bitI j z1)) (fun _ jv => 8 - (intOf jv).toNat)
    case atStart => exact ⟨0, by omega, rfl, rfl⟩
    case round =>
     obtain ⟨j, hj, rfl, rfl⟩ := hrel
     by_cases hj8 : j < 8
     · have hj8' : (j : Int) < 8 := by omega
       have HB := hid (RBit_any (bitI j z1) (bitI_lt j z1 hz1))
       go_wp2_with fail
       refine (HB.out _).mono ?_
       rintro e w1 ⟨rfl, rfl⟩
       go_wp2_with fail
       go_round
       case rel => exact ⟨j + 1, by omega, by go_num, rfl⟩
       case measure => simp [intOf]; omega
     · obtain rfl : j = 8 := by omega
       rw [← HZ.out]
       go_wp2_with fail
       go_round
       case rel => exact ⟨k + 1, by omega, by go_num, rfl⟩
       case measure => simp [intOf]; omega
  · obtain rfl : k = p.length := by omega
    have hnl : ¬ ((p.length : Int) < p.length) := by omega
    rw [List.take_length] at hY ⊢
    generalize hYe : crcGo (4294967295 - x) p = Y at *
    have HY := hid hYe
    clear hYe
    have HW2 : Hid ((4294967295 : Int) - Y = ((4294967295 - Y : Nat) : Int)) := by show _ = _; omega
    go_wp2_with fail
    go_ret
    exact ⟨by rw [HY.out]; first | rfl | (show Ending.returned (.int .u32 _) = _; rw [HW2.out]), rfl⟩
theorem RSum_any (v : Value) (p : List UInt8) (w : World) (hv : See w eB v p) :
  Calls Tryz.prog 93 #[v] w fun e w' => e = .returned (U4 (sumU p)) ∧ w = w' := by
 obtain ⟨a, cap, hva, _⟩ := hv.shape
 have HM := hid (RMore_any 0 (by omega) v p w hv)
 have HE : Hid (4294967295 - crcGo (4294967295 - 0) p = sumU p) := rfl
 generalize 4294967295 - crcGo (4294967295 - 0) p = Y at *
 subst hva
 go_enter Tryz.func93, Tryz.ntmps93
 go_wp2_with fail
 refine HM.out.mono ?_
 rintro e w1 ⟨rfl, rfl⟩
 go_wp2_with fail
 go_ret
 exact ⟨by rw [← HE.out]; rfl, rfl⟩
set_option maxRecDepth 512
theorem tail_fix (s : Nat) : tailB s = fixB 4 s := by
 simp only [tailB, fixB, Nat.div_div_eq_div_mul]
set_option maxRecDepth 100000
theorem RPut_any (v : Value) (p : List UInt8) (w : World) (hv : See w eB v p) (hn : p.length ≤ 1000000) :
  Calls Tryz.prog 52 #[v] w fun e w' => ∃ v', e = .returned v' ∧ Ow w' w.heap.size eB v' (putB p) ∧ Fr w w' := by
 obtain ⟨a, cap, hva, _⟩ := hv.shape
 have HS := hid (RSum_any v p w hv)
 have HE : Hid (putB p = p ++ fixB 4 (sumU p)) := by show _ = _; rw [← tail_fix]; rfl
 have hslt := sumU_lt p
 generalize sumU p = s at *
 subst hva
 have hal := own_lit eB w #[] [] 0 rfl (by simp [maxLen]) (Nat.le_refl _)
 have hsl := hv.fr ((Fr.refl w).alloc (.cells #[] 5))
 have hc0 : ([] : List UInt8).length + p.length ≤ 2147483648 := by simp; omega
 go_enter Tryz.func52, Tryz.ntmps52
 go_wp2_with fail
 refine HS.out.mono ?_
 rintro e w1 ⟨rfl, rfl⟩
 go_wp2_with (at_builtin; refine wpList_app eB rfl (.tmp 8) (.tmp 9) 31 rfl Tryz.underlying31 w.heap.size rfl hal _ _ rfl hsl hc0 (by simp) ?_)
 intro v2 w2 hap
 have hf2 : Fr w w2 := hap.below hal ((Fr.refl w).alloc _) (Nat.le_refl _) (by simp)
 have own2 : Ow w2 w.heap.size eB v2 p := hap.own
 clear hap hal hsl
 go_wp2_with fail
 go_loopw [3, 4, 5] (fun sv ov iv wr => ∃ (i y : Nat) (o : List UInt8), i ≤ 4 ∧ iv = N i ∧ sv = U4 y ∧ y < 4294967296 ∧ Ow wr w.heap.size eB ov o ∧ o.length = p.length + i ∧ Hid (putB p = o ++ fixB (4 - i) y) ∧ Fr w wr) (fun _ _ iv _ => 4 - (intOf iv).toNat)
 case atStart => exact ⟨0, s, p, by omega, rfl, rfl, hslt, own2, rfl, HE.out, hf2⟩
 case round =>
  obtain ⟨i, y, o, hi, rfl, rfl, hy, hown, hol, HR, hf⟩ := hrel
  clear own2 hf2
  by_cases hlt : i < 4
  · have hlt' : (i : Int) < 4 := by omega
    have e1 : 4 - i = (4 - (i + 1)) + 1 := by omega
    have HE2 : Hid (putB p = o ++ [UInt8.ofNat (y % 256)] ++ fixB (4 - (i + 1)) (y / 256)) := by show _ = _; rw [HR.out, e1, fixB]; simp
    have HB : Hid ((#[Value.int .u8 ((y : Int) % 256)] : Array Value).toList = eB.cells [UInt8.ofNat (y % 256)]) := by
     show _ = _
     have := byte_cell (y % 256) (by omega)
     rw [show ((y % 256 : Nat) : Int) = (y : Int) % 256 by omega] at this
     exact this
    have hc1 : o.length + 1 ≤ 2147483648 := by omega
    clear e1
    generalize UInt8.ofNat (y % 256) = c at *
    go_wp2_with (at_builtin; refine wpList_app1 eB rfl (.tmp 15) (.tmp 19) 31 rfl Tryz.underlying31 w.heap.size rfl hown [c] _ _ _ HB.out rfl rfl hc1 hf.size ?_)
    intro v' w4 hap
    go_wp2_with fail
    go_roundw
    case rel => exact ⟨i + 1, y / 256, o ++ [c], by omega, by go_num, by go_num, by omega, hap.own, by rw [List.length_append, hol]; rfl, HE2, hap.below hown hf (Nat.le_refl _) hf.size⟩
    case measure => simp [intOf]; omega
  · obtain rfl : i = 4 := by omega
    have HE2 : Hid (putB p = o) := by show _ = _; rw [HR.out, Nat.sub_self, fixB, List.append_nil]
    go_wp2_with fail
    go_ret
    exact ⟨_, rfl, by rw [HE2.out]; exact hown, hf⟩
set_option maxRecDepth 512
set_option maxRecDepth 100000
theorem BConcat_big (v : Value) (hs : List Hd) (ls : List (List UInt8)) (w : World) (hv : Sees2 w eHB eB v hs ls) (hn : ls.flatten.length ≤ 100000000) :
  Calls Tryz.prog 69 #[v] w fun e w' => ∃ v, e = .returned v ∧ Ow w' w.heap.size eB v ls.flatten ∧ Fr w w' := by
 obtain ⟨a, cap, hva, hc1, hc2, hnn⟩ := hv.1.shape
 unfold maxLen at hc2
 subst hva
 have hlen := hv.2.1
 have HL := hid hlen
 have HN := hid hnn
 clear hlen hnn
 have hll : ls.length ≤ 9223372036854775807 := by have := HL.out; omega
 go_enter Tryz.func69, Tryz.ntmps69
 go_wp2_with fail
 go_loop [3, 11] (fun nv iv => ∃ k n : Nat, k ≤ hs.length ∧ iv = N k ∧ nv = N n ∧ Hid (n = (ls.take k).flatten.length)) (fun _ iv => hs.length - (intOf iv).toNat)
 case atStart => exact ⟨0, 0, Nat.zero_le _, rfl, rfl, rfl⟩
 case round =>
  obtain ⟨k, n, hk, rfl, rfl, HK⟩ := hrel
  have hnl : n ≤ 100000000 := by have h1 := flat_take_le ls k; have := HK.out; omega
  by_cases hlt : k < hs.length
  · obtain ⟨b, off, cap', hv2, e0⟩ := hv.1.cell1 (fun (h : Hd) => h.v) rfl k hlt
    have hlt2 : k < ls.length := by have := HL.out; omega
    have hsee := hv.2.2 k hlt hlt2
    have HK2 : Hid (n + ls[k].length = (ls.take (k + 1)).flatten.length) := by show _ = _; rw [flat_snoc ls k hlt2, List.length_append, ← HK.out]
    have hl2 := flat_take_le ls (k + 1)
    have hl3 : n + ls[k].length ≤ 100000000 := by have := HK2.out; omega
    obtain ⟨a2, c2, hh, _⟩ := hsee.shape
    generalize hs[k] = h at *
    obtain ⟨ha, hn2, hcc⟩ := h
    simp only [Hd.v, Value.slice.injEq] at hh
    obtain ⟨rfl, hnn, rfl⟩ := hh
    rw [← hnn] at HK2 hl3
    clear hnn hl2
    simp only [Hd.v] at e0
    cases hv2
    have i1 : (0 : Int) ≤ k := by omega
    have i2 : (k : Int) < hs.length := by omega
    have hw1 : IntKind.i64.wrap ((n : Int) + hn2) = (n : Int) + hn2 := IntWalk.i64_in _ (by omega)
    have hge : ¬ (n : Int) + hn2 < 0 := by omega
    go_wp2_with fail
    go_round
    case rel => exact ⟨k + 1, n + hn2, by omega, by go_num, by go_num, HK2⟩
    case measure => simp [intOf]; omega
  · have HK2 : Hid (n = ls.flatten.length) := by have := HK.out; rw [List.take_of_length_le (by have := HL.out; omega)] at this; exact this
    clear HK
    go_wp2_with fail
    refine (BGrow_any n _ (by omega)).mono ?_
    rintro e w1 ⟨v1, rfl, hown1, hf1⟩
    go_wp2_with fail
    go_loopw [6, 27] (fun ov iv wr => ∃ k : Nat, k ≤ hs.length ∧ iv = N k ∧ Ow wr w.heap.size eB ov (ls.take k).flatten ∧ Fr w wr) (fun _ iv _ => hs.length - (intOf iv).toNat)
    case atStart => exact ⟨0, Nat.zero_le _, rfl, hown1, hf1⟩
    case round =>
     clear hown1
     obtain ⟨k, hk2, rfl, hown, hf⟩ := hrel
     by_cases hlt : k < hs.length
     · have hv2 := hv.fr hf
       obtain ⟨b, off, cap', hv3, e0⟩ := hv2.1.cell1 (fun (h : Hd) => h.v) rfl k hlt
       have hlt2 : k < ls.length := by have := HL.out; omega
       have hsee := hv2.2.2 k hlt hlt2
       have HF : Hid ((ls.take (k + 1)).flatten = (ls.take k).flatten ++ ls[k]) := flat_snoc ls k hlt2
       have hl2 := flat_take_le ls (k + 1)
       rw [HF.out, List.length_append] at hl2
       generalize hs[k] = h at *
       cases hv3
       have i1 : (0 : Int) ≤ k := by omega
       have i2 : (k : Int) < hs.length := by omega
       go_wp2_with (at_builtin; refine wpList_app eB rfl (.tmp 31) (.tmp 32) 31 rfl Tryz.underlying31 w.heap.size rfl hown _ _ rfl hsee ?c1 hf.size ?_)
       case c1 => omega
       intro v' w4 hap
       go_wp2_with fail
       go_roundw
       case rel => exact ⟨k + 1, by omega, by go_num, by rw [HF.out]; exact hap.own, hap.below hown hf (Nat.le_refl _) hf.size⟩
       case measure => simp [intOf]; omega
     · rw [List.take_of_length_le (by have := HL.out; omega)] at hown
       go_wp2_with fail
       go_ret
       exact ⟨_, rfl, hown, hf⟩
set_option maxRecDepth 512
theorem All_big (v : Value) (hs : List Hd) (ls : List (List UInt8)) (w : World) (hv : Sees2 w eHB eB v hs ls) (hn : ls.flatten.length ≤ 100000000) :
  Calls Tryz.prog 35 #[v] w fun e w' => ∃ v, e = .returned v ∧ Ow w' w.heap.size eB v ls.flatten ∧ Fr w w' := by
 obtain ⟨a, cap, hva, _⟩ := hv.1.shape
 have HC := hid (BConcat_big v hs ls w hv hn)
 subst hva
 go_enter Tryz.func35, Tryz.ntmps35
 go_wp2_with fail
 refine HC.out.mono ?_
 rintro e w1 ⟨v1, rfl, hown, hf⟩
 go_wp2_with fail
 go_ret
 exact ⟨_, rfl, hown, hf⟩
theorem all3_big (va vb vc : Value) (la lb lc : List UInt8) (W : World) (ha : See W eB va la) (hb : See W eB vb lb) (hc : See W eB vc lc) (hn : la.length + lb.length + lc.length ≤ 100000000) :
  Calls Tryz.prog 35 #[.slice (some ⟨W.heap.size, 0, none⟩) 3 3] (W.alloc (.cells #[va, vb, vc] 31)) fun e w' => ∃ v, e = .returned v ∧ Ow w' W.heap.size eB v (la ++ lb ++ lc) ∧ Fr W w' := by
 obtain ⟨pa, rfl⟩ := hd_of ha
 obtain ⟨pb, rfl⟩ := hd_of hb
 obtain ⟨pc, rfl⟩ := hd_of hc
 have h2 := lit_sees2 W #[pa.v, pb.v, pc.v] 31 [pa, pb, pc] [la, lb, lc] 3 rfl rfl rfl (by simp) (fun i h1 h2 => by
  match i, h1 with
  | 0, _ => exact ha
  | 1, _ => exact hb
  | 2, _ => exact hc)
 refine (All_big _ _ _ _ h2 (by simp; omega)).mono ?_
 rintro e w' ⟨v, rfl, ho, hf⟩
 exact ⟨v, rfl, by simpa using ho.rebase (b := W.heap.size) (by simp), ((Fr.refl W).alloc _).trans hf⟩
end Go.Proofs.YtmfbmjplmaimbaaGreatDoor
