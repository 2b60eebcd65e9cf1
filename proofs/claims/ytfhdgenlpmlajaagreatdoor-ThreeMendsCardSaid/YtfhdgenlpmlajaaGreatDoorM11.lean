/- Parts of the proof of ThreeMends: N2 C1 C3. -/
import Derived.Test.YtfhdgenlpmlajaaGreatDoorM04
import Derived.Test.YtfhdgenlpmlajaaGreatDoorM09
import Derived.Test.YtfhdgenlpmlajaaGreatDoorM06
import Derived.Test.YtfhdgenlpmlajaaGreatDoorM10
set_option linter.unusedVariables false
set_option linter.unusedSectionVars false
set_option linter.unusedSimpArgs false
set_option maxHeartbeats 8000000
namespace Go.Proofs.YtfhdgenlpmlajaaGreatDoor
open Go.RowKit Go.Fk
theorem or_all : allB 256 (fun y => (y ||| 128) == 128 + y % 128) = true := by decide +kernel
theorem or_high (x : Nat) : bits .or .u8 ((x : Int) % 256) 128 = ((UInt8.ofNat (128 + x % 128)).toNat : Int) := by
 have h : (x % 256) ||| 128 = 128 + (x % 256) % 128 := beq_iff_eq.1 (allB_out 256 _ or_all (x % 256) (by omega))
 rw [show (x : Int) % 256 = ((x % 256 : Nat) : Int) by omega, show (128 : Int) = ((128 : Nat) : Int) from rfl, or_u8 (x % 256) 128 (by omega) (by omega), h, UInt8.toNat_ofNat']
 omega
theorem byte_cell (x : Nat) (h : x < 256) : (#[Value.int .u8 (x : Int)] : Array Value).toList = eB.cells [UInt8.ofNat x] := by
 have e : (x : Int) = ((UInt8.ofNat x).toNat : Int) := by rw [UInt8.toNat_ofNat']; omega
 rw [e]; rfl
set_option maxRecDepth 100000
theorem Num_any (x : Nat) (hx : x < 18446744073709551616) (w : World) :
  Calls Tryz.prog 85 #[.int .u64 (x : Int)] w fun e w' => ∃ v, e = .returned v ∧ Ow w' w.heap.size eB v (numB x) ∧ Fr w w' := by
 have hlen := numB_le x hx
 generalize hR : numB x = R at *
 have HL := hid hlen
 go_enter Tryz.func85, Tryz.ntmps85
 go_wp2_with fail
 go_loopw [0, 3] (fun xv ov wr => ∃ (y : Nat) (o : List UInt8), xv = .int .u64 (y : Int) ∧ y < 18446744073709551616 ∧ Ow wr w.heap.size eB ov o ∧ Hid (R = o ++ numB y) ∧ Fr w wr) (fun xv _ _ => (intOf xv).toNat)
 case atStart => exact ⟨x, [], rfl, hx, Ow.nil, by show _ = _; rw [hR]; rfl, Fr.refl w⟩
 case round =>
  obtain ⟨y, o, rfl, hy, hown, HR, hf⟩ := hrel
  have hol : o.length ≤ 10 := by
   have h1 := HL.out
   rw [HR.out, List.length_append] at h1
   omega
  have hc1 : o.length + 1 ≤ 2147483648 := by omega
  clear hlen hR
  by_cases hb : y < 128
  · have HE : Hid (R = o ++ [UInt8.ofNat y]) := by show _ = _; rw [HR.out, numB_one y hb]
    have HB := hid (byte_cell y (by omega))
    have hb' : ¬ (128 : Int) ≤ y := by omega
    generalize UInt8.ofNat y = c at *
    go_wp2_with (at_builtin; refine wpList_app1 eB rfl (.tmp 14) (.tmp 17) 22 rfl Tryz.underlying22 w.heap.size rfl hown [c] _ _ _ HB.out rfl rfl hc1 hf.size ?_)
    intro v' w4 hap
    go_wp2_with fail
    go_ret
    exact ⟨_, rfl, by rw [HE.out]; exact hap.own, hap.below hown hf (Nat.le_refl _) hf.size⟩
  · have HE : Hid (R = o ++ [UInt8.ofNat (128 + y % 128)] ++ numB (y / 128)) := by show _ = _; rw [HR.out, numB_more y hb]; simp
    have hor := or_high y
    have hb' : (128 : Int) ≤ y := by omega
    generalize UInt8.ofNat (128 + y % 128) = c at *
    go_wp2_with (at_builtin; refine wpList_app1 eB rfl (.tmp 6) (.tmp 10) 22 rfl Tryz.underlying22 w.heap.size rfl hown [c] _ _ _ rfl rfl rfl hc1 hf.size ?_)
    intro v' w4 hap
    go_wp2_with fail
    go_roundw
    case rel => exact ⟨y / 128, o ++ [c], by go_num, by omega, hap.own, HE, hap.below hown hf (Nat.le_refl _) hf.size⟩
    case measure => simp [intOf]; omega
set_option maxRecDepth 512
theorem All_any (v : Value) (hs : List Hd) (ls : List (List UInt8)) (w : World) (hv : Sees2 w eHB eB v hs ls) (hn : ls.flatten.length ≤ 1000000) :
  Calls Tryz.prog 33 #[v] w fun e w' => ∃ v, e = .returned v ∧ Ow w' w.heap.size eB v ls.flatten ∧ Fr w w' := by
 obtain ⟨a, cap, hva, _⟩ := hv.1.shape
 have HC := hid (BConcat_any v hs ls w hv hn)
 subst hva
 go_enter Tryz.func33, Tryz.ntmps33
 go_wp2_with fail
 refine HC.out.mono ?_
 rintro e w1 ⟨v1, rfl, hown, hf⟩
 go_wp2_with fail
 go_ret
 exact ⟨_, rfl, hown, hf⟩
set_option maxRecDepth 100000
theorem RFixed_any (x n : Nat) (hn : 1 ≤ n) (hn8 : n ≤ 8) (hx : x < 256 ^ n) (hx64 : x < 18446744073709551616) (w : World) :
  Calls Tryz.prog 77 #[.int .u64 (x : Int), N n] w fun e w' => ∃ v, e = .returned (.tuple #[v, .int .i64 0]) ∧ Ow w' w.heap.size eB v (fixB n x) ∧ Fr w w' := by
 have h1 : ¬ (n : Int) < 1 := by omega
 have h2 : ¬ (8 : Int) < n := by omega
 generalize hR : fixB n x = R
 have HL : Hid (R.length = n) := by show _ = _; rw [← hR, fixB_len]
 have HX := hid hx
 clear hx
 go_enter Tryz.func77, Tryz.ntmps77
 go_wp2_with fail
 go_loopw [0, 6, 7] (fun xv ov iv wr => ∃ (i y : Nat) (o : List UInt8), i ≤ n ∧ iv = N i ∧ xv = .int .u64 (y : Int) ∧ y < 18446744073709551616 ∧ Hid (y < 256 ^ (n - i)) ∧ Ow wr w.heap.size eB ov o ∧ o.length = i ∧ Hid (R = o ++ fixB (n - i) y) ∧ Fr w wr) (fun _ _ iv _ => n - (intOf iv).toNat)
 case atStart => exact ⟨0, x, [], Nat.zero_le _, rfl, rfl, hx64, HX.out, Ow.nil, rfl, by show _ = _; rw [← hR]; rfl, Fr.refl w⟩
 case round =>
  obtain ⟨i, y, o, hi, rfl, rfl, hy, HY, hown, hol, HR, hf⟩ := hrel
  clear hR
  by_cases hlt : i < n
  · have hlt' : (i : Int) < n := by omega
    have e1 : n - i = (n - (i + 1)) + 1 := by omega
    have HE : Hid (R = o ++ [UInt8.ofNat (y % 256)] ++ fixB (n - (i + 1)) (y / 256)) := by show _ = _; rw [HR.out, e1, fixB]; simp
    have HY2 : Hid (y / 256 < 256 ^ (n - (i + 1))) := by
     have := HY.out
     rw [e1, Nat.pow_succ] at this
     exact Nat.div_lt_of_lt_mul (by rw [Nat.mul_comm]; exact this)
    have HB : Hid ((#[Value.int .u8 ((y : Int) % 256)] : Array Value).toList = eB.cells [UInt8.ofNat (y % 256)]) := by
     show _ = _
     have := byte_cell (y % 256) (by omega)
     rw [show ((y % 256 : Nat) : Int) = (y : Int) % 256 by omega] at this
     exact this
    have hc1 : o.length + 1 ≤ 2147483648 := by omega
    clear e1
    generalize UInt8.ofNat (y % 256) = c at *
    go_wp2_with (at_builtin; refine wpList_app1 eB rfl (.tmp 19) (.tmp 23) 22 rfl Tryz.underlying22 w.heap.size rfl hown [c] _ _ _ HB.out rfl rfl hc1 hf.size ?_)
    intro v' w4 hap
    go_wp2_with fail
    go_roundw
    case rel => exact ⟨i + 1, y / 256, o ++ [c], by omega, by go_num, by go_num, by omega, HY2, hap.own, by rw [List.length_append, hol]; rfl, HE, hap.below hown hf (Nat.le_refl _) hf.size⟩
    case measure => simp [intOf]; omega
  · obtain rfl : i = n := by omega
    have hy0 : y = 0 := by have := HY.out; rw [Nat.sub_self] at this; omega
    subst hy0
    have HE : Hid (R = o) := by show _ = _; rw [HR.out, Nat.sub_self, fixB, List.append_nil]
    obtain ⟨a, c, ho⟩ := hown.shape'
    subst ho
    have hnl : ¬ ((o.length : Int) < o.length) := by omega
    rw [hol] at hown ⊢
    have hnl : ¬ ((i : Int) < i) := by omega
    go_wp2_with fail
    exact bodyPost_ret (v := .tuple #[.slice a i c, .int .i64 0]) (by simp [results, Tryz.results77, go_sem, *]) rfl ⟨_, rfl, by rw [HE.out]; exact hown, hf⟩
set_option maxRecDepth 512
theorem shr256 (x i : Nat) : ((x : Int) / 2 ^ (8 * i)) = ((x / 256 ^ i : Nat) : Int) := by
 rw [show (256 : Nat) ^ i = 2 ^ (8 * i) by rw [Nat.pow_mul]]
 simp
set_option maxRecDepth 100000
theorem Fixed_any (x n : Nat) (hn : 1 ≤ n) (hn8 : n ≤ 7) (hx : x < 256 ^ n) (hx64 : x < 18446744073709551616) (w : World) :
  Calls Tryz.prog 54 #[.int .u64 (x : Int), N n] w fun e w' => ∃ v, e = .returned (.tuple #[v, .int .i64 0]) ∧ Ow w' w.heap.size eB v (fixB n x) ∧ Fr w w' := by
 have h1 : ¬ (n : Int) < 1 := by omega
 have h2 : ¬ (8 : Int) < n := by omega
 have h3 : (n : Int) < 8 := by omega
 have h4 : (x : Int) / 2 ^ (8 * n) = 0 := by rw [shr256, Nat.div_eq_of_lt hx]; rfl
 have hmk := made_run eB rfl rfl 22 Tryz.underlying22 .i64 .i64 n (by omega)
 have hmo : ∀ W : World, Ow (W.alloc (.cells (madeCells #[eB.z] n) eB.e)) W.heap.size eB (.slice (some ⟨W.heap.size, 0, none⟩) n n) (List.replicate n 0) := fun W => made_own eB rfl rfl n (by omega) W (Nat.le_refl _)
 generalize hR : fixB n x = R
 have HL : Hid (R.length = n) := by show _ = _; rw [← hR, fixB_len]
 have HA : Hid (∀ i (h : i < n) (h2 : i < R.length), R[i] = UInt8.ofNat (x / 256 ^ i % 256)) := by
  intro i h h2
  subst hR
  exact fixB_at n x i h
 have HMO := hid hmo
 clear hx hR hmo
 go_enter Tryz.func54, Tryz.ntmps54
 go_wp2_with fail
 have hown0 := HMO.out w
 have hf0 : Fr w (w.alloc (.cells (madeCells #[eB.z] n) eB.e)) := (Fr.refl w).alloc _
 generalize w.alloc (.cells (madeCells #[eB.z] n) eB.e) = w0 at *
 generalize hg : w.heap.size = g at *
 clear h1 h2 h3 h4 hmk
 go_loopw [29] (fun iv wr => ∃ i : Nat, i ≤ n ∧ iv = N i ∧ Ow wr g eB (.slice (some ⟨g, 0, none⟩) n n) (R.take i ++ List.replicate (n - i) 0) ∧ Below g w wr) (fun iv _ => n - (intOf iv).toNat)
 case atStart => exact ⟨0, Nat.zero_le _, rfl, hown0, by rw [← hg]; exact hf0⟩
 case round =>
  obtain ⟨i, hi, rfl, hown, hf⟩ := hrel
  clear hown0 hf0
  by_cases hlt : i < n
  · have hlt' : (i : Int) < n := by omega
    have hi0 : (0 : Int) ≤ i := by omega
    have hll : (R.take i ++ List.replicate (n - i) (0 : UInt8)).length = n := fill_len R 0 n i HL.out hi
    obtain ⟨c0, c1⟩ := hown.cellAt Fk.u8 rfl i (by rw [hll]; exact hlt)
    have HR : Hid ((R.take i ++ List.replicate (n - i) (0 : UInt8)).set i (UInt8.ofNat (x / 256 ^ i % 256)) = R.take (i + 1) ++ List.replicate (n - (i + 1)) 0) := by
     exact fill_set R 0 n i HL.out hlt _ (HA.out i hlt (by have := HL.out; omega))
    have hset := hown.set Fk.u8 rfl i (by rw [hll]; exact hlt) (UInt8.ofNat (x / 256 ^ i % 256)) (.int .u8 ((x / 256 ^ i % 256 : Nat) : Int)) (by show Value.int .u8 _ = _; rw [UInt8.toNat_ofNat']; congr 1; omega)
    rw [HR.out] at hset
    have hx8 : ((x : Int) / 2 ^ (8 * i)) % 256 = ((x / 256 ^ i % 256 : Nat) : Int) := by rw [shr256]; omega
    have hfs := set_below hf (Nat.le_refl g) (by rw [← hg]; exact (Below.size hf)) (i := i) (u := .int .u8 ((x / 256 ^ i % 256 : Nat) : Int))
    go_wp2_with fail
    go_roundw
    case rel => exact ⟨i + 1, by omega, by go_num, hset, hfs⟩
    case measure => simp [intOf]; omega
  · obtain rfl : i = n := by omega
    have hnl : ¬ ((i : Int) < i) := by omega
    rw [Nat.sub_self, List.replicate_zero, List.append_nil, List.take_of_length_le (by have := HL.out; omega)] at hown
    go_wp2_with fail
    exact bodyPost_ret (v := .tuple #[.slice (some ⟨g, 0, none⟩) i i, .int .i64 0]) (by simp [results, Tryz.results54, go_sem, *]) rfl ⟨_, rfl, hown, by rw [← hg] at hf; exact hf⟩
set_option maxRecDepth 512
def Crc (w : World) : Prop := ∀ i, i < 16 → w.cell? ⟨0, i, none⟩ = some (.int .u32 ((tabU i : Nat) : Int))
theorem Crc.fr {w w' : World} (h : Crc w) (hf : Fr w w') : Crc w' := fun i hi => hf.cell (h i hi)
abbrev U4 (n : Nat) : Value := .int .u32 (n : Int)
theorem and15_u32 (x : Nat) (h : x < 4294967296) : bits .and .u32 (x : Int) 15 = ((x % 16 : Nat) : Int) := by
 have := and_u32 x 15 h (by omega)
 have e : x &&& 15 = x % 16 := Nat.and_two_pow_sub_one_eq_mod x 4
 rw [e] at this
 exact this
theorem not_u32 (x : Nat) (h : x < 4294967296) : bits .xor .u32 IntKind.u32.max (x : Int) = ((4294967295 - x : Nat) : Int) := by
 have e := xor_ones 32 x h
 rw [Nat.xor_comm] at e
 have := xor_u32 4294967295 x (by omega) h
 rw [show (4294967295 : Nat) ^^^ x = 4294967295 - x from e] at this
 exact this
set_option maxRecDepth 100000
theorem More_any (x : Nat) (hx : x < 4294967296) (v : Value) (hs : List Hd) (ls : List (List UInt8)) (w : World) (hv : Sees2 w eHB eB v hs ls) (ht : Crc w) :
    Calls Tryz.prog 103 #[U4 x, v] w fun e w' => e = .returned (U4 (4294967295 - crcGo (4294967295 - x) ls.flatten)) ∧ w = w' := by
  obtain ⟨a, cap, hva, hc1, hc2, hnn⟩ := hv.1.shape
  subst hva
  unfold maxLen at hc2
  have hn1 := not_u32 x hx
  have HL := hid hv.2.1
  go_enter Tryz.func103, Tryz.ntmps103
  go_wp2_with fail
  go_loop [5, 14] (fun xv iv => ∃ k : Nat, k ≤ hs.length ∧ iv = N k ∧ xv = U4 (crcGo (4294967295 - x) (ls.take k).flatten)) (fun _ iv => hs.length - (intOf iv).toNat)
  case atStart => exact ⟨0, Nat.zero_le _, rfl, rfl⟩
  case round =>
    obtain ⟨k, hk, rfl, rfl⟩ := hrel
    clear hn1
    have hY : crcGo (4294967295 - x) (ls.take k).flatten < 4294967296 := crcGo_lt _ _ (by omega)
    by_cases hlt : k < hs.length
    · obtain ⟨b, off, cap', hv2, e0⟩ := hv.1.cell1 (fun (h : Hd) => h.v) rfl k hlt
      have hlt2 : k < ls.length := by have := HL.out; omega
      have hsee := hv.2.2 k hlt hlt2
      have HF : Hid (crcGo (4294967295 - x) (ls.take (k + 1)).flatten = crcGo (crcGo (4294967295 - x) (ls.take k).flatten) ls[k]) := by
        show _ = _; rw [flat_snoc ls k hlt2, crcGo_app]
      obtain ⟨a2, c2, hh, _⟩ := hsee.shape
      generalize hs[k] = h at *
      generalize ls[k] = p at *
      generalize crcGo (4294967295 - x) (ls.take k).flatten = Y at *
      obtain ⟨ha, hn2, hcc⟩ := h
      simp only [Hd.v, Value.slice.injEq] at hh
      obtain ⟨rfl, rfl, rfl⟩ := hh
      simp only [Hd.v] at e0 hsee
      cases hv2
      have i1 : (0 : Int) ≤ k := by omega
      have i2 : (k : Int) < hs.length := by omega
      have hpm := hsee.le
      unfold maxLen at hpm
      go_wp2_with fail
      go_loop [5, 20] (fun xv jv => ∃ j : Nat, j ≤ p.length ∧ jv = N j ∧ xv = U4 (crcGo Y (p.take j))) (fun _ jv => p.length - (intOf jv).toNat)
      case atStart => exact ⟨0, Nat.zero_le _, rfl, rfl⟩
      case round =>
        obtain ⟨j, hj, rfl, rfl⟩ := hrel
        have hZ : crcGo Y (p.take j) < 4294967296 := crcGo_lt _ _ hY
        by_cases hjl : j < p.length
        · obtain ⟨b2, off2, cap2, hv3, g0⟩ := hsee.cell1 (fun c => Fk.u8 c) rfl j hjl
          have HZ : Hid (crcGo Y (p.take (j + 1)) = byteU (crcGo Y (p.take j)) p[j].toNat) := crcGo_snoc Y p j hjl
          generalize p[j] = c at *
          generalize crcGo Y (p.take j) = z at *
          cases hv3
          have hcb := c.toNat_lt
          have k1 := xor_u32 z c.toNat hZ (by omega)
          have hz1 : z ^^^ c.toNat < 2 ^ 32 := Nat.xor_lt_two_pow hZ (by omega)
          have HB := hid (byte_nib z c.toNat)
          generalize z ^^^ c.toNat = z1 at *
          have k2 := and15_u32 z1 hz1
          have hi1 : z1 % 16 < 16 := by omega
          generalize z1 % 16 = i1 at *
          have t1 := ht i1 hi1
          have hT1 := tabU_lt i1 hi1
          have k3 : bits .xor .u32 ((z1 : Int) / 16) ((tabU i1 : Nat) : Int) = (((z1 / 16) ^^^ tabU i1 : Nat) : Int) := by
            rw [show (z1 : Int) / 16 = ((z1 / 16 : Nat) : Int) by omega]; exact xor_u32 (z1 / 16) (tabU i1) (by omega) hT1
          have hz2 : (z1 / 16) ^^^ tabU i1 < 2 ^ 32 := Nat.xor_lt_two_pow (by omega) hT1
          generalize (z1 / 16) ^^^ tabU i1 = z2 at *
          have k4 := and15_u32 z2 hz2
          have hi2 : z2 % 16 < 16 := by omega
          generalize z2 % 16 = i2 at *
          have t2 := ht i2 hi2
          have hT2 := tabU_lt i2 hi2
          have k5 : bits .xor .u32 ((z2 : Int) / 16) ((tabU i2 : Nat) : Int) = (((z2 / 16) ^^^ tabU i2 : Nat) : Int) := by
            rw [show (z2 : Int) / 16 = ((z2 / 16 : Nat) : Int) by omega]; exact xor_u32 (z2 / 16) (tabU i2) (by omega) hT2
          have HE : Hid (crcGo Y (p.take (j + 1)) = z2 / 16 ^^^ tabU i2) := by show _ = _; rw [HZ.out, HB.out]
          generalize (z2 / 16) ^^^ tabU i2 = z3 at *
          generalize tabU i1 = y1 at *
          generalize tabU i2 = y2 at *
          have l1 : (0 : Int) ≤ i1 := by omega
          have l2 : (i1 : Int) < 16 := by omega
          have l3 : (0 : Int) ≤ i2 := by omega
          have l4 : (i2 : Int) < 16 := by omega
          have l5 : (0 : Int) ≤ j := by omega
          have l6 : (j : Int) < p.length := by omega
          go_wp2_with fail
          go_round
          case rel => exact ⟨j + 1, by omega, by go_num, by rw [HE.out]⟩
          case measure => simp [intOf]; omega
        · obtain rfl : j = p.length := by omega
          have hnl : ¬ ((p.length : Int) < p.length) := by omega
          rw [List.take_length, ← HF.out]
          go_wp2_with fail
          go_round
          case rel => exact ⟨k + 1, by omega, by go_num, rfl⟩
          case measure => simp [intOf]; omega
    · obtain rfl : k = hs.length := by omega
      have hnl : ¬ ((hs.length : Int) < hs.length) := by omega
      rw [List.take_of_length_le (by have := HL.out; omega)] at hY ⊢
      have hn2 := not_u32 _ hY
      generalize hYe : crcGo (4294967295 - x) ls.flatten = Y at *
      have HY := hid hYe
      clear hYe
      go_wp2_with fail
      go_ret
      exact ⟨by rw [HY.out]; rfl, rfl⟩
set_option maxRecDepth 512
theorem one2 (w : World) (v : Value) (r : Hd) (p : List UInt8) (hr : v = r.v) (hv : See w eB v p) (cs : Array Value) (hcs : cs = #[v]) : Sees2 (w.alloc (.cells cs 22)) eHB eB (.slice (some ⟨w.heap.size, 0, none⟩) 1 1) [r] [p] := by
 subst hr hcs
 refine ⟨see_new eHB w [r] _ _ 1 rfl rfl (by simp [maxLen]), rfl, fun i h1 h2 => ?_⟩
 have : i = 0 := by simp at h1; exact h1
 subst this
 exact hv.fr ((Fr.refl w).alloc _)
set_option maxRecDepth 100000
theorem Sum_any (v : Value) (p : List UInt8) (w : World) (hv : See w eB v p) (ht : Crc w) :
  Calls Tryz.prog 70 #[v] w fun e w' => e = .returned (U4 (sumU p)) ∧ Fr w w' := by
 obtain ⟨a, cap, hva, _⟩ := hv.shape
 have h2 := one2 w v ⟨a, p.length, cap⟩ p hva hv #[v] rfl
 subst hva
 have HM := hid (More_any 0 (by omega) _ _ _ _ h2 (ht.fr ((Fr.refl w).alloc _)))
 have HE : Hid (4294967295 - crcGo (4294967295 - 0) [p].flatten = sumU p) := by show _ = _; unfold sumU; simp
 generalize 4294967295 - crcGo (4294967295 - 0) [p].flatten = Y at *
 clear h2
 go_enter Tryz.func70, Tryz.ntmps70
 go_wp2_with fail
 refine HM.out.mono ?_
 rintro e w1 ⟨rfl, rfl⟩
 go_wp2_with fail
 go_ret
 exact ⟨by rw [← HE.out]; rfl, (Fr.refl w).alloc _⟩
set_option maxRecDepth 512
def tailB (s : Nat) : List UInt8 := [UInt8.ofNat (s % 256), UInt8.ofNat (s / 256 % 256), UInt8.ofNat (s / 65536 % 256), UInt8.ofNat (s / 16777216 % 256)]
set_option maxRecDepth 100000
theorem tail_any (s : Nat) (hs : s < 4294967296) (w : World) :
  Calls Tryz.prog 69 #[U4 s] w fun e w' => ∃ v, e = .returned v ∧ Ow w' w.heap.size eB v (tailB s) ∧ Fr w w' := by
 have hc : ∀ W : World, Ow (W.alloc (.cells #[.int .u8 ((s : Int) % 256), .int .u8 ((s : Int) / 256 % 256), .int .u8 ((s : Int) / 65536 % 256), .int .u8 ((s : Int) / 16777216)] 5)) W.heap.size eB (.slice (some ⟨W.heap.size, 0, none⟩) 4 4) (tailB s) := by
  intro W
  refine own_lit eB W _ (tailB s) 4 rfl (by simp [maxLen, tailB]) (Nat.le_refl _) ?_
  rw [show (s : Int) % 256 = ((s % 256 : Nat) : Int) by omega, show (s : Int) / 256 % 256 = ((s / 256 % 256 : Nat) : Int) by omega, show (s : Int) / 65536 % 256 = ((s / 65536 % 256 : Nat) : Int) by omega, show (s : Int) / 16777216 = ((s / 16777216 % 256 : Nat) : Int) by omega]
  rw [byte_val _ (by omega), byte_val _ (by omega), byte_val _ (by omega), byte_val _ (by omega)]
  rfl
 have HC := hid (hc w)
 clear hc
 go_enter Tryz.func69, Tryz.ntmps69
 go_wp2_with fail
 go_ret
 exact ⟨_, rfl, HC.out, (Fr.refl w).alloc _⟩
theorem Put_any (v : Value) (p : List UInt8) (w : World) (hv : See w eB v p) (hn : p.length ≤ 1000000) (ht : Crc w) :
  Calls Tryz.prog 32 #[v] w fun e w' => ∃ v', e = .returned v' ∧ Ow w' w.heap.size eB v' (putB p) ∧ Fr w w' := by
 obtain ⟨a, cap, hva, _⟩ := hv.shape
 have HCl := hid (fun W (h : See W eB v p) => BClone_any v p W h hn)
 have HS := hid (fun W (h : See W eB v p) (h2 : Crc W) => Sum_any v p W h h2)
 have HT := hid (tail_any (sumU p) (sumU_lt p))
 have HE : Hid (putB p = p ++ tailB (sumU p)) := rfl
 generalize sumU p = s at *
 subst hva
 go_enter Tryz.func32, Tryz.ntmps32
 go_wp2_with fail
 refine (HCl.out _ hv).mono ?_
 rintro e w1 ⟨v1, rfl, hown1, hf1⟩
 go_wp2_with fail
 refine (HS.out _ (hv.fr hf1) (ht.fr hf1)).mono ?_
 rintro e w2 ⟨rfl, hf2⟩
 go_wp2_with fail
 refine (HT.out _).mono ?_
 rintro e w3 ⟨v3, rfl, hown3, hf3⟩
 have hown1' := hown1.fr (hf2.trans hf3)
 have hf03 := (hf1.trans hf2).trans hf3
 have hc1 : p.length + (tailB s).length ≤ 2147483648 := by show _ + 4 ≤ _; omega
 go_wp2_with (at_builtin; refine wpList_app eB rfl (.tmp 4) (.tmp 7) 22 rfl Tryz.underlying22 w.heap.size rfl hown1' _ _ rfl hown3.see hc1 hf03.size ?_)
 intro v4 w4 hap
 go_wp2_with fail
 go_ret
 exact ⟨_, rfl, by rw [HE.out]; exact hap.own, hap.below hown1' hf03 (Nat.le_refl _) hf03.size⟩
theorem RBit_any (x : Nat) (hx : x < 4294967296) (w : World) :
    Calls Tryz.prog 162 #[U4 x] w fun e w' => e = .returned (U4 (bitU x)) ∧ w = w' := by
  by_cases h : x % 2 = 1
  · have HE : Hid (bitU x = (x / 2) ^^^ 3988292384) := by show _ = _; unfold bitU; rw [if_pos h]
    have h1 : (x : Int) % 2 = 1 := by omega
    have h2 : bits .xor .u32 ((x : Int) / 2) 3988292384 = (((x / 2) ^^^ 3988292384 : Nat) : Int) := by
      rw [show (x : Int) / 2 = ((x / 2 : Nat) : Int) by omega]; exact xor_u32 (x / 2) 3988292384 (by omega) (by omega)
    go_enter Tryz.func162, Tryz.ntmps162
    go_wp2_with fail
    go_ret
    exact ⟨by rw [HE.out]; rfl, rfl⟩
  · have HE : Hid (bitU x = x / 2) := by show _ = _; unfold bitU; rw [if_neg h]
    have h1 : (x : Int) % 2 = 0 := by omega
    go_enter Tryz.func162, Tryz.ntmps162
    go_wp2_with fail
    go_ret
    exact ⟨by rw [HE.out]; go_num, rfl⟩
set_option maxRecDepth 512
def bitI : Nat → Nat → Nat
 | 0, x => x
 | n + 1, x => bitU (bitI n x)
theorem bitI_lt (n x : Nat) (h : x < 4294967296) : bitI n x < 4294967296 := by
 induction n with
 | zero => exact h
 | succ n ih => exact bitU_lt _ ih
set_option maxRecDepth 100000
theorem RMore_any (x : Nat) (hx : x < 4294967296) (v : Value) (p : List UInt8) (w : World) (hv : See w eB v p) :
  Calls Tryz.prog 134 #[U4 x, v] w fun e w' => e = .returned (U4 (4294967295 - crcGo (4294967295 - x) p)) ∧ w = w' := by
 obtain ⟨a, cap, hva, hc1, hc2, hnn⟩ := hv.shape
 subst hva
 unfold maxLen at hc2
 have hw1 : (4294967295 : Int) - x = ((4294967295 - x : Nat) : Int) := by omega
 have HW1 := hid hw1
 clear hw1
 go_enter Tryz.func134, Tryz.ntmps134
 go_wp2_with fail
 go_loop [5, 6] (fun xv iv => ∃ k : Nat, k ≤ p.length ∧ iv = N k ∧ xv = U4 (crcGo (4294967295 - x) (p.take k))) (fun _ iv => p.length - (intOf iv).toNat)
 case atStart => exact ⟨0, Nat.zero_le _, rfl, by first | rfl | (rw [HW1.out]; rfl)⟩
 case round =>
  obtain ⟨k, hk, rfl, rfl⟩ := hrel
  have hY : crcGo (4294967295 - x) (p.take k) < 4294967296 := crcGo_lt _ _ (by omega)
  by_cases hlt : k < p.length
  · obtain ⟨b, off, cap', hv2, e0⟩ := hv.cell1 (fun c => Fk.u8 c) rfl k hlt
    have HZ : Hid (crcGo (4294967295 - x) (p.take (k + 1)) = bitI 8 (crcGo (4294967295 - x) (p.take k) ^^^ p[k].toNat)) := crcGo_snoc _ p k hlt
    generalize p[k] = c at *
    generalize crcGo (4294967295 - x) (p.take k) = z at *
    cases hv2
    have hcb := c.toNat_lt
    have k1 := xor_u32 z c.toNat hY (by omega)
    have hz1 : z ^^^ c.toNat < 2 ^ 32 := Nat.xor_lt_two_pow hY (by omega)
    generalize z ^^^ c.toNat = z1 at *
    have i1 : (0 : Int) ≤ k := by omega
    have i2 : (k : Int) < p.length := by omega
    go_wp2_with fail
    go_loop [5, 7] (fun xv jv => ∃ j : Nat, j ≤ 8 ∧ jv = N j ∧ xv = U4 (bitI j z1)) (fun _ jv => 8 - (intOf jv).toNat)
    case atStart => exact ⟨0, by omega, rfl, rfl⟩
    case round =>
     obtain ⟨j, hj, rfl, rfl⟩ := hrel
     by_cases hj8 : j < 8
     · have hj8' : (j : Int) < 8 := by omega
       have HB := hid (RBit_any (bitI j z1) (bitI_lt j z1 hz1))
       go_wp2_with fail
       refine (HB.out _).mono ?_
       rintro e w1 ⟨rfl, rfl⟩
       go_wp2_with fail
       go_round
       case rel => exact ⟨j + 1, by omega, by go_num, rfl⟩
       case measure => simp [intOf]; omega
     · obtain rfl : j = 8 := by omega
       rw [← HZ.out]
       go_wp2_with fail
       go_round
       case rel => exact ⟨k + 1, by omega, by go_num, rfl⟩
       case measure => simp [intOf]; omega
  · obtain rfl : k = p.length := by omega
    have hnl : ¬ ((p.length : Int) < p.length) := by omega
    rw [List.take_length] at hY ⊢
    generalize hYe : crcGo (4294967295 - x) p = Y at *
    have HY := hid hYe
    clear hYe
    have HW2 : Hid ((4294967295 : Int) - Y = ((4294967295 - Y : Nat) : Int)) := by show _ = _; omega
    go_wp2_with fail
    go_ret
    exact ⟨by rw [HY.out]; first | rfl | (show Ending.returned (.int .u32 _) = _; rw [HW2.out]), rfl⟩
theorem RSum_any (v : Value) (p : List UInt8) (w : World) (hv : See w eB v p) :
  Calls Tryz.prog 93 #[v] w fun e w' => e = .returned (U4 (sumU p)) ∧ w = w' := by
 obtain ⟨a, cap, hva, _⟩ := hv.shape
 have HM := hid (RMore_any 0 (by omega) v p w hv)
 have HE : Hid (4294967295 - crcGo (4294967295 - 0) p = sumU p) := rfl
 generalize 4294967295 - crcGo (4294967295 - 0) p = Y at *
 subst hva
 go_enter Tryz.func93, Tryz.ntmps93
 go_wp2_with fail
 refine HM.out.mono ?_
 rintro e w1 ⟨rfl, rfl⟩
 go_wp2_with fail
 go_ret
 exact ⟨by rw [← HE.out]; rfl, rfl⟩
set_option maxRecDepth 512
theorem tail_fix (s : Nat) : tailB s = fixB 4 s := by
 simp only [tailB, fixB, Nat.div_div_eq_div_mul]
set_option maxRecDepth 100000
theorem RPut_any (v : Value) (p : List UInt8) (w : World) (hv : See w eB v p) (hn : p.length ≤ 1000000) :
  Calls Tryz.prog 55 #[v] w fun e w' => ∃ v', e = .returned v' ∧ Ow w' w.heap.size eB v' (putB p) ∧ Fr w w' := by
 obtain ⟨a, cap, hva, _⟩ := hv.shape
 have HS := hid (RSum_any v p w hv)
 have HE : Hid (putB p = p ++ fixB 4 (sumU p)) := by show _ = _; rw [← tail_fix]; rfl
 have hslt := sumU_lt p
 generalize sumU p = s at *
 subst hva
 have hal := own_lit eB w #[] [] 0 rfl (by simp [maxLen]) (Nat.le_refl _)
 have hsl := hv.fr ((Fr.refl w).alloc (.cells #[] 5))
 have hc0 : ([] : List UInt8).length + p.length ≤ 2147483648 := by simp; omega
 go_enter Tryz.func55, Tryz.ntmps55
 go_wp2_with fail
 refine HS.out.mono ?_
 rintro e w1 ⟨rfl, rfl⟩
 go_wp2_with (at_builtin; refine wpList_app eB rfl (.tmp 8) (.tmp 9) 22 rfl Tryz.underlying22 w.heap.size rfl hal _ _ rfl hsl hc0 (by simp) ?_)
 intro v2 w2 hap
 have hf2 : Fr w w2 := hap.below hal ((Fr.refl w).alloc _) (Nat.le_refl _) (by simp)
 have own2 : Ow w2 w.heap.size eB v2 p := hap.own
 clear hap hal hsl
 go_wp2_with fail
 go_loopw [3, 4, 5] (fun sv ov iv wr => ∃ (i y : Nat) (o : List UInt8), i ≤ 4 ∧ iv = N i ∧ sv = U4 y ∧ y < 4294967296 ∧ Ow wr w.heap.size eB ov o ∧ o.length = p.length + i ∧ Hid (putB p = o ++ fixB (4 - i) y) ∧ Fr w wr) (fun _ _ iv _ => 4 - (intOf iv).toNat)
 case atStart => exact ⟨0, s, p, by omega, rfl, rfl, hslt, own2, rfl, HE.out, hf2⟩
 case round =>
  obtain ⟨i, y, o, hi, rfl, rfl, hy, hown, hol, HR, hf⟩ := hrel
  clear own2 hf2
  by_cases hlt : i < 4
  · have hlt' : (i : Int) < 4 := by omega
    have e1 : 4 - i = (4 - (i + 1)) + 1 := by omega
    have HE2 : Hid (putB p = o ++ [UInt8.ofNat (y % 256)] ++ fixB (4 - (i + 1)) (y / 256)) := by show _ = _; rw [HR.out, e1, fixB]; simp
    have HB : Hid ((#[Value.int .u8 ((y : Int) % 256)] : Array Value).toList = eB.cells [UInt8.ofNat (y % 256)]) := by
     show _ = _
     have := byte_cell (y % 256) (by omega)
     rw [show ((y % 256 : Nat) : Int) = (y : Int) % 256 by omega] at this
     exact this
    have hc1 : o.length + 1 ≤ 2147483648 := by omega
    clear e1
    generalize UInt8.ofNat (y % 256) = c at *
    go_wp2_with (at_builtin; refine wpList_app1 eB rfl (.tmp 15) (.tmp 19) 22 rfl Tryz.underlying22 w.heap.size rfl hown [c] _ _ _ HB.out rfl rfl hc1 hf.size ?_)
    intro v' w4 hap
    go_wp2_with fail
    go_roundw
    case rel => exact ⟨i + 1, y / 256, o ++ [c], by omega, by go_num, by go_num, by omega, hap.own, by rw [List.length_append, hol]; rfl, HE2, hap.below hown hf (Nat.le_refl _) hf.size⟩
    case measure => simp [intOf]; omega
  · obtain rfl : i = 4 := by omega
    have HE2 : Hid (putB p = o) := by show _ = _; rw [HR.out, Nat.sub_self, fixB, List.append_nil]
    go_wp2_with fail
    go_ret
    exact ⟨_, rfl, by rw [HE2.out]; exact hown, hf⟩
set_option maxRecDepth 512
theorem conv_at (v : Value) (l : List UInt8) (w : World) (h : See w eB v l) : (convert 22 9 v).run Tryz.prog w = .ok (S l) w :=
 run_conv_see eB w 22 9 Tryz.underlying22 (by kernel_rfl) Tryz.underlying9 rfl rfl h
theorem RSame1_any (va vb : Value) (a b : List UInt8) (w : World) (ha : See w eB va a) (hb : See w eB vb b) :
  Calls Tryz.prog 9 #[va, vb] w fun e w' => e = .returned (.bool (decide (a = b))) ∧ w = w' := by
 have h1 := conv_at va a w ha
 have h2 := conv_at vb b w hb
 obtain ⟨pa, ca, hva, _⟩ := ha.shape
 obtain ⟨pb, cb, hvb, _⟩ := hb.shape
 subst hva hvb
 clear ha hb
 have hd : (a == b) = decide (a = b) := by rw [Bool.eq_iff_iff]; simp
 generalize decide (a = b) = q at *
 go_enter Tryz.func9, Tryz.ntmps9
 go_wp2_with fail
 go_ret
 exact ⟨rfl, rfl⟩
end Go.Proofs.YtfhdgenlpmlajaaGreatDoor
