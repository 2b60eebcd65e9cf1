/- Parts of the proof of ThreePacks: N2 V0 B1 B2 B3 E1 R1. -/
import Derived.Test.YtmfbmjplmaimbaaGreatDoorM06
import Derived.Test.YtmfbmjplmaimbaaGreatDoorM10
import Derived.Test.YtmfbmjplmaimbaaGreatDoorM08
import Derived.Test.YtmfbmjplmaimbaaGreatDoorM11
import Derived.Test.YtmfbmjplmaimbaaGreatDoorM01
set_option linter.unusedVariables false
set_option linter.unusedSectionVars false
set_option linter.unusedSimpArgs false
set_option maxHeartbeats 8000000
namespace Go.Proofs.YtmfbmjplmaimbaaGreatDoor
open Go.RowKit Go.Fk
theorem or_all : allB 256 (fun y => (y ||| 128) == 128 + y % 128) = true := by decide +kernel
theorem or_high (x : Nat) : bits .or .u8 ((x : Int) % 256) 128 = ((UInt8.ofNat (128 + x % 128)).toNat : Int) := by
 have h : (x % 256) ||| 128 = 128 + (x % 256) % 128 := beq_iff_eq.1 (allB_out 256 _ or_all (x % 256) (by omega))
 rw [show (x : Int) % 256 = ((x % 256 : Nat) : Int) by omega, show (128 : Int) = ((128 : Nat) : Int) from rfl, or_u8 (x % 256) 128 (by omega) (by omega), h, UInt8.toNat_ofNat']
 omega
theorem byte_cell (x : Nat) (h : x < 256) : (#[Value.int .u8 (x : Int)] : Array Value).toList = eB.cells [UInt8.ofNat x] := by
 have e : (x : Int) = ((UInt8.ofNat x).toNat : Int) := by rw [UInt8.toNat_ofNat']; omega
 rw [e]; rfl
set_option maxRecDepth 100000
theorem Num_any (x : Nat) (hx : x < 18446744073709551616) (w : World) :
  Calls Tryz.prog 58 #[.int .u64 (x : Int)] w fun e w' => ∃ v, e = .returned v ∧ Ow w' w.heap.size eB v (numB x) ∧ Fr w w' := by
 have hlen := numB_le x hx
 generalize hR : numB x = R at *
 have HL := hid hlen
 go_enter Tryz.func58, Tryz.ntmps58
 go_wp2_with fail
 go_loopw [0, 3] (fun xv ov wr => ∃ (y : Nat) (o : List UInt8), xv = .int .u64 (y : Int) ∧ y < 18446744073709551616 ∧ Ow wr w.heap.size eB ov o ∧ Hid (R = o ++ numB y) ∧ Fr w wr) (fun xv _ _ => (intOf xv).toNat)
 case atStart => exact ⟨x, [], rfl, hx, Ow.nil, by show _ = _; rw [hR]; rfl, Fr.refl w⟩
 case round =>
  obtain ⟨y, o, rfl, hy, hown, HR, hf⟩ := hrel
  have hol : o.length ≤ 10 := by
   have h1 := HL.out
   rw [HR.out, List.length_append] at h1
   omega
  have hc1 : o.length + 1 ≤ 2147483648 := by omega
  clear hlen hR
  by_cases hb : y < 128
  · have HE : Hid (R = o ++ [UInt8.ofNat y]) := by show _ = _; rw [HR.out, numB_one y hb]
    have HB := hid (byte_cell y (by omega))
    have hb' : ¬ (128 : Int) ≤ y := by omega
    generalize UInt8.ofNat y = c at *
    go_wp2_with (at_builtin; refine wpList_app1 eB rfl (.tmp 14) (.tmp 17) 31 rfl Tryz.underlying31 w.heap.size rfl hown [c] _ _ _ HB.out rfl rfl hc1 hf.size ?_)
    intro v' w4 hap
    go_wp2_with fail
    go_ret
    exact ⟨_, rfl, by rw [HE.out]; exact hap.own, hap.below hown hf (Nat.le_refl _) hf.size⟩
  · have HE : Hid (R = o ++ [UInt8.ofNat (128 + y % 128)] ++ numB (y / 128)) := by show _ = _; rw [HR.out, numB_more y hb]; simp
    have hor := or_high y
    have hb' : (128 : Int) ≤ y := by omega
    generalize UInt8.ofNat (128 + y % 128) = c at *
    go_wp2_with (at_builtin; refine wpList_app1 eB rfl (.tmp 6) (.tmp 10) 31 rfl Tryz.underlying31 w.heap.size rfl hown [c] _ _ _ rfl rfl rfl hc1 hf.size ?_)
    intro v' w4 hap
    go_wp2_with fail
    go_roundw
    case rel => exact ⟨y / 128, o ++ [c], by go_num, by omega, hap.own, HE, hap.below hown hf (Nat.le_refl _) hf.size⟩
    case measure => simp [intOf]; omega
set_option maxRecDepth 512
theorem mod_byte (x : Nat) : (128 : Int) + x % 128 = ((UInt8.ofNat (128 + x % 128)).toNat : Int) := by
 rw [UInt8.toNat_ofNat']; omega
set_option maxRecDepth 100000
theorem RNum_any (x : Nat) (hx : x < 18446744073709551616) (w : World) :
  Calls Tryz.prog 88 #[.int .u64 (x : Int)] w fun e w' => ∃ v, e = .returned v ∧ Ow w' w.heap.size eB v (numB x) ∧ Fr w w' := by
 have hlen := numB_le x hx
 generalize hR : numB x = R at *
 have HL := hid hlen
 go_enter Tryz.func88, Tryz.ntmps88
 go_wp2_with fail
 go_loopw [0, 3] (fun xv ov wr => ∃ (y : Nat) (o : List UInt8), xv = .int .u64 (y : Int) ∧ y < 18446744073709551616 ∧ Ow wr w.heap.size eB ov o ∧ Hid (R = o ++ numB y) ∧ Fr w wr) (fun xv _ _ => (intOf xv).toNat)
 case atStart => exact ⟨x, [], rfl, hx, Ow.nil, by show _ = _; rw [hR]; rfl, Fr.refl w⟩
 case round =>
  obtain ⟨y, o, rfl, hy, hown, HR, hf⟩ := hrel
  have hol : o.length ≤ 10 := by
   have h1 := HL.out
   rw [HR.out, List.length_append] at h1
   omega
  have hc1 : o.length + 1 ≤ 2147483648 := by omega
  clear hlen hR
  by_cases hb : y < 128
  · have HE : Hid (R = o ++ [UInt8.ofNat y]) := by show _ = _; rw [HR.out, numB_one y hb]
    have HB := hid (byte_cell y (by omega))
    have hb' : ¬ (128 : Int) ≤ y := by omega
    generalize UInt8.ofNat y = c at *
    go_wp2_with (at_builtin; refine wpList_app1 eB rfl (.tmp 15) (.tmp 18) 31 rfl Tryz.underlying31 w.heap.size rfl hown [c] _ _ _ HB.out rfl rfl hc1 hf.size ?_)
    intro v' w4 hap
    go_wp2_with fail
    go_ret
    exact ⟨_, rfl, by rw [HE.out]; exact hap.own, hap.below hown hf (Nat.le_refl _) hf.size⟩
  · have HE : Hid (R = o ++ [UInt8.ofNat (128 + y % 128)] ++ numB (y / 128)) := by show _ = _; rw [HR.out, numB_more y hb]; simp
    have HB : Hid ((#[Value.int .u8 ((128 : Int) + y % 128)] : Array Value).toList = eB.cells [UInt8.ofNat (128 + y % 128)]) := by
     show _ = _; rw [mod_byte y]; rfl
    have hb' : (128 : Int) ≤ y := by omega
    generalize UInt8.ofNat (128 + y % 128) = c at *
    go_wp2_with (at_builtin; refine wpList_app1 eB rfl (.tmp 6) (.tmp 11) 31 rfl Tryz.underlying31 w.heap.size rfl hown [c] _ _ _ HB.out rfl rfl hc1 hf.size ?_)
    intro v' w4 hap
    go_wp2_with fail
    go_roundw
    case rel => exact ⟨y / 128, o ++ [c], by go_num, by omega, hap.own, HE, hap.below hown hf (Nat.le_refl _) hf.size⟩
    case measure => simp [intOf]; omega
theorem Text_any (s : List UInt8) (hs : s.length ≤ 1000000000) (w : World) :
  Calls Tryz.prog 95 #[S s] w fun e w' => ∃ v, e = .returned v ∧ Ow w' w.heap.size eB v (textB s) ∧ Fr w w' := by
 have HN := hid (Num_any s.length (by omega))
 have hlen := numB_le s.length (by omega)
 have hc1 : (numB s.length).length + s.length ≤ 2147483648 := by omega
 have HT : Hid (textB s = numB s.length ++ s) := rfl
 generalize numB s.length = nb at *
 clear hlen
 go_enter Tryz.func95, Tryz.ntmps95
 go_wp2_with fail
 refine (HN.out _).mono ?_
 rintro e w1 ⟨v1, rfl, hown, hf⟩
 go_wp2_with (at_builtin; refine wpList_app_str eB rfl (.tmp 6) (.tmp 7) 31 9 rfl Tryz.underlying31 Tryz.underlying9 rfl rfl rfl w.heap.size rfl hown s rfl hc1 hf.size ?_)
 intro v' w4 hap
 go_wp2_with fail
 go_ret
 exact ⟨_, rfl, by rw [HT.out]; exact hap.own, hap.below hown hf (Nat.le_refl _) hf.size⟩
theorem RText_any (s : List UInt8) (hs : s.length ≤ 1000000000) (w : World) :
  Calls Tryz.prog 126 #[S s] w fun e w' => ∃ v, e = .returned v ∧ Ow w' w.heap.size eB v (textB s) ∧ Fr w w' := by
 have HN := hid (RNum_any s.length (by omega))
 have hlen := numB_le s.length (by omega)
 have hc1 : (numB s.length).length + s.length ≤ 2147483648 := by omega
 have HT : Hid (textB s = numB s.length ++ s) := rfl
 generalize numB s.length = nb at *
 clear hlen
 go_enter Tryz.func126, Tryz.ntmps126
 go_wp2_with fail
 refine (HN.out _).mono ?_
 rintro e w1 ⟨v1, rfl, hown, hf⟩
 go_wp2_with (at_builtin; refine wpList_app_str eB rfl (.tmp 6) (.tmp 7) 31 9 rfl Tryz.underlying31 Tryz.underlying9 rfl rfl rfl w.heap.size rfl hown s rfl hc1 hf.size ?_)
 intro v' w4 hap
 go_wp2_with fail
 go_ret
 exact ⟨_, rfl, by rw [HT.out]; exact hap.own, hap.below hown hf (Nat.le_refl _) hf.size⟩
set_option maxRecDepth 512
theorem All_any (v : Value) (hs : List Hd) (ls : List (List UInt8)) (w : World) (hv : Sees2 w eHB eB v hs ls) (hn : ls.flatten.length ≤ 1000000) :
  Calls Tryz.prog 35 #[v] w fun e w' => ∃ v, e = .returned v ∧ Ow w' w.heap.size eB v ls.flatten ∧ Fr w w' := by
 obtain ⟨a, cap, hva, _⟩ := hv.1.shape
 have HC := hid (BConcat_any v hs ls w hv hn)
 subst hva
 go_enter Tryz.func35, Tryz.ntmps35
 go_wp2_with fail
 refine HC.out.mono ?_
 rintro e w1 ⟨v1, rfl, hown, hf⟩
 go_wp2_with fail
 go_ret
 exact ⟨_, rfl, hown, hf⟩
set_option maxRecDepth 100000
theorem RZig_any (d : Nat) (hd : d < 18446744073709551616) (w : World) :
  Calls Tryz.prog 90 #[.int .u64 (d : Int)] w fun e w' => e = .returned (.int .u64 (zigN d : Nat)) ∧ w = w' := by
 have HD := hid hd
 by_cases h : d < 9223372036854775808
 · have HZ : Hid (zigN d = 2 * d) := by show _ = _; unfold zigN; rw [if_pos h]
   have HL := hid h
   have h1 : ((9223372036854775808 : Int) ≤ d) = False := by simp; omega
   clear h hd
   go_enter Tryz.func90, Tryz.ntmps90
   go_wp2_with fail
   go_ret
   refine ⟨?_, rfl⟩
   rw [HZ.out]
   have := HL.out
   simp
   rw [IntKind.wrap_u64]
   omega
 · have HZ : Hid (zigN d = 2 * (18446744073709551615 - d) + 1) := by show _ = _; unfold zigN; rw [if_neg h]
   have HL := hid h
   have h1 : ((9223372036854775808 : Int) ≤ d) = True := by simp; omega
   clear h hd
   go_enter Tryz.func90, Tryz.ntmps90
   go_wp2_with fail
   go_ret
   refine ⟨?_, rfl⟩
   rw [HZ.out]
   have := HL.out
   have := HD.out
   simp
   rw [IntKind.wrap_u64, IntKind.wrap_u64, IntKind.wrap_u64]
   omega
theorem Zig_any (d : Nat) (hd : d < 18446744073709551616) (w : World) :
  Calls Tryz.prog 62 #[.int .u64 (d : Int)] w fun e w' => e = .returned (.int .u64 (zigN d : Nat)) ∧ w = w' := by
 have key : bits BinOp.xor IntKind.u64 (IntKind.u64.wrap ((d : Int) * 2)) (IntKind.u64.wrap (-((d : Int) / 9223372036854775808))) = ((zigN d : Nat) : Int) := by
  rw [IntKind.wrap_u64, IntKind.wrap_u64]
  by_cases h : d < 9223372036854775808
  · rw [show (d : Int) / 9223372036854775808 = 0 by omega, show (d : Int) * 2 % 18446744073709551616 = ((2 * d : Nat) : Int) by omega, show (-(0 : Int)) % 18446744073709551616 = ((0 : Nat) : Int) by omega, bits_xor_u64_nat _ _ (by omega) (by omega), Nat.xor_zero]
    unfold zigN
    rw [if_pos h]
  · rw [show (d : Int) / 9223372036854775808 = 1 by omega, show (d : Int) * 2 % 18446744073709551616 = ((2 * d - 18446744073709551616 : Nat) : Int) by omega, show (-(1 : Int)) % 18446744073709551616 = ((2 ^ 64 - 1 : Nat) : Int) by omega, bits_xor_u64_nat _ _ (by omega) (by omega), xor_ones 64 _ (by omega)]
    unfold zigN
    rw [if_neg h]
    omega
 have HK := hid key
 clear key
 go_enter Tryz.func62, Tryz.ntmps62
 go_wp2_with fail
 go_ret
 refine ⟨?_, rfl⟩
 rw [← HK.out]
 rfl
theorem RFixed_any (x n : Nat) (hn : 1 ≤ n) (hn8 : n ≤ 8) (hx : x < 256 ^ n) (hx64 : x < 18446744073709551616) (w : World) :
  Calls Tryz.prog 89 #[.int .u64 (x : Int), N n] w fun e w' => ∃ v, e = .returned (.tuple #[v, .int .i64 0]) ∧ Ow w' w.heap.size eB v (fixB n x) ∧ Fr w w' := by
 have h1 : ¬ (n : Int) < 1 := by omega
 have h2 : ¬ (8 : Int) < n := by omega
 generalize hR : fixB n x = R
 have HL : Hid (R.length = n) := by show _ = _; rw [← hR, fixB_len]
 have HX := hid hx
 clear hx
 go_enter Tryz.func89, Tryz.ntmps89
 go_wp2_with fail
 go_loopw [0, 6, 7] (fun xv ov iv wr => ∃ (i y : Nat) (o : List UInt8), i ≤ n ∧ iv = N i ∧ xv = .int .u64 (y : Int) ∧ y < 18446744073709551616 ∧ Hid (y < 256 ^ (n - i)) ∧ Ow wr w.heap.size eB ov o ∧ o.length = i ∧ Hid (R = o ++ fixB (n - i) y) ∧ Fr w wr) (fun _ _ iv _ => n - (intOf iv).toNat)
 case atStart => exact ⟨0, x, [], Nat.zero_le _, rfl, rfl, hx64, HX.out, Ow.nil, rfl, by show _ = _; rw [← hR]; rfl, Fr.refl w⟩
 case round =>
  obtain ⟨i, y, o, hi, rfl, rfl, hy, HY, hown, hol, HR, hf⟩ := hrel
  clear hR
  by_cases hlt : i < n
  · have hlt' : (i : Int) < n := by omega
    have e1 : n - i = (n - (i + 1)) + 1 := by omega
    have HE : Hid (R = o ++ [UInt8.ofNat (y % 256)] ++ fixB (n - (i + 1)) (y / 256)) := by show _ = _; rw [HR.out, e1, fixB]; simp
    have HY2 : Hid (y / 256 < 256 ^ (n - (i + 1))) := by
     have := HY.out
     rw [e1, Nat.pow_succ] at this
     exact Nat.div_lt_of_lt_mul (by rw [Nat.mul_comm]; exact this)
    have HB : Hid ((#[Value.int .u8 ((y : Int) % 256)] : Array Value).toList = eB.cells [UInt8.ofNat (y % 256)]) := by
     show _ = _
     have := byte_cell (y % 256) (by omega)
     rw [show ((y % 256 : Nat) : Int) = (y : Int) % 256 by omega] at this
     exact this
    have hc1 : o.length + 1 ≤ 2147483648 := by omega
    clear e1
    generalize UInt8.ofNat (y % 256) = c at *
    go_wp2_with (at_builtin; refine wpList_app1 eB rfl (.tmp 19) (.tmp 23) 31 rfl Tryz.underlying31 w.heap.size rfl hown [c] _ _ _ HB.out rfl rfl hc1 hf.size ?_)
    intro v' w4 hap
    go_wp2_with fail
    go_roundw
    case rel => exact ⟨i + 1, y / 256, o ++ [c], by omega, by go_num, by go_num, by omega, HY2, hap.own, by rw [List.length_append, hol]; rfl, HE, hap.below hown hf (Nat.le_refl _) hf.size⟩
    case measure => simp [intOf]; omega
  · obtain rfl : i = n := by omega
    have hy0 : y = 0 := by have := HY.out; rw [Nat.sub_self] at this; omega
    subst hy0
    have HE : Hid (R = o) := by show _ = _; rw [HR.out, Nat.sub_self, fixB, List.append_nil]
    obtain ⟨a, c, ho⟩ := hown.shape'
    subst ho
    have hnl : ¬ ((o.length : Int) < o.length) := by omega
    rw [hol] at hown ⊢
    have hnl : ¬ ((i : Int) < i) := by omega
    go_wp2_with fail
    exact bodyPost_ret (v := .tuple #[.slice a i c, .int .i64 0]) (by simp [results, Tryz.results89, go_sem, *]) rfl ⟨_, rfl, by rw [HE.out]; exact hown, hf⟩
set_option maxRecDepth 512
theorem shr256 (x i : Nat) : ((x : Int) / 2 ^ (8 * i)) = ((x / 256 ^ i : Nat) : Int) := by
 rw [show (256 : Nat) ^ i = 2 ^ (8 * i) by rw [Nat.pow_mul]]
 simp
set_option maxRecDepth 100000
theorem Fixed_any (x n : Nat) (hn : 1 ≤ n) (hn8 : n ≤ 7) (hx : x < 256 ^ n) (hx64 : x < 18446744073709551616) (w : World) :
  Calls Tryz.prog 34 #[.int .u64 (x : Int), N n] w fun e w' => ∃ v, e = .returned (.tuple #[v, .int .i64 0]) ∧ Ow w' w.heap.size eB v (fixB n x) ∧ Fr w w' := by
 have h1 : ¬ (n : Int) < 1 := by omega
 have h2 : ¬ (8 : Int) < n := by omega
 have h3 : (n : Int) < 8 := by omega
 have h4 : (x : Int) / 2 ^ (8 * n) = 0 := by rw [shr256, Nat.div_eq_of_lt hx]; rfl
 have hmk := made_run eB rfl rfl 31 Tryz.underlying31 .i64 .i64 n (by omega)
 have hmo : ∀ W : World, Ow (W.alloc (.cells (madeCells #[eB.z] n) eB.e)) W.heap.size eB (.slice (some ⟨W.heap.size, 0, none⟩) n n) (List.replicate n 0) := fun W => made_own eB rfl rfl n (by omega) W (Nat.le_refl _)
 generalize hR : fixB n x = R
 have HL : Hid (R.length = n) := by show _ = _; rw [← hR, fixB_len]
 have HA : Hid (∀ i (h : i < n) (h2 : i < R.length), R[i] = UInt8.ofNat (x / 256 ^ i % 256)) := by
  intro i h h2
  subst hR
  exact fixB_at n x i h
 have HMO := hid hmo
 clear hx hR hmo
 go_enter Tryz.func34, Tryz.ntmps34
 go_wp2_with fail
 have hown0 := HMO.out w
 have hf0 : Fr w (w.alloc (.cells (madeCells #[eB.z] n) eB.e)) := (Fr.refl w).alloc _
 generalize w.alloc (.cells (madeCells #[eB.z] n) eB.e) = w0 at *
 generalize hg : w.heap.size = g at *
 clear h1 h2 h3 h4 hmk
 go_loopw [29] (fun iv wr => ∃ i : Nat, i ≤ n ∧ iv = N i ∧ Ow wr g eB (.slice (some ⟨g, 0, none⟩) n n) (R.take i ++ List.replicate (n - i) 0) ∧ Below g w wr) (fun iv _ => n - (intOf iv).toNat)
 case atStart => exact ⟨0, Nat.zero_le _, rfl, hown0, by rw [← hg]; exact hf0⟩
 case round =>
  obtain ⟨i, hi, rfl, hown, hf⟩ := hrel
  clear hown0 hf0
  by_cases hlt : i < n
  · have hlt' : (i : Int) < n := by omega
    have hi0 : (0 : Int) ≤ i := by omega
    have hll : (R.take i ++ List.replicate (n - i) (0 : UInt8)).length = n := fill_len R 0 n i HL.out hi
    obtain ⟨c0, c1⟩ := hown.cellAt Fk.u8 rfl i (by rw [hll]; exact hlt)
    have HR : Hid ((R.take i ++ List.replicate (n - i) (0 : UInt8)).set i (UInt8.ofNat (x / 256 ^ i % 256)) = R.take (i + 1) ++ List.replicate (n - (i + 1)) 0) := by
     exact fill_set R 0 n i HL.out hlt _ (HA.out i hlt (by have := HL.out; omega))
    have hset := hown.set Fk.u8 rfl i (by rw [hll]; exact hlt) (UInt8.ofNat (x / 256 ^ i % 256)) (.int .u8 ((x / 256 ^ i % 256 : Nat) : Int)) (by show Value.int .u8 _ = _; rw [UInt8.toNat_ofNat']; congr 1; omega)
    rw [HR.out] at hset
    have hx8 : ((x : Int) / 2 ^ (8 * i)) % 256 = ((x / 256 ^ i % 256 : Nat) : Int) := by rw [shr256]; omega
    have hfs := set_below hf (Nat.le_refl g) (by rw [← hg]; exact (Below.size hf)) (i := i) (u := .int .u8 ((x / 256 ^ i % 256 : Nat) : Int))
    go_wp2_with fail
    go_roundw
    case rel => exact ⟨i + 1, by omega, by go_num, hset, hfs⟩
    case measure => simp [intOf]; omega
  · obtain rfl : i = n := by omega
    have hnl : ¬ ((i : Int) < i) := by omega
    rw [Nat.sub_self, List.replicate_zero, List.append_nil, List.take_of_length_le (by have := HL.out; omega)] at hown
    go_wp2_with fail
    exact bodyPost_ret (v := .tuple #[.slice (some ⟨g, 0, none⟩) i i, .int .i64 0]) (by simp [results, Tryz.results34, go_sem, *]) rfl ⟨_, rfl, hown, by rw [← hg] at hf; exact hf⟩
set_option maxRecDepth 512
theorem cells_hd (ps : List Hd) : eHB.cells ps = ps.map Hd.v := by
 induction ps with
 | nil => rfl
 | cons p ps ih =>
  show [p.v] ++ eHB.cells ps = _
  rw [ih]; rfl
theorem hd_of {w : World} {v : Value} {l : List UInt8} (h : See w eB v l) : ∃ p : Hd, v = p.v := by
 obtain ⟨a, cap, hv, _⟩ := h.shape
 exact ⟨⟨a, _, cap⟩, hv⟩
theorem lit_sees2 (w : World) (cs : Array Value) (T : TypeId) (ps : List Hd) (ls : List (List UInt8)) (n : Nat) (hn : n = ps.length) (hcs : cs.toList = ps.map Hd.v) (hl : ps.length = ls.length) (hm : ps.length ≤ 1000000) (h : ∀ i (h1 : i < ps.length) (h2 : i < ls.length), See w eB ps[i].v ls[i]) :
  Sees2 (w.alloc (.cells cs T)) eHB eB (.slice (some ⟨w.heap.size, 0, none⟩) n n) ps ls :=
 ⟨see_new eHB w ps cs T n hn (by rw [hcs, cells_hd]) (by unfold maxLen; omega), hl, fun i h1 h2 => (h i h1 h2).fr ((Fr.refl w).alloc _)⟩
theorem all2_any (va vb : Value) (la lb : List UInt8) (W : World) (ha : See W eB va la) (hb : See W eB vb lb) (hn : la.length + lb.length ≤ 1000000) :
  Calls Tryz.prog 35 #[.slice (some ⟨W.heap.size, 0, none⟩) 2 2] (W.alloc (.cells #[va, vb] 31)) fun e w' => ∃ v, e = .returned v ∧ Ow w' W.heap.size eB v (la ++ lb) ∧ Fr W w' := by
 obtain ⟨pa, rfl⟩ := hd_of ha
 obtain ⟨pb, rfl⟩ := hd_of hb
 have h2 := lit_sees2 W #[pa.v, pb.v] 31 [pa, pb] [la, lb] 2 rfl rfl rfl (by simp) (fun i h1 h2 => by
  match i, h1 with
  | 0, _ => exact ha
  | 1, _ => exact hb)
 refine (All_any _ _ _ _ h2 (by simp; omega)).mono ?_
 rintro e w' ⟨v, rfl, ho, hf⟩
 exact ⟨v, rfl, by simpa using ho.rebase (b := W.heap.size) (by simp), ((Fr.refl W).alloc _).trans hf⟩
theorem all3_any (va vb vc : Value) (la lb lc : List UInt8) (W : World) (ha : See W eB va la) (hb : See W eB vb lb) (hc : See W eB vc lc) (hn : la.length + lb.length + lc.length ≤ 1000000) :
  Calls Tryz.prog 35 #[.slice (some ⟨W.heap.size, 0, none⟩) 3 3] (W.alloc (.cells #[va, vb, vc] 31)) fun e w' => ∃ v, e = .returned v ∧ Ow w' W.heap.size eB v (la ++ lb ++ lc) ∧ Fr W w' := by
 obtain ⟨pa, rfl⟩ := hd_of ha
 obtain ⟨pb, rfl⟩ := hd_of hb
 obtain ⟨pc, rfl⟩ := hd_of hc
 have h2 := lit_sees2 W #[pa.v, pb.v, pc.v] 31 [pa, pb, pc] [la, lb, lc] 3 rfl rfl rfl (by simp) (fun i h1 h2 => by
  match i, h1 with
  | 0, _ => exact ha
  | 1, _ => exact hb
  | 2, _ => exact hc)
 refine (All_any _ _ _ _ h2 (by simp; omega)).mono ?_
 rintro e w' ⟨v, rfl, ho, hf⟩
 exact ⟨v, rfl, by simpa using ho.rebase (b := W.heap.size) (by simp), ((Fr.refl W).alloc _).trans hf⟩
def WrB (w : World) (base g : Nat) (T : TypeId) (rest : List Value) (bv : Value) (l : List UInt8) : Prop :=
 w.heap[g]? = some (.cells (bv :: N l.length :: rest).toArray T (0, 0)) ∧ Ow w base eB bv (packW l) ∧ g < base ∧ IsBits l
def WSt (g : Nat) (bv bv' : Value) (w w' : World) : Prop := Chg (fun k => k = g ∨ bv.ownBlock = some k) w w' ∧ ∀ b, bv'.ownBlock = some b → bv.ownBlock = some b ∨ w.heap.size ≤ b
theorem WSt.refl (g : Nat) (bv : Value) (w : World) : WSt g bv bv w w := ⟨Chg.refl _ w, fun _ h => .inl h⟩
theorem WSt.trans {g : Nat} {a b c : Value} {w w1 w2 : World} (h : WSt g a b w w1) (k : WSt g b c w1 w2) : WSt g a c w w2 :=
 ⟨h.1.trans k.1 (fun i hi hk => by
  rcases hk with e | e
  · exact .inl e
  · rcases h.2 i e with h2 | h2
    · exact .inr h2
    · omega), fun i hi => by
  rcases k.2 i hi with e | e
  · exact h.2 i e
  · exact .inr (Nat.le_trans h.1.size e)⟩
theorem WSt.fr {g : Nat} {a b : Value} {w w0 w1 : World} (hf : Fr w w0) (h : WSt g a b w0 w1) : WSt g a b w w1 :=
 ⟨(hf.chg _).trans h.1 (fun _ _ h => h), fun i hi => (h.2 i hi).imp id fun e => Nat.le_trans hf.size e⟩
theorem WSt.frR {g : Nat} {a b : Value} {w w0 w1 : World} (h : WSt g a b w w0) (hf : Fr w0 w1) : WSt g a b w w1 :=
 ⟨h.1.trans (hf.chg (fun k => k = g ∨ a.ownBlock = some k)) (fun _ _ h => h), h.2⟩
theorem WSt.heap {g : Nat} {a b : Value} {w w' : World} (h : WSt g a b w w') {k : Nat} {o : Obj} (hk : w.heap[k]? = some o) (hg : k ≠ g) (ha : a.ownBlock ≠ some k) : w'.heap[k]? = some o :=
 h.1.heap hk (fun e => e.elim hg ha)
set_option maxRecDepth 100000
theorem badd_any (x : UInt8) (hx : x = 0 ∨ x = 1) (base g : Nat) (T : TypeId) (rest : List Value) (bv : Value) (l : List UInt8) (w : World) (h : WrB w base g T rest bv l) (hl : l.length ≤ 1000000000) (hb : base ≤ w.heap.size) :
  Calls Tryz.prog 148 #[.pointer (some ⟨g, 0, none⟩), .int .u64 x.toNat] w fun e w' => e = .returned (.tuple #[]) ∧ ∃ bv', WrB w' base g T rest bv' (l ++ [x]) ∧ WSt g bv bv' w w' := by
 obtain ⟨hG, hown, hgb, hbits⟩ := h
 have e0 : w.cell? ⟨g, 0, none⟩ = some bv := by rw [cell_of_heap hG]; rfl
 have e1 : w.cell? ⟨g, 1, none⟩ = some (N l.length) := by rw [cell_of_heap hG]; rfl
 have z0 := frozen_of_heap hG 0
 have z1 := frozen_of_heap hG 1
 have hlen := packW_len l
 have hsn := packW_snoc l x hbits hx
 obtain ⟨m, hm⟩ : ∃ m, m = (if l.length % 8 = 0 then packW l ++ [0] else packW l) := ⟨_, rfl⟩
 have hml : l.length / 8 < m.length := by
  rw [hm]; split
  · rw [List.length_append, hlen]; simp; omega
  · rw [hlen]; omega
 have hmat : m[l.length / 8] = UInt8.ofNat (byteW l (l.length / 8)) := by
  by_cases h8 : l.length % 8 = 0
  · simp only [hm, if_pos h8]
    rw [List.getElem_append_right (by rw [hlen]; omega)]
    rw [byteW_zero l _ (by omega)]
    simp
  · simp only [hm, if_neg h8]
    exact packW_at l _ _
 rw [← hm] at hsn
 have HSN := hid hsn
 have HM := hid hm
 have HMAT := hid hmat
 have HLen := hid hlen
 clear hsn hm hmat hlen
 have hn0 : (0 : Int) ≤ l.length := by omega
 have hml2 : m.length ≤ (packW l).length + 1 := by rw [HM.out]; split <;> simp
 obtain ⟨bva, bvc, hbv⟩ := hown.shape'
 go_enter Tryz.func148, Tryz.ntmps148
 go_upto_if 9 with fail
 go_cut [] from 8 to 18 (fun wx => ∃ bv1, wx.heap[g]? = some (.cells (bv1 :: N l.length :: rest).toArray T (0, 0)) ∧ Ow wx base eB bv1 m ∧ WSt g bv bv1 w wx)
 case first =>
  by_cases h8 : l.length % 8 = 0
  · have h8' : (l.length : Int) % 8 = 0 := by omega
    have hx1 : (packW l).length + 1 ≤ 2147483648 := by rw [HLen.out]; omega
    have HMe : Hid (m = packW l ++ [0]) := by show _ = _; rw [HM.out, if_pos h8]
    subst hbv
    go_wp2_with (at_builtin; refine wpList_app1 eB rfl (.tmp 14) (.tmp 15) 31 rfl Tryz.underlying31 base rfl hown [0] _ _ _ rfl rfl rfl hx1 hb ?_)
    intro v' w4 hap
    have hG4 := hap.chg'.heap hG (fun e => by have := (hown.lt _ e).1; omega)
    have c0 : w4.cell? ⟨g, 0, none⟩ = some (.slice bva (packW l).length bvc) := by rw [cell_of_heap hG4]; rfl
    have c1 := frozen_of_heap hG4 0
    obtain ⟨va, vc, hv⟩ := hap.own.shape'
    rw [show (packW l ++ [(0 : UInt8)]).length = (packW l).length + 1 from by simp] at hv
    subst hv
    go_wp2_with fail
    go_meet
    refine ⟨_, heap_setCell_own hG4 0 _, ?_, ⟨?_, ?_⟩⟩
    · rw [HMe.out]; exact own_set_other hap.own hgb
    · exact (hap.chg'.mono (fun k _ h => Or.inr h)).trans (setCell_chg w4 ⟨g, 0, none⟩ _) (fun k _ h => Or.inl h)
    · exact hap.fresh
  · have h8' : ¬ (l.length : Int) % 8 = 0 := by omega
    have HMe : Hid (m = packW l) := by show _ = _; rw [HM.out, if_neg h8]
    go_wp2_with fail
    go_meet
    exact ⟨_, hG, by rw [HMe.out]; exact hown, WSt.refl g bv w⟩
 case rest =>
  obtain ⟨bv1, hG1, hown1, hst⟩ := hcut
  clear hG hown e0 e1 z0 z1
  have hne : m ≠ [] := by intro e; rw [e] at hml; simp at hml
  obtain ⟨q, cap, hv1, hq1, hq2, hq3, hq4⟩ := hown1.atHead hne
  subst hv1
  obtain ⟨c2, c3⟩ := hown1.cellAt (fun c => Fk.u8 c) rfl (l.length / 8) hml
  have hs1 := fun u x hx => hown1.set (fun c => Fk.u8 c) rfl (l.length / 8) hml x u hx
  rw [HMAT.out] at c2
  have hby := byteW_lt hbits (l.length / 8)
  generalize byteW l (l.length / 8) = y at *
  have e0 : wc.cell? ⟨g, 0, none⟩ = some (.slice (some ⟨q, 0, none⟩) m.length cap) := by rw [cell_of_heap hG1]; rfl
  have e1 : wc.cell? ⟨g, 1, none⟩ = some (N l.length) := by rw [cell_of_heap hG1]; rfl
  have i1 : (l.length : Int) / 8 < m.length := by omega
  have i2 : (0 : Int) ≤ (l.length : Int) / 8 := by omega
  have i3 : ((l.length : Int) / 8).toNat = l.length / 8 := by omega
  have i4 : (0 : Int) ≤ 7 - (l.length : Int) % 8 := by omega
  have i5 : (7 - (l.length : Int) % 8).toNat = 7 - l.length % 8 := by omega
  have hxb := UInt8.toNat_lt x
  have j1 : IntKind.i64.wrap ((l.length : Int) / 8) = (l.length : Int) / 8 := IntWalk.i64_in _ (by omega)
  have j2 : (l.length : Int).tmod 8 = (l.length : Int) % 8 := Int.tmod_eq_emod_of_nonneg (by omega)
  have j2' : IntKind.i64.wrap ((l.length : Int) % 8) = (l.length : Int) % 8 := IntWalk.i64_in _ (by omega)
  have j3 : IntKind.i64.wrap (7 - (l.length : Int) % 8) = 7 - (l.length : Int) % 8 := IntWalk.i64_in _ (by omega)
  have j4 : IntKind.u8.wrap (x.toNat : Int) = x.toNat := by rw [wrap_u8]; omega
  have hSl : x.toNat * 2 ^ (7 - l.length % 8) < 256 := by
   have h1 : x.toNat ≤ 1 := by rcases hx with rfl | rfl <;> decide
   have h2 : 2 ^ (7 - l.length % 8) ≤ 2 ^ 7 := Nat.pow_le_pow_right (by omega) (by omega)
   calc x.toNat * 2 ^ (7 - l.length % 8) ≤ 1 * 2 ^ 7 := Nat.mul_le_mul h1 h2
    _ < 256 := by decide
  have k1 : IntKind.u8.wrap ((x.toNat : Int) * 2 ^ (7 - l.length % 8)) = ((x.toNat * 2 ^ (7 - l.length % 8) : Nat) : Int) := by
   rw [wrap_u8]
   have e : ((x.toNat * 2 ^ (7 - l.length % 8) : Nat) : Int) = (x.toNat : Int) * 2 ^ (7 - l.length % 8) := by simp
   rw [← e]; omega
  have hor : y ||| x.toNat * 2 ^ (7 - l.length % 8) < 256 := Nat.or_lt_two_pow (n := 8) hby hSl
  generalize x.toNat * 2 ^ (7 - l.length % 8) = S at *
  have k2 : bits .or .u8 ((y : Int) % 256) (S : Int) = ((y ||| S : Nat) : Int) := by
   rw [show (y : Int) % 256 = y by omega]; exact or_u8 y S hby hSl
  have hs2 := hs1 (.int .u8 ((y ||| S : Nat) : Int)) (UInt8.ofNat (y ||| S)) (byte_val _ hor).symm
  clear hs1
  generalize y ||| S = z at *
  have hqg : q ≠ g := by omega
  have hG2 : (wc.setCell ⟨q, l.length / 8, none⟩ (.int .u8 (z : Int))).heap[g]? = some (.cells (.slice (some ⟨q, 0, none⟩) m.length cap :: N l.length :: rest).toArray T (0, 0)) := by
   rw [Below.heap_setCell _ _ _ _ (by simpa using fun e => hqg e.symm)]; exact hG1
  have hst2 : WSt g bv (.slice (some ⟨q, 0, none⟩) m.length cap) w (wc.setCell ⟨q, l.length / 8, none⟩ (.int .u8 (z : Int))) :=
   hst.trans ⟨(setCell_chg wc _ _).mono (fun k _ h => Or.inr (by rw [h]; rfl)), fun b hb => Or.inl hb⟩
  have d1 : (wc.setCell ⟨q, l.length / 8, none⟩ (.int .u8 (z : Int))).cell? ⟨g, 1, none⟩ = some (N l.length) := by rw [cell_of_heap hG2]; rfl
  have d2 := frozen_of_heap hG2 1
  have HSt2 := hid hst2
  have HS2 := hid hs2
  have HG2 := hid hG2
  clear hst2 hs2 hG2 hst hown1 hG1
  go_upto_region 2 with fail
  go_still_tail 22, (by kernel_rfl)
  change wpList _ _ _ _ _ wc.drew
  go_wp2_with fail
  go_end0
  refine ⟨rfl, .slice (some ⟨q, 0, none⟩) m.length cap, ⟨?_, ?_, hgb, hbits.app (by intro c hc; rw [List.mem_singleton] at hc; rw [hc]; exact hx)⟩, ?_⟩
  · have h2 := heap_setCell_own HG2.out 1 (.int .i64 ((l.length : Int) + 1))
    rw [List.setIfInBounds_toArray] at h2
    have e : (N (l ++ [x]).length : Value) = .int .i64 ((l.length : Int) + 1) := by rw [List.length_append]; rfl
    rw [e]
    exact h2
  · rw [HSN.out]
    exact (own_set_other HS2.out hgb).drew
  · exact (HSt2.out.trans (b := .slice (some ⟨q, 0, none⟩) m.length cap) (c := .slice (some ⟨q, 0, none⟩) m.length cap) ⟨(setCell_chg _ _ _).mono (fun k _ h => Or.inl h), fun b hb => Or.inl hb⟩).frR (Fr.drew (Fr.refl _))
set_option maxRecDepth 512
theorem and1_u64 (y : Nat) (h : y < 18446744073709551616) : bits .and .u64 (y : Int) 1 = ((y % 2 : Nat) : Int) := by
 show IntKind.u64.wrap ((BitVec.ofInt 64 (y : Int) &&& BitVec.ofInt 64 ((1 : Nat) : Int)).toNat : Int) = _
 rw [BitVec.toNat_and, of_int 64 y (by omega), of_int 64 1 (by omega), Nat.and_one_is_mod]
 simp only [IntKind.wrap, IntKind.bits, IntKind.signed]
 simp
 omega
theorem badd2_any (b : Nat) (hb : b ≤ 1) (base g : Nat) (T : TypeId) (rest : List Value) (bv : Value) (l : List UInt8) (w : World) (h : WrB w base g T rest bv l) (hl : l.length ≤ 1000000000) (hs : base ≤ w.heap.size) :
  Calls Tryz.prog 148 #[.pointer (some ⟨g, 0, none⟩), .int .u64 (b : Int)] w fun e w' => e = .returned (.tuple #[]) ∧ ∃ bv', WrB w' base g T rest bv' (l ++ [UInt8.ofNat b]) ∧ WSt g bv bv' w w' := by
 have e : ((UInt8.ofNat b).toNat : Int) = (b : Int) := by rw [UInt8.toNat_ofNat']; omega
 rw [← e]
 refine badd_any (UInt8.ofNat b) ?_ base g T rest bv l w h hl hs
 have : b = 0 ∨ b = 1 := by omega
 rcases this with rfl | rfl <;> simp
theorem WrB.drew {w : World} {base g : Nat} {T : TypeId} {rest : List Value} {bv : Value} {l : List UInt8} (h : WrB w base g T rest bv l) : WrB w.drew base g T rest bv l := ⟨h.1, h.2.1.drew, h.2.2⟩
theorem sh_zero (x n : Nat) (h : x < 2 ^ n) : (x : Int) / 2 ^ n = 0 := by
 have e : (x : Int) / 2 ^ n = ((x / 2 ^ n : Nat) : Int) := by simp
 rw [e, Nat.div_eq_of_lt h]; rfl
set_option maxRecDepth 100000
theorem bput_any (x n : Nat) (hn : n ≤ 64) (hx : x < 2 ^ n) (base g : Nat) (T : TypeId) (rest : List Value) (bv : Value) (l : List UInt8) (w : World) (h : WrB w base g T rest bv l) (hl : l.length + n ≤ 1000000000) (hs : base ≤ w.heap.size) :
  Calls Tryz.prog 105 #[.pointer (some ⟨g, 0, none⟩), .int .u64 (x : Int), N n] w fun e w' => e = .returned (.int .i64 0) ∧ ∃ bv', WrB w' base g T rest bv' (l ++ bitsL x n) ∧ WSt g bv bv' w w' := by
 have hx64 : x < 18446744073709551616 := by
  calc x < 2 ^ n := hx
   _ ≤ 2 ^ 64 := Nat.pow_le_pow_right (by omega) hn
 have hz := sh_zero x n hx
 have HA := hid (fun b hb W m bv' (h1 : WrB W base g T rest bv' m) (h2 : m.length ≤ 1000000000) (h3 : base ≤ W.heap.size) => badd2_any b hb base g T rest bv' m W h1 h2 h3)
 have hn0 : (0 : Int) ≤ n := by omega
 have hn1 : (n : Int) ≤ 64 := by omega
 have hw1 : IntKind.i64.wrap ((n : Int) - 1) = (n : Int) - 1 := IntWalk.i64_in _ (by omega)
 have d1 : decide ((n : Int) < 0) = false := by simp
 have d2 : decide ((64 : Int) < n) = false := by simp; omega
 have hc : decide ((n : Int) < 64) = true ∨ decide ((n : Int) < 64) = false := by cases decide ((n : Int) < 64) <;> simp
 rcases hc with d3 | d3
 all_goals
  go_enter Tryz.func105, Tryz.ntmps105
  go_wp2_with fail
  go_loopw [7] (fun iv wr => ∃ (j : Nat) (bv' : Value) (m : List UInt8), j ≤ n ∧ iv = .int .i64 ((j : Int) - 1) ∧ WrB wr base g T rest bv' m ∧ WSt g bv bv' w wr ∧ m.length ≤ 1000000000 - j ∧ Hid (l ++ bitsL x n = m ++ bitsL x j)) (fun iv _ => (intOf iv + 1).toNat)
  case atStart => exact ⟨n, bv, l, Nat.le_refl _, rfl, h, WSt.refl g bv w, by omega, rfl⟩
  case round =>
   clear h
   obtain ⟨j, bv', m, hj, rfl, hwr, hst, hml, HE⟩ := hrel
   rcases Nat.eq_zero_or_pos j with rfl | hp
   · have HE2 : Hid (l ++ bitsL x n = m) := by show _ = _; rw [HE.out, bitsL, List.append_nil]
     go_wp2_with fail
     go_ret
     exact ⟨rfl, bv', by rw [HE2.out]; exact hwr, hst⟩
   · obtain ⟨i, rfl⟩ : ∃ i, j = i + 1 := ⟨j - 1, by omega⟩
     have hi0 : ((i + 1 : Nat) : Int) - 1 = (i : Int) := by omega
     rw [hi0]
     have hw2 : IntKind.i64.wrap ((i : Int) - 1) = (i : Int) - 1 := IntWalk.i64_in _ (by omega)
     have hi1 : (0 : Int) ≤ i := by omega
     have hxi : x / 2 ^ i < 18446744073709551616 := Nat.lt_of_le_of_lt (Nat.div_le_self _ _) hx64
     have HXI := hid (and1_u64 (x / 2 ^ i) hxi)
     have hdv : (x : Int) / 2 ^ i = ((x / 2 ^ i : Nat) : Int) := by simp
     have hb1 : x / 2 ^ i % 2 ≤ 1 := by omega
     have HE2 : Hid (l ++ bitsL x n = (m ++ [UInt8.ofNat (x / 2 ^ i % 2)]) ++ bitsL x i) := by show _ = _; rw [HE.out, bitsL]; simp
     have HC := hid (HA.out (x / 2 ^ i % 2) hb1 wr.drew m bv' hwr.drew (by omega) (Nat.le_trans hs hst.1.size))
     clear hi0 HE
     generalize x / 2 ^ i = y at *
     have HY := hid hdv
     clear hdv hz hx
     have hb : bits .and .u64 ((x : Int) / 2 ^ i) 1 = ((y % 2 : Nat) : Int) := by rw [HY.out]; exact HXI.out
     clear hxi
     generalize y % 2 = b at *
     go_upto_region 6 with fail
     go_still_tail 7, (by kernel_rfl)
     change wpList _ _ _ _ _ wr.drew
     generalize hWD : wr.drew = WD at *
     have HWD := hid hWD
     clear hWD
     go_wp2_with fail
     refine HC.out.mono ?_
     rintro e w1 ⟨rfl, bv2, hwr2, hst2⟩
     go_wp2_with fail
     go_roundw
     case rel => exact ⟨i, bv2, _, by omega, rfl, hwr2, by rw [← HWD.out] at hst2; exact (hst.frR (Fr.drew (Fr.refl wr))).trans hst2, by rw [List.length_append]; simp; omega, HE2⟩
     case measure => simp [intOf]
set_option maxRecDepth 512
theorem bbytes_any (base g : Nat) (T : TypeId) (rest : List Value) (bv : Value) (l : List UInt8) (w : World) (h : WrB w base g T rest bv l) (hl : l.length ≤ 7999992) :
  Calls Tryz.prog 107 #[.pointer (some ⟨g, 0, none⟩)] w fun e w' => ∃ v, e = .returned v ∧ Ow w' w.heap.size eB v (packW l) ∧ Fr w w' := by
 obtain ⟨hG, hown, hgb, hbits⟩ := h
 have e0 : w.cell? ⟨g, 0, none⟩ = some bv := by rw [cell_of_heap hG]; rfl
 have HC := hid (BClone_any bv (packW l) w hown.see (by rw [packW_len]; omega))
 obtain ⟨va, vc, hv⟩ := hown.shape'
 subst hv
 go_enter Tryz.func107, Tryz.ntmps107
 go_wp2_with fail
 refine HC.out.mono ?_
 rintro e w1 ⟨v1, rfl, hown1, hf1⟩
 go_wp2_with fail
 go_ret
 exact ⟨_, rfl, hown1, hf1⟩
set_option maxRecDepth 100000
theorem bun_any (n : Nat) (hn : n ≤ 100000) (base g : Nat) (T : TypeId) (rest : List Value) (bv : Value) (l : List UInt8) (w : World) (h : WrB w base g T rest bv l) (hl : l.length + n + 1 ≤ 1000000000) (hs : base ≤ w.heap.size) :
  Calls Tryz.prog 106 #[.pointer (some ⟨g, 0, none⟩), N n] w fun e w' => e = .returned (.int .i64 0) ∧ ∃ bv', WrB w' base g T rest bv' (l ++ unaryL n) ∧ WSt g bv bv' w w' := by
 have HA0 := hid (fun W m bv' (h1 : WrB W base g T rest bv' m) (h2 : m.length ≤ 1000000000) (h3 : base ≤ W.heap.size) => badd2_any 0 (by omega) base g T rest bv' m W h1 h2 h3)
 have HA1 := hid (fun W m bv' (h1 : WrB W base g T rest bv' m) (h2 : m.length ≤ 1000000000) (h3 : base ≤ W.heap.size) => badd2_any 1 (by omega) base g T rest bv' m W h1 h2 h3)
 have d1 : decide ((n : Int) < 0) = false := by simp
 have d2 : decide ((100000 : Int) < n) = false := by simp; omega
 have d3 : ¬ (100000 : Int) < n := by omega
 go_enter Tryz.func106, Tryz.ntmps106
 go_wp2_with fail
 go_loopw [16] (fun iv wr => ∃ (i : Nat) (bv' : Value), i ≤ n ∧ iv = N i ∧ WrB wr base g T rest bv' (l ++ List.replicate i 0) ∧ WSt g bv bv' w wr) (fun iv _ => n - (intOf iv).toNat)
 case atStart => exact ⟨0, bv, Nat.zero_le _, rfl, by simpa using h, WSt.refl g bv w⟩
 case round =>
  clear h
  obtain ⟨i, bv', hi, rfl, hwr, hst⟩ := hrel
  have hsz : base ≤ wr.heap.size := Nat.le_trans hs hst.1.size
  have hll : (l ++ List.replicate i (0 : UInt8)).length ≤ 1000000000 := by simp; omega
  by_cases hlt : i < n
  · have hlt' : (i : Int) < n := by omega
    have HE : Hid (l ++ List.replicate (i + 1) (0 : UInt8) = (l ++ List.replicate i 0) ++ [UInt8.ofNat 0]) := by show _ = _; rw [List.replicate_succ', List.append_assoc]; rfl
    generalize l ++ List.replicate i (0 : UInt8) = m at *
    go_wp2_with fail
    refine (HA0.out wr m bv' hwr hll hsz).mono ?_
    rintro e w1 ⟨rfl, bv2, hwr2, hst2⟩
    go_wp2_with fail
    go_roundw
    case rel => exact ⟨i + 1, bv2, by omega, by go_num, by rw [HE.out]; exact hwr2, hst.trans hst2⟩
    case measure => simp [intOf]; omega
  · obtain rfl : i = n := by omega
    have hnl : ¬ ((i : Int) < i) := by omega
    have HE : Hid (l ++ unaryL i = (l ++ List.replicate i 0) ++ [UInt8.ofNat 1]) := by show _ = _; unfold unaryL; rw [List.append_assoc]; rfl
    generalize l ++ List.replicate i (0 : UInt8) = m at *
    go_wp2_with fail
    refine (HA1.out wr m bv' hwr hll hsz).mono ?_
    rintro e w1 ⟨rfl, bv2, hwr2, hst2⟩
    go_wp2_with fail
    go_ret
    exact ⟨rfl, bv2, by rw [HE.out]; exact hwr2, hst.trans hst2⟩
set_option maxRecDepth 512
def WrR (w : World) (base g : Nat) (T : TypeId) (bv : Value) (l : List UInt8) : Prop := w.heap[g]? = some (.cells #[bv] T (0, 0)) ∧ Ow w base eB bv l ∧ g < base ∧ IsBits l
def lowL (x k : Nat) : List UInt8 := (List.range k).map fun i => UInt8.ofNat (x / 2 ^ i % 2)
theorem lowL_snoc (x k : Nat) : lowL x (k + 1) = lowL x k ++ [UInt8.ofNat (x / 2 ^ k % 2)] := by simp [lowL, List.range_succ]
theorem lowL_len (x k : Nat) : (lowL x k).length = k := by simp [lowL]
theorem lowL_at (x k i : Nat) (h : i < (lowL x k).length) : (lowL x k)[i] = UInt8.ofNat (x / 2 ^ i % 2) := by simp [lowL]
theorem wrR_app {w w4 : World} {base g : Nat} {T : TypeId} {bv v' : Value} {l : List UInt8} {c : UInt8} (h : WrR w base g T bv l) (hap : App base eB (l ++ [c]) w bv v' w4) (hc : c = 0 ∨ c = 1) :
  WrR (w4.setCell ⟨g, 0, none⟩ v') base g T v' (l ++ [c]) ∧ WSt g bv v' w (w4.setCell ⟨g, 0, none⟩ v') := by
 obtain ⟨hG, hown, hgb, hbits⟩ := h
 have k0 := hap.chg'.heap hG (fun e => by have := (hown.lt _ e).1; omega)
 refine ⟨⟨?_, own_set_other hap.own hgb, hgb, hbits.app (by intro x hx; rw [List.mem_singleton] at hx; rw [hx]; exact hc)⟩, ?_, hap.fresh⟩
 · have := heap_setCell_own k0 0 v'
   simpa using this
 · exact (hap.chg'.mono (fun k _ h => Or.inr h)).trans (setCell_chg w4 ⟨g, 0, none⟩ _) (fun k _ h => Or.inl h)
set_option maxRecDepth 100000
theorem Rput_any (x n : Nat) (hn : n ≤ 64) (hx : x < 2 ^ n) (base g : Nat) (T : TypeId) (bv : Value) (l : List UInt8) (w : World) (h : WrR w base g T bv l) (hl : l.length + n ≤ 1000000000) (hs : base ≤ w.heap.size) :
  Calls Tryz.prog 129 #[.pointer (some ⟨g, 0, none⟩), .int .u64 (x : Int), N n] w fun e w' => e = .returned (.int .i64 0) ∧ ∃ bv', WrR w' base g T bv' (l ++ bitsL x n) ∧ WSt g bv bv' w w' := by
 have hx64 : x < 18446744073709551616 := by
  calc x < 2 ^ n := hx
   _ ≤ 2 ^ 64 := Nat.pow_le_pow_right (by omega) hn
 have d1 : decide ((n : Int) < 0) = false := by simp
 have d2 : ¬ (64 : Int) < n := by omega
 have d3 : ¬ (n : Int) < 0 := by omega
 have HDiv : Hid (x / 2 ^ n = 0) := Nat.div_eq_of_lt hx
 have hw1 : IntKind.i64.wrap ((n : Int) - 1) = (n : Int) - 1 := IntWalk.i64_in _ (by omega)
 have hgw : g < w.heap.size := by have := h.2.2.1; omega
 go_enter Tryz.func129, Tryz.ntmps129
 go_wp2_with fail
 go_loopw [1, 7, 8] (fun xv lv iv wr => ∃ (k y : Nat), k ≤ n ∧ iv = N k ∧ xv = .int .u64 (y : Int) ∧ y < 18446744073709551616 ∧ Hid (y = x / 2 ^ k) ∧ Ow wr w.heap.size eB lv (lowL x k) ∧ Fr w wr) (fun _ _ iv _ => n - (intOf iv).toNat)
 case atStart => exact ⟨0, x, Nat.zero_le _, rfl, rfl, hx64, by show _ = _; simp, Ow.nil, Fr.refl w⟩
 case round =>
  obtain ⟨k, y, hk, rfl, rfl, hy, HY, hlow, hf⟩ := hrel
  by_cases hlt : k < n
  · have hlt' : (k : Int) < n := by omega
    have y1 : (0 : Int) ≤ y := by omega
    have y2 : (y : Int) < 18446744073709551616 := by omega
    have HB : Hid ((#[Value.int .u8 ((y : Int) % 2)] : Array Value).toList = eB.cells [UInt8.ofNat (y % 2)]) := by
     show _ = _
     have := byte_cell (y % 2) (by omega)
     rw [show ((y % 2 : Nat) : Int) = (y : Int) % 2 by omega] at this
     exact this
    have hw2 : IntKind.u8.wrap ((y : Int) % 2) = (y : Int) % 2 := by rw [wrap_u8]; omega
    have HL : Hid (lowL x (k + 1) = lowL x k ++ [UInt8.ofNat (y % 2)]) := by show _ = _; rw [lowL_snoc, HY.out]
    have HY2 : Hid (y / 2 = x / 2 ^ (k + 1)) := by show _ = _; rw [HY.out, Nat.div_div_eq_div_mul, Nat.pow_succ]
    have hc1 : (lowL x k).length + 1 ≤ 2147483648 := by rw [lowL_len]; omega
    go_wp2_with (at_builtin; refine wpList_app1 eB rfl (.tmp 21) (.tmp 25) 31 rfl Tryz.underlying31 w.heap.size rfl hlow [UInt8.ofNat (y % 2)] _ _ _ HB.out rfl rfl hc1 hf.size ?_)
    intro v' w4 hap
    go_wp2_with fail
    go_roundw
    case rel => exact ⟨k + 1, y / 2, by omega, by go_num, by go_num, by omega, HY2, by rw [HL.out]; exact hap.own, hap.below hlow hf (Nat.le_refl _) hf.size⟩
    case measure => simp [intOf]; omega
  · obtain rfl : k = n := by omega
    have hnl : ¬ ((k : Int) < k) := by omega
    obtain rfl : y = 0 := by rw [HY.out, HDiv.out]
    obtain ⟨la, lc, hlv⟩ := hlow.shape'
    rw [lowL_len] at hlv
    subst hlv
    have hown := h.2.1.fr hf
    have hap0 := apart_of h.2.1 hlow (Nat.le_refl _)
    have hW0 : WrR wr base g T bv l := ⟨hf.heap h.1, hown, h.2.2⟩
    have hst0 : WSt g bv bv w wr := WSt.fr hf (WSt.refl g bv wr)
    clear hown
    rw [show ((0 : Nat) : Int) = 0 from rfl]
    go_wp2_with fail
    go_loopw [9] (fun iv wr => ∃ (j : Nat) (bv' : Value) (m : List UInt8), j ≤ k ∧ iv = .int .i64 ((j : Int) - 1) ∧ WrR wr base g T bv' m ∧ WSt g bv bv' w wr ∧ Ow wr w.heap.size eB (.slice la k lc) (lowL x k) ∧ Hid ((Value.slice la k lc).ownBlock = none ∨ (Value.slice la k lc).ownBlock ≠ bv'.ownBlock) ∧ m.length ≤ 1000000000 - j ∧ Hid (l ++ bitsL x k = m ++ bitsL x j)) (fun iv _ => (intOf iv + 1).toNat)
    case atStart => exact ⟨k, bv, l, Nat.le_refl _, rfl, hW0, hst0, hlow, hap0, by omega, rfl⟩
    case round =>
     clear hW0 hst0 hlow hap0 hf
     obtain ⟨j, bv', m, hj, rfl, hwr, hst, hlow, HAP, hml, HE⟩ := hrel
     rcases Nat.eq_zero_or_pos j with rfl | hp
     · have HE2 : Hid (l ++ bitsL x k = m) := by show _ = _; rw [HE.out, bitsL, List.append_nil]
       go_wp2_with fail
       go_ret
       exact ⟨rfl, bv', by rw [HE2.out]; exact hwr, hst⟩
     · obtain ⟨i, rfl⟩ : ∃ i, j = i + 1 := ⟨j - 1, by omega⟩
       have hi0 : ((i + 1 : Nat) : Int) - 1 = (i : Int) := by omega
       rw [hi0]
       have hw2 : IntKind.i64.wrap ((i : Int) - 1) = (i : Int) - 1 := IntWalk.i64_in _ (by omega)
       have hi1 : (0 : Int) ≤ i := by omega
       have hi2 : (i : Int) < k := by omega
       obtain ⟨b, off, cap, hv, e1⟩ := hlow.see.cell1 (fun c => Fk.u8 c) rfl i (by rw [lowL_len]; omega)
       rw [lowL_at, lowL_len] at *
       have HE2 : Hid (l ++ bitsL x k = (m ++ [UInt8.ofNat (x / 2 ^ i % 2)]) ++ bitsL x i) := by show _ = _; rw [HE.out, bitsL]; simp
       have hbit : UInt8.ofNat (x / 2 ^ i % 2) = 0 ∨ UInt8.ofNat (x / 2 ^ i % 2) = 1 := bit_of _
       have HBit := hid hbit
       clear hbit hi0 HE
       generalize UInt8.ofNat (x / 2 ^ i % 2) = c at *
       have HWR := hid hwr
       obtain ⟨hG, hown, hgb, hbits⟩ := hwr
       have e0 : wr.cell? ⟨g, 0, none⟩ = some bv' := by rw [cell_of_heap hG]; rfl
       have e0a : (wr.alloc (.cells #[Fk.u8 c] 5)).cell? ⟨g, 0, none⟩ = some bv' := by rw [cell_of_heap ((heap_old _ _ _ (Array.getElem?_eq_some_iff.1 hG).1).trans hG)]; rfl
       have HC1 : Hid (m.length + [c].length ≤ 2147483648) := by show _ ≤ _; simp; omega
       have hws := hst.1.size
       have HSZ : Hid (base ≤ wr.heap.size) := by show _ ≤ wr.heap.size; omega
       obtain ⟨va, vc, hbv⟩ := hown.shape'
       subst hbv
       cases hv
       go_upto_region 14 with fail
       go_region_law (first
        | (refine step_app1d eB rfl (.tmp 41) (.tmp 46) 31 rfl Tryz.underlying31 base rfl hown [c] _ _ _ rfl rfl rfl HC1.out HSZ.out ?_
           intro v' w4 hap
           have own4 := hap.own
           obtain ⟨va', vc', hv'⟩ := own4.shape'
           rw [show (m ++ [c]).length = m.length + 1 from by simp] at hv'
           subst hv'
           have k0 := hap.chg'.heap hG (fun e => by have := (hown.lt _ e).1; omega)
           have e3 : ∃ u, w4.cell? ⟨g, 0, none⟩ = some u := ⟨_, by rw [cell_of_heap k0]; rfl⟩
           obtain ⟨u0, e3⟩ := e3
           have e4 : w4.frozen? ⟨g, 0, none⟩ = false := frozen_of_heap k0 0))
       all_goals go_wp2_with fail
       all_goals
        obtain ⟨r1, r2⟩ := wrR_app HWR.out hap HBit.out
        have r3 := own_set_other (i := 0) (u := Value.slice va' (m.length + 1) vc') (hap.other hlow HAP.out) hgw
        exact ⟨⟨i, _, _, by omega, rfl, r1, hst.trans r2, r3, hap.apart hlow HAP.out, by rw [List.length_append]; simp; omega, HE2⟩, by simp [intOf]⟩
theorem Run_any (n : Nat) (hn : n ≤ 100000) (base g : Nat) (T : TypeId) (bv : Value) (l : List UInt8) (w : World) (h : WrR w base g T bv l) (hl : l.length + n + 1 ≤ 1000000000) (hs : base ≤ w.heap.size) :
  Calls Tryz.prog 130 #[.pointer (some ⟨g, 0, none⟩), N n] w fun e w' => e = .returned (.int .i64 0) ∧ ∃ bv', WrR w' base g T bv' (l ++ unaryL n) ∧ WSt g bv bv' w w' := by
 have d1 : ¬ (n : Int) < 0 := by omega
 have d3 : ¬ (100000 : Int) < n := by omega
 go_enter Tryz.func130, Tryz.ntmps130
 go_wp2_with fail
 go_loopw [5] (fun iv wr => ∃ (i : Nat) (bv' : Value) (m : List UInt8), i ≤ n ∧ iv = N i ∧ WrR wr base g T bv' m ∧ WSt g bv bv' w wr ∧ Hid (m = l ++ List.replicate i 0) ∧ m.length ≤ 1000000000 - 1) (fun iv _ => n - (intOf iv).toNat)
 case atStart => exact ⟨0, bv, l, Nat.zero_le _, rfl, h, WSt.refl g bv w, by show _ = _; simp, by omega⟩
 case round =>
  clear h
  obtain ⟨i, bv', m, hi, rfl, hwr, hst, HM, hml⟩ := hrel
  have HWR := hid hwr
  obtain ⟨hG, hown, hgb, hbits⟩ := hwr
  have e0 : wr.cell? ⟨g, 0, none⟩ = some bv' := by rw [cell_of_heap hG]; rfl
  have hsz : base ≤ wr.heap.size := Nat.le_trans hs hst.1.size
  obtain ⟨va, vc, hbv⟩ := hown.shape'
  subst hbv
  have hx1 : m.length + 1 ≤ 2147483648 := by omega
  by_cases hlt : i < n
  · have hlt' : (i : Int) < n := by omega
    go_wp2_with (at_builtin; refine wpList_app1 eB rfl (.tmp 21) (.tmp 22) 31 rfl Tryz.underlying31 base rfl hown [0] _ _ _ rfl rfl rfl hx1 hsz ?_)
    intro v' w4 hap
    obtain ⟨va', vc', hv'⟩ := hap.own.shape'
    rw [show (m ++ [(0 : UInt8)]).length = m.length + 1 from by simp] at hv'
    subst hv'
    obtain ⟨r1, r2⟩ := wrR_app HWR.out hap (.inl rfl)
    have k0 := hap.chg'.heap hG (fun e => by have := (hown.lt _ e).1; omega)
    have e3 : w4.cell? ⟨g, 0, none⟩ = some (.slice va m.length vc) := by rw [cell_of_heap k0]; rfl
    have e4 : w4.frozen? ⟨g, 0, none⟩ = false := frozen_of_heap k0 0
    clear k0
    go_wp2_with fail
    go_roundw
    case rel => exact ⟨i + 1, _, _, by omega, by go_num, r1, hst.trans r2, by show _ = _; rw [HM.out, List.replicate_succ', List.append_assoc], by have := HM.out; rw [List.length_append, this]; simp; omega⟩
    case measure => simp [intOf]; omega
  · obtain rfl : i = n := by omega
    have hnl : ¬ ((i : Int) < i) := by omega
    go_wp2_with (at_builtin; refine wpList_app1 eB rfl (.tmp 30) (.tmp 31) 31 rfl Tryz.underlying31 base rfl hown [1] _ _ _ rfl rfl rfl hx1 hsz ?_)
    intro v' w4 hap
    obtain ⟨va', vc', hv'⟩ := hap.own.shape'
    rw [show (m ++ [(1 : UInt8)]).length = m.length + 1 from by simp] at hv'
    subst hv'
    obtain ⟨r1, r2⟩ := wrR_app HWR.out hap (.inr rfl)
    have k0 := hap.chg'.heap hG (fun e => by have := (hown.lt _ e).1; omega)
    have e3 : w4.cell? ⟨g, 0, none⟩ = some (.slice va m.length vc) := by rw [cell_of_heap k0]; rfl
    have e4 : w4.frozen? ⟨g, 0, none⟩ = false := frozen_of_heap k0 0
    clear k0
    go_wp2_with fail
    go_ret
    refine ⟨rfl, _, ?_, hst.trans r2⟩
    have e : l ++ unaryL i = m ++ [1] := by rw [HM.out]; unfold unaryL; rw [List.append_assoc]
    rw [e]; exact r1
set_option maxRecDepth 512
def partW (l : List UInt8) (q : Nat) : Nat → Nat
 | 0 => 0
 | t + 1 => 2 * partW l q t + bitD l (8 * q + t)
theorem partW_all (l : List UInt8) (q : Nat) : partW l q 8 = byteW l q := by
 simp only [partW, byteW, Nat.add_zero]; omega
theorem partW_lt {l : List UInt8} (h : IsBits l) (q t : Nat) : partW l q t < 2 ^ t := by
 induction t with
 | zero => simp [partW]
 | succ t ih => have := bitD_le h (8 * q + t); rw [partW, Nat.pow_succ]; omega
set_option maxRecDepth 100000
theorem Rbytes_any (base g : Nat) (T : TypeId) (bv : Value) (l : List UInt8) (w : World) (h : WrR w base g T bv l) (hl : l.length ≤ 7999992) :
  Calls Tryz.prog 131 #[.pointer (some ⟨g, 0, none⟩)] w fun e w' => ∃ v, e = .returned v ∧ Ow w' w.heap.size eB v (packW l) ∧ Fr w w' := by
 obtain ⟨hG, hown, hgb, hbits⟩ := h
 have hsee := hown.see
 obtain ⟨va, vc, hv⟩ := hown.shape'
 subst hv
 clear hown
 go_enter Tryz.func131, Tryz.ntmps131
 go_wp2_with fail
 go_loopw [3, 4] (fun ov iv wr => ∃ q : Nat, q ≤ (l.length + 7) / 8 ∧ iv = .int .i64 (8 * (q : Int)) ∧ Ow wr w.heap.size eB ov ((packW l).take q) ∧ Fr w wr) (fun _ iv _ => l.length + 8 - (intOf iv).toNat)
 case atStart => exact ⟨0, Nat.zero_le _, rfl, Ow.nil, Fr.refl w⟩
 case round =>
  obtain ⟨q, hq, rfl, hout, hf⟩ := hrel
  have e0 : wr.cell? ⟨g, 0, none⟩ = some (.slice va l.length vc) := by rw [cell_of_heap (hf.heap hG)]; rfl
  have q0 : (0 : Int) ≤ 8 * (q : Int) := by omega
  by_cases hlt : q < (l.length + 7) / 8
  · have hlt' : 8 * (q : Int) < l.length := by omega
    have HT : Hid ((packW l).take (q + 1) = (packW l).take q ++ [UInt8.ofNat (partW l q 8)]) := by
     show _ = _
     rw [List.take_succ_eq_append_getElem (by rw [packW_len]; exact hlt), packW_at, partW_all]
    have HTl : Hid (((packW l).take q).length = q) := by show _ = _; rw [List.length_take, packW_len]; omega
    have hseeq := hsee.fr hf
    go_wp2_with fail
    go_loop [5, 6] (fun cv kv => ∃ t : Nat, t ≤ 8 ∧ kv = .int .i64 (8 * (q : Int) + t) ∧ cv = N (partW l q t)) (fun _ kv => (8 * (q : Int) + 8 - intOf kv).toNat)
    case atStart => exact ⟨0, by omega, by simp, rfl⟩
    case round =>
     obtain ⟨t, ht, rfl, rfl⟩ := hrel
     have hpl := partW_lt hbits q t
     have hpl2 : 2 ^ t ≤ 2 ^ 8 := Nat.pow_le_pow_right (by omega) ht
     have hp256 : partW l q t ≤ 256 := by omega
     clear hpl hpl2
     by_cases ht8 : t < 8
     · have ht' : 8 * (q : Int) + t < 8 * (q : Int) + 8 := by omega
       have HP : Hid (partW l q (t + 1) = 2 * partW l q t + bitD l (8 * q + t)) := rfl
       have kge : (0 : Int) ≤ 8 * (q : Int) + t := by omega
       by_cases hin : 8 * q + t < l.length
       · have hin' : 8 * (q : Int) + t < l.length := by omega
         obtain ⟨b, off, cap, hv2, e1⟩ := hseeq.cell1 (fun c => Fk.u8 c) rfl (8 * q + t) hin
         have hb1 := bitD_le hbits (8 * q + t)
         have HB : Hid (bitD l (8 * q + t) = l[8 * q + t].toNat) := by show _ = _; unfold bitD; rw [getD_at l _ _ hin]
         generalize bitD l (8 * q + t) = bb at *
         generalize l[8 * q + t] = c at *
         have hcn : c.toNat ≤ 1 := by rw [← HB.out]; exact hb1
         generalize partW l q t = p at *
         cases hv2
         have ktn : (8 * (q : Int) + t).toNat = 8 * q + t := by omega
         go_wp2_with fail
         go_round
         case rel => exact ⟨t + 1, by omega, by go_num, by rw [HP.out, HB.out]; go_num⟩
         case measure => simp [intOf]; omega
       · have hin' : ¬ 8 * (q : Int) + t < l.length := by omega
         have HB : Hid (bitD l (8 * q + t) = 0) := bitD_out l _ (by omega)
         generalize partW l q t = p at *
         go_wp2_with fail
         go_round
         case rel => exact ⟨t + 1, by omega, by go_num, by rw [HP.out, HB.out]; go_num⟩
         case measure => simp [intOf]; omega
     · obtain rfl : t = 8 := by omega
       have hnt : ¬ (8 * (q : Int) + 8 < 8 * (q : Int) + 8) := by omega
       have hp8 : partW l q 8 < 256 := by rw [partW_all]; exact byteW_lt hbits q
       have hw2 : IntKind.u8.wrap (partW l q 8 : Int) = partW l q 8 := by rw [wrap_u8]; omega
       have hc1 : ((packW l).take q).length + 1 ≤ 2147483648 := by rw [HTl.out]; omega
       have HBc := hid (byte_cell (partW l q 8) hp8)
       generalize partW l q 8 = p at *
       go_wp2_with (at_builtin; refine wpList_app1 eB rfl (.tmp 42) (.tmp 45) 31 rfl Tryz.underlying31 w.heap.size rfl hout [UInt8.ofNat p] _ _ _ HBc.out rfl rfl hc1 hf.size ?_)
       intro v' w4 hap
       go_wp2_with fail
       go_roundw
       case rel => exact ⟨q + 1, by omega, by go_num, by rw [HT.out]; exact hap.own, hap.below hout hf (Nat.le_refl _) hf.size⟩
       case measure => simp [intOf]; omega
  · have hnl : ¬ 8 * (q : Int) < l.length := by omega
    rw [List.take_of_length_le (by rw [packW_len]; omega)] at hout
    go_wp2_with fail
    go_ret
    exact ⟨_, rfl, hout, hf⟩
set_option maxRecDepth 512
theorem jAt {w : World} {v : Value} {l : List Nat} (h : See w eJ v l) (k : Nat) (hk : k < l.length) :
  ∃ b off cap, v = .slice (some ⟨b, off, none⟩) l.length cap ∧ w.cell? ⟨b, off + k, none⟩ = some (N l[k]) := by
 obtain ⟨b, off, cap, rfl, h1, h2, h3⟩ := h.cells (by intro e; simp [e] at hk)
 have e0 := h3 k hk 0 (by decide) _ rfl
 exact ⟨b, off, cap, rfl, by simpa [eJ] using e0⟩
set_option maxRecDepth 100000
theorem rises_any (bound : Nat) (v : Value) (l : List Nat) (w : World) (hs : See w eJ v l) :
  Calls Tryz.prog 102 #[N bound, v] w fun e w' => e = .returned (.bool (risesGo bound 0 l)) ∧ Fr w w' := by
 obtain ⟨a, cap, hv, hcap1, hcap2, hnone⟩ := hs.shape
 subst hv
 unfold maxLen at hcap2
 go_enter Tryz.func102, Tryz.ntmps102
 go_wp2_with fail
 go_loopw [5, 10] (fun tv iv wr => ∃ k lo : Nat, k ≤ l.length ∧ iv = N k ∧ tv = .int .i64 ((lo : Int) - 1) ∧ Hid (risesGo bound 0 l = risesGo bound lo (l.drop k)) ∧ Fr w wr) (fun _ iv _ => l.length - (intOf iv).toNat)
 case atStart => exact ⟨0, 0, Nat.zero_le _, rfl, rfl, rfl, Fr.refl w⟩
 case round =>
  obtain ⟨k, lo, hk, rfl, rfl, HI, hf⟩ := hrel
  by_cases hlt : k < l.length
  · obtain ⟨b, off, cap', hv, c0⟩ := jAt (hs.fr hf) k hlt
    have HC := hid (rises_cons bound lo l k hlt)
    generalize l[k] = x at *
    cases hv
    have i1 : (0 : Int) ≤ k := by omega
    have i2 : (k : Int) < l.length := by omega
    by_cases h1 : lo ≤ x
    · have h1' : decide ((x : Int) ≤ (lo : Int) - 1) = false := by simp; omega
      have h1'' : ¬ (x : Int) ≤ (lo : Int) - 1 := by omega
      by_cases h2 : x < bound
      · have h2' : decide ((bound : Int) ≤ x) = false := by simp; omega
        have h2'' : decide (bound ≤ x) = false := by simp; omega
        have HE : Hid (risesGo bound 0 l = risesGo bound (x + 1) (l.drop (k + 1))) := by
         show _ = _; rw [HI.out, HC.out, decide_eq_true h1, decide_eq_true h2]; rfl
        clear HI HC
        go_wp2_with fail
        exact ⟨⟨k + 1, x + 1, by omega, by go_num, by rw [show (((x + 1 : Nat) : Int) - 1) = (x : Int) from by omega], HE.out, hf⟩, by simp [intOf]; omega⟩
      · have h2' : decide ((bound : Int) ≤ x) = true := decide_eq_true (by omega)
        have h2'' : (bound : Int) ≤ x := by omega
        have HE : Hid (risesGo bound 0 l = false) := by
         show _ = _; rw [HI.out, HC.out, decide_eq_false h2]; simp
        clear HI HC
        go_wp2_with fail
        go_ret
        exact ⟨by rw [HE.out]; rfl, hf⟩
    · have h1' : decide ((x : Int) ≤ (lo : Int) - 1) = true := by simp; omega
      have h1'' : (x : Int) ≤ (lo : Int) - 1 := by omega
      have HE : Hid (risesGo bound 0 l = false) := by
       show _ = _; rw [HI.out, HC.out, decide_eq_false h1]; simp
      clear HI HC
      go_wp2_with fail
      go_ret
      exact ⟨by rw [HE.out]; rfl, hf⟩
  · obtain rfl : k = l.length := by omega
    have hnl : ¬ ((l.length : Int) < l.length) := by omega
    have HE : Hid (risesGo bound 0 l = true) := by show _ = _; rw [HI.out, List.drop_length, risesGo]
    go_wp2_with fail
    go_ret
    exact ⟨by rw [HE.out]; rfl, hf⟩
theorem REfMay_any (bound : Nat) (v : Value) (l : List Nat) (w : World) (hs : See w eJ v l) :
  Calls Tryz.prog 125 #[N bound, v] w fun e w' => e = .returned (.bool (risesGo bound 0 l)) ∧ Fr w w' := by
 obtain ⟨a, cap, hv, hcap1, hcap2, hnone⟩ := hs.shape
 subst hv
 unfold maxLen at hcap2
 go_enter Tryz.func125, Tryz.ntmps125
 go_wp2_with fail
 go_loopw [5] (fun iv wr => ∃ k lo : Nat, k ≤ l.length ∧ iv = N k ∧ Hid ((k = 0 ∧ lo = 0) ∨ (0 < k ∧ ∃ y, l[k - 1]? = some y ∧ lo = y + 1)) ∧ Hid (risesGo bound 0 l = risesGo bound lo (l.drop k)) ∧ Fr w wr) (fun iv _ => l.length - (intOf iv).toNat)
 case atStart => exact ⟨0, 0, Nat.zero_le _, rfl, .inl ⟨rfl, rfl⟩, rfl, Fr.refl w⟩
 case round =>
  obtain ⟨k, lo, hk, rfl, HL, HI, hf⟩ := hrel
  by_cases hlt : k < l.length
  · obtain ⟨b, off, cap', hv, c0⟩ := jAt (hs.fr hf) k hlt
    have HC := hid (rises_cons bound lo l k hlt)
    have HG : Hid (l[k]? = some l[k]) := List.getElem?_eq_getElem hlt
    generalize l[k] = x at *
    cases hv
    have i1 : (0 : Int) ≤ k := by omega
    have i2 : (k : Int) < l.length := by omega
    have hx0 : decide ((x : Int) < 0) = false := by simp
    by_cases h2 : x < bound
    · have h2' : decide ((bound : Int) ≤ x) = false := by simp; omega
      have h2'' : decide (bound ≤ x) = false := by simp; omega
      by_cases h1 : lo ≤ x
      · have HE : Hid (risesGo bound 0 l = risesGo bound (x + 1) (l.drop (k + 1))) := by
          show _ = _; rw [HI.out, HC.out, decide_eq_true h1, decide_eq_true h2]; rfl
        have HE2 : Hid ((k + 1 = 0 ∧ x + 1 = 0) ∨ (0 < k + 1 ∧ ∃ y, l[k + 1 - 1]? = some y ∧ x + 1 = y + 1)) := .inr ⟨by omega, x, by simpa using HG.out, rfl⟩
        rcases HL.out with ⟨h3, h4⟩ | ⟨h3, y, h4, h5⟩
        · have hk1 : decide ((0 : Int) < k) = false := by simp; omega
          have hk2 : decide (0 < k) = false := by simp; omega
          clear HI HC HL HG h3 h4
          go_upto_region 4 with fail
          go_quiet (fail)
          go_wp2_with fail
          exact ⟨⟨k + 1, x + 1, by omega, by go_num, HE2.out, HE.out, hf.drewN _⟩, by simp [intOf]; omega⟩
        · obtain ⟨b', off', cap2, hv2, d0⟩ := jAt (hs.fr hf) (k - 1) (by omega)
          have hy : l[k - 1] = y := by rw [List.getElem?_eq_getElem (by omega)] at h4; exact Option.some.inj h4
          rw [hy] at d0
          cases hv2
          have hkk : k - 1 < l.length := by omega
          have hk1 : IntKind.i64.wrap ((k : Int) - 1) = ((k - 1 : Nat) : Int) := by rw [IntWalk.i64_in _ (by omega)]; omega
          clear hy h4 HL HG HI HC
          generalize k - 1 = k1 at *
          have j1 : (0 : Int) ≤ (k1 : Nat) := by omega
          have j2 : ((k1 : Nat) : Int) < l.length := by omega
          have hk2 : (0 : Int) < k := by omega
          have hxy : decide ((x : Int) ≤ y) = false := by simp; omega
          have hxy2 : decide (x ≤ y) = false := by simp; omega
          clear h5
          go_upto_region 4 with fail
          go_quiet (fail)
          go_wp2_with fail
          exact ⟨⟨k + 1, x + 1, by omega, by go_num, HE2.out, HE.out, hf.drewN _⟩, by simp [intOf]; omega⟩
      · have HE : Hid (risesGo bound 0 l = false) := by
          show _ = _; rw [HI.out, HC.out, decide_eq_false h1]; simp
        rcases HL.out with ⟨h3, h4⟩ | ⟨h3, y, h4, h5⟩
        · omega
        · obtain ⟨b', off', cap2, hv2, d0⟩ := jAt (hs.fr hf) (k - 1) (by omega)
          have hy : l[k - 1] = y := by rw [List.getElem?_eq_getElem (by omega)] at h4; exact Option.some.inj h4
          rw [hy] at d0
          cases hv2
          have hkk : k - 1 < l.length := by omega
          have hk1 : IntKind.i64.wrap ((k : Int) - 1) = ((k - 1 : Nat) : Int) := by rw [IntWalk.i64_in _ (by omega)]; omega
          clear hy h4 HL HG HI HC
          generalize k - 1 = k1 at *
          have j1 : (0 : Int) ≤ (k1 : Nat) := by omega
          have j2 : ((k1 : Nat) : Int) < l.length := by omega
          have hk2 : (0 : Int) < k := by omega
          have hxy : (x : Int) ≤ y := by omega
          have hxy2 : x ≤ y := by omega
          clear h5
          go_upto_region 4 with fail
          go_quiet (fail)
          go_wp2_with fail
          go_ret
          exact ⟨by rw [HE.out]; rfl, hf.drewN _⟩
    · have h2' : (bound : Int) ≤ x := by omega
      have h2'' : bound ≤ x := by omega
      have HE : Hid (risesGo bound 0 l = false) := by
       show _ = _; rw [HI.out, HC.out, decide_eq_false h2]; simp
      clear HI HC HL HG
      go_upto_region 4 with fail
      go_quiet (fail)
      go_wp2_with fail
      go_ret
      exact ⟨by rw [HE.out]; rfl, hf.drewN _⟩
  · obtain rfl : k = l.length := by omega
    have hnl : ¬ ((l.length : Int) < l.length) := by omega
    have HE : Hid (risesGo bound 0 l = true) := by show _ = _; rw [HI.out, List.drop_length, risesGo]
    clear HL
    go_wp2_with fail
    go_ret
    exact ⟨by rw [HE.out]; rfl, hf⟩
set_option maxRecDepth 512
set_option maxRecDepth 100000
theorem rmay_any (k m : Nat) (hk : 1 ≤ k) (hkm : k + m ≤ 255) (w : World) : Calls Tryz.prog 74 #[N k, N m] w fun e w' => e = .returned (.bool true) ∧ w = w' := by
 have h1 : (1 : Int) ≤ k := by omega
 have h2 : (0 : Int) ≤ m := by omega
 have h3 : (k : Int) ≤ 255 := by omega
 have h4 : (m : Int) ≤ 255 := by omega
 have h5 : (k : Int) + m ≤ 255 := by omega
 go_enter Tryz.func74, Tryz.ntmps74
 go_wp2_with fail
 go_ret
 exact ⟨rfl, rfl⟩
theorem RMay_any (k m : Nat) (hk : 1 ≤ k) (hkm : k + m ≤ 255) (w : World) : Calls Tryz.prog 133 #[N k, N m] w fun e w' => e = .returned (.bool true) ∧ w = w' := by
 have h1 : (1 : Int) ≤ k := by omega
 have h2 : (0 : Int) ≤ m := by omega
 have h3 : (k : Int) ≤ 255 := by omega
 have h4 : (m : Int) ≤ 255 - k := by omega
 go_enter Tryz.func133, Tryz.ntmps133
 go_wp2_with fail
 go_ret
 exact ⟨rfl, rfl⟩
set_option maxRecDepth 512
def AlikeL (L : Nat) (hs : List Hd) : Prop := ∀ i (h : i < hs.length), hs[i].n = L
theorem alike_of {w : World} {v : Value} {hs : List Hd} {ls : List (List UInt8)} {L : Nat} (hv : Sees2 w eHB eB v hs ls) (hl : ∀ p ∈ ls, p.length = L) : AlikeL L hs := by
 intro i h
 have h2 : i < ls.length := by rw [← hv.2.1]; exact h
 obtain ⟨a, cap, hh, _⟩ := (hv.2.2 i h h2).shape
 have e := hl _ (List.getElem_mem h2)
 generalize hs[i] = x at *
 obtain ⟨xa, xn, xc⟩ := x
 simp only [Hd.v, Value.slice.injEq] at hh
 rw [← e]
 exact hh.2.1
set_option maxRecDepth 100000
theorem alike_any (v : Value) (hs : List Hd) (L : Nat) (w : World) (hv : See w eHB v hs) (hl : AlikeL L hs) :
  Calls Tryz.prog 75 #[v] w fun e w' => e = .returned (.bool true) ∧ w = w' := by
 obtain ⟨a, cap, hva, hc1, hc2, hnn⟩ := hv.shape
 subst hva
 unfold maxLen at hc2
 go_enter Tryz.func75, Tryz.ntmps75
 go_wp2_with fail
 go_loop [7] (fun iv => ∃ i : Nat, i ≤ hs.length ∧ iv = N i) (fun iv => hs.length - (intOf iv).toNat)
 case atStart => exact ⟨0, Nat.zero_le _, rfl⟩
 case round =>
  obtain ⟨i, hi, rfl⟩ := hrel
  by_cases hlt : i < hs.length
  · obtain ⟨b, off, c, hv1, e1⟩ := hv.cell1 (fun (h : Hd) => h.v) rfl i hlt
    obtain ⟨b2, off2, c2, hv2, e2⟩ := hv.cell1 (fun (h : Hd) => h.v) rfl 0 (by omega)
    have g1 := hl i hlt
    have g2 := hl 0 (by omega)
    generalize hs[i] = x at *
    generalize hs[0]'(by omega) = y at *
    obtain ⟨xa, xn, xc⟩ := x
    obtain ⟨ya, yn, yc⟩ := y
    simp only at g1 g2
    subst g1 g2
    cases hv1
    simp only [Value.slice.injEq, Option.some.injEq, Addr.mk.injEq, and_true] at hv2
    obtain ⟨⟨rfl, rfl⟩, _, rfl⟩ := hv2
    simp only [Hd.v, Nat.add_zero] at e1 e2
    have i1 : (0 : Int) ≤ i := by omega
    have i2 : (i : Int) < hs.length := by omega
    have i3 : (0 : Int) < hs.length := by omega
    go_wp2_with fail
    go_round
    case rel => exact ⟨i + 1, by omega, by go_num⟩
    case measure => simp [intOf]; omega
  · obtain rfl : i = hs.length := by omega
    have hnl : ¬ ((hs.length : Int) < hs.length) := by omega
    go_wp2_with fail
    go_ret
    exact ⟨rfl, rfl⟩
theorem RAlike_any (v : Value) (hs : List Hd) (L : Nat) (w : World) (hp : 1 ≤ hs.length) (hv : See w eHB v hs) (hl : AlikeL L hs) :
  Calls Tryz.prog 134 #[v] w fun e w' => e = .returned (.bool true) ∧ Fr w w' := by
 obtain ⟨a, cap, hva, hc1, hc2, hnn⟩ := hv.shape
 subst hva
 unfold maxLen at hc2
 go_enter Tryz.func134, Tryz.ntmps134
 go_wp2_with fail
 go_loopw [3] (fun iv wr => ∃ i : Nat, 1 ≤ i ∧ i ≤ hs.length ∧ iv = N i ∧ Fr w wr) (fun iv _ => hs.length - (intOf iv).toNat)
 case atStart => exact ⟨1, Nat.le_refl _, hp, rfl, Fr.refl w⟩
 case round =>
  obtain ⟨i, hi1, hi, rfl, hf⟩ := hrel
  by_cases hlt : i < hs.length
  · obtain ⟨b, off, c, hv1, e1⟩ := (hv.fr hf).cell1 (fun (h : Hd) => h.v) rfl i hlt
    obtain ⟨b2, off2, c2, hv2, e2⟩ := (hv.fr hf).cell1 (fun (h : Hd) => h.v) rfl 0 (by omega)
    have g1 := hl i hlt
    have g2 := hl 0 (by omega)
    generalize hs[i] = x at *
    generalize hs[0]'(by omega) = y at *
    obtain ⟨xa, xn, xc⟩ := x
    obtain ⟨ya, yn, yc⟩ := y
    simp only at g1 g2
    subst g1 g2
    cases hv1
    simp only [Value.slice.injEq, Option.some.injEq, Addr.mk.injEq, and_true] at hv2
    obtain ⟨⟨rfl, rfl⟩, _, rfl⟩ := hv2
    simp only [Hd.v, Nat.add_zero] at e1 e2
    have i1 : (0 : Int) ≤ i := by omega
    have i2 : (i : Int) < hs.length := by omega
    have i3 : (0 : Int) < hs.length := by omega
    go_wp2_with fail
    go_quiet (fail)
    go_wp2_with fail
    go_roundw
    case rel => exact ⟨i + 1, by omega, by omega, by go_num, hf.drewN _⟩
    case measure => simp [intOf]; omega
  · obtain rfl : i = hs.length := by omega
    have hnl : ¬ ((hs.length : Int) < hs.length) := by omega
    go_wp2_with fail
    go_ret
    exact ⟨rfl, hf⟩
set_option maxRecDepth 512
end Go.Proofs.YtmfbmjplmaimbaaGreatDoor
