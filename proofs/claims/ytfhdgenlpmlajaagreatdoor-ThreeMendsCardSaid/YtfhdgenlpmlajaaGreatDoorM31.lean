/- Parts of the proof of ThreeMends: Tr3 Hd3 Dg Al1 Al2. -/
import Derived.Test.YtfhdgenlpmlajaaGreatDoorM30
import Derived.Test.YtfhdgenlpmlajaaGreatDoorM27
import Derived.Test.YtfhdgenlpmlajaaGreatDoorM19
import Derived.Test.YtfhdgenlpmlajaaGreatDoorM14
import Derived.Test.YtfhdgenlpmlajaaGreatDoorM44
import Derived.Test.YtfhdgenlpmlajaaGreatDoorM25
set_option linter.unusedVariables false
set_option linter.unusedSectionVars false
set_option linter.unusedSimpArgs false
set_option maxHeartbeats 8000000
namespace Go.Proofs.YtfhdgenlpmlajaaGreatDoor
open Go.RowKit Go.Fk
theorem readS_ok (k m c n : Nat) (l : List UInt8) (hk : 1 ≤ k) (hc : 1 ≤ c) (h : (readS k m c n l).1 = 0) : ¬ 8388608 < n ∧ ¬ 16777216 < strN k c n * ((k + m) * (c + 4)) ∧ l.length = strN k c n * ((k + m) * (c + 4)) ∧ (readS k m c n l).2.1.length = n := by
 by_cases h1 : 8388608 < n
 · rw [readS_big k m c n l h1] at h; cases h
 · by_cases h2 : 16777216 < strN k c n * ((k + m) * (c + 4))
   · rw [readS_limit k m c n l h1 h2] at h; cases h
   · by_cases h3 : l.length < strN k c n * ((k + m) * (c + 4))
     · rw [readS_short k m c n l h1 h2 h3] at h; cases h
     · by_cases h4 : strN k c n * ((k + m) * (c + 4)) < l.length
       · rw [readS_long k m c n l h1 h2 h4] at h; cases h
       · have h5 : l.length = strN k c n * ((k + m) * (c + 4)) := by omega
         refine ⟨h1, h2, h5, ?_⟩
         rw [readS_eq k m c n l h1 h2 h5] at h ⊢
         simp only at h ⊢
         have hkc : 1 * 1 ≤ k * c := Nat.mul_le_mul hk hc
         have hnk : n ≤ strN k c n * (k * c) := by
          have := fun h => (strN_lt k c n (by omega) (strN k c n)).2 h
          omega
         by_cases h6 : (readGo k m c l (strN k c n) 0 [] []).1 = 0
         · have h7 := readGo_len k m c l (strN k c n) 0 [] [] (by rw [Nat.zero_add]; omega) h6
           rw [if_pos h6] at h ⊢
           by_cases h8 : ((readGo k m c l (strN k c n) 0 [] []).2.1.drop n).all (· == 0) = true
           · rw [if_pos h8]
             show ((readGo k m c l (strN k c n) 0 [] []).2.1.take n).length = n
             rw [List.length_take, h7, List.length_nil]
             omega
           · rw [if_neg h8] at h; cases h
         · rw [if_neg h6] at h; exact absurd h h6
theorem bodyR_facts (b : List UInt8) (h : (bodyR b).1 = 0) : opt3 (optH (headOf b)) = true ∧ (bodyR b).2.1.length = hN (headOf b) ∧ hN (headOf b) ≤ b.length ∧ strN (hD (headOf b)) (hC (headOf b)) (hN (headOf b)) * ((hD (headOf b) + hQ (headOf b)) * (hC (headOf b) + 4)) ≤ 16777216 := by
 by_cases h42 : b.length < 42
 · rw [bodyR_short b h42] at h; cases h
 · cases hh : hasB b
   · rw [bodyR_sum b h42 hh] at h; cases h
   · by_cases hx : 1 < hX (headOf b)
     · rw [bodyR_form b h42 hh hx] at h; cases h
     · cases ho : opt3 (optH (headOf b))
       · rw [bodyR_opts b h42 hh hx ho] at h; cases h
       · by_cases hr : (readB b).1 = 0
         · rw [bodyR_ok b h42 hh hx ho hr]
           obtain ⟨o1, o2, o3, o4, o5, o6, o7, o8⟩ := optH_ok _ ho
           have hS := readS_ok (hD (headOf b)) (hQ (headOf b)) (hC (headOf b)) (hN (headOf b)) (innerB b) o5 o7 hr
           obtain ⟨s1, s2, s3, s4⟩ := hS
           have hkc : 1 * 1 ≤ hD (headOf b) * hC (headOf b) := Nat.mul_le_mul o5 o7
           have hnk : hN (headOf b) ≤ strN (hD (headOf b)) (hC (headOf b)) (hN (headOf b)) * (hD (headOf b) * hC (headOf b)) := by
            have := fun h => (strN_lt (hD (headOf b)) (hC (headOf b)) (hN (headOf b)) (by omega) (strN (hD (headOf b)) (hC (headOf b)) (hN (headOf b)))).2 h
            omega
           have hle : strN (hD (headOf b)) (hC (headOf b)) (hN (headOf b)) * (hD (headOf b) * hC (headOf b)) ≤ strN (hD (headOf b)) (hC (headOf b)) (hN (headOf b)) * ((hD (headOf b) + hQ (headOf b)) * (hC (headOf b) + 4)) := Nat.mul_le_mul_left _ (Nat.mul_le_mul (by omega) (by omega))
           have hil := innerB_len b
           exact ⟨rfl, s4, by omega, by omega⟩
         · rw [bodyR_read b h42 hh hx ho hr] at h; exact absurd h hr
def mendR (b : List UInt8) : Nat × List UInt8 × Nat :=
 if (bodyR b).1 = 0 then (0, archL (hSz (headOf b)) (hP (headOf b)) (hBu (headOf b)) (hD (headOf b)) (hQ (headOf b)) (hC (headOf b)) (bodyR b).2.1, (bodyR b).2.2) else ((bodyR b).1, [], 0)
set_option maxRecDepth 100000
theorem Mended_any (v : Value) (b : List UInt8) (w : World) (hs : See w eB v b) (hl : b.length ≤ 1500) (ht : Crc w) :
    Calls Tryz.prog 5 #[v] w fun e w' => ∃ u, e = .returned (.tuple #[u, N (mendR b).2.2, .int .i64 ((mendR b).1 : Int)]) ∧ Ow w' w.heap.size eB u (mendR b).2.1 ∧ Fr w w' := by
  have HM := hid (mended_any v b w hs hl ht)
  by_cases h0 : (bodyR b).1 = 0
  · obtain ⟨ho, hbl, hnl, hlim⟩ := bodyR_facts b h0
    obtain ⟨o1, o2, o3, o4, o5, o6, o7, o8⟩ := optH_ok _ ho
    have HL := hid (fun u W (h : Fr w W) (h2 : See W eB u (bodyR b).2.1) => Lay_any (hD (headOf b)) (hQ (headOf b)) (hC (headOf b)) u (bodyR b).2.1 W h2 o5 (by omega) o7 o8 (by omega) (by rw [hbl]; exact hlim) (ht.fr h))
    have hyl := layL_len (bodyR b).2.1 (hD (headOf b)) (hQ (headOf b)) (hC (headOf b)) (strN (hD (headOf b)) (hC (headOf b)) (bodyR b).2.1.length)
    have HA := hid (fun g xv u W (h : Fr w W) (hg : W.heap[g]? = some (hdB (hSz (headOf b)) (hP (headOf b)) (hBu (headOf b)) (hD (headOf b)) (hQ (headOf b)) (hC (headOf b)) (hN (headOf b)) xv)) (h3 : See W eB u (layL (bodyR b).2.1 (hD (headOf b)) (hQ (headOf b)) (hC (headOf b)) (strN (hD (headOf b)) (hC (headOf b)) (bodyR b).2.1.length))) => Archive_any g (hSz (headOf b)) (hBu (headOf b)) (hD (headOf b)) (hQ (headOf b)) (hC (headOf b)) (hN (headOf b)) (hP (headOf b)) u _ W hg h3 (ht.fr h) o2 (by omega) (by omega) (by omega) o8 (by omega) (by rw [hyl, hbl]; omega))
    have HE : Hid (mendR b = (0, putB (headL (hSz (headOf b)) (hP (headOf b)) (hBu (headOf b)) (hD (headOf b)) (hQ (headOf b)) (hC (headOf b)) (hN (headOf b))) ++ layL (bodyR b).2.1 (hD (headOf b)) (hQ (headOf b)) (hC (headOf b)) (strN (hD (headOf b)) (hC (headOf b)) (bodyR b).2.1.length) ++ putB (headL (hSz (headOf b)) (hP (headOf b)) (hBu (headOf b)) (hD (headOf b)) (hQ (headOf b)) (hC (headOf b)) (hN (headOf b))), (bodyR b).2.2)) := by
      show _ = _
      unfold mendR archL
      rw [if_pos h0, hbl]
    have H0 := hid h0
    rw [h0] at HM
    obtain ⟨a0, cap, hv, _⟩ := hs.shape
    subst hv
    clear hs ht hl ho hbl hnl hlim o1 o2 o3 o4 o5 o6 o7 o8 hyl h0
    generalize hSz (headOf b) = fS at *
    generalize hP (headOf b) = fP at *
    generalize hBu (headOf b) = fB at *
    generalize hD (headOf b) = fD at *
    generalize hQ (headOf b) = fQ at *
    generalize hC (headOf b) = fC at *
    generalize hN (headOf b) = fN at *
    generalize putB (headL fS fP fB fD fQ fC fN) ++ layL (bodyR b).2.1 fD fQ fC (strN fD fC (bodyR b).2.1.length) ++ putB (headL fS fP fB fD fQ fC fN) = AR at *
    generalize layL (bodyR b).2.1 fD fQ fC (strN fD fC (bodyR b).2.1.length) = LY at *
    generalize (bodyR b).2.1 = RB at *
    generalize (bodyR b).2.2 = nb at *
    go_enter Tryz.func5, Tryz.ntmps5
    go_wp2_with fail
    refine HM.out.mono ?_
    rintro e w1 ⟨hv, u, rfl, hO1, hf1, hok⟩
    obtain ⟨g, xv, rfl, hgs, hG⟩ := hok trivial
    clear hok HM
    have x3 : w1.cell? ⟨g, 3, none⟩ = some (N fD) := by rw [cell_of_heap hG]; rfl
    have x4 : w1.cell? ⟨g, 4, none⟩ = some (N fQ) := by rw [cell_of_heap hG]; rfl
    have x5 : w1.cell? ⟨g, 5, none⟩ = some (N fC) := by rw [cell_of_heap hG]; rfl
    have HL2 := hid (HL.out u w1.drew (hf1.trans (Fr.refl w1).drew) hO1.see.drew)
    obtain ⟨ua, uc, hu⟩ := hO1.shape'
    subst hu
    clear hO1 HL
    go_wp2_with fail
    go_region_held3 (fun w' => w'.cell? ⟨g, 3, none⟩ = some (N fD) ∧ w'.cell? ⟨g, 4, none⟩ = some (N fQ) ∧ w'.cell? ⟨g, 5, none⟩ = some (N fC))
      (first | go_keep)
      ((go_at_call 13; refine HL2.out.mono ?_; rintro e w2 ⟨v2, rfl, hO2, hf2⟩; have uu3 := hf2.cell x3; have uu4 := hf2.cell x4; have uu5 := hf2.cell x5))
    have hf02 := hf1.trans ((Fr.refl w1).drew.trans hf2)
    have HA2 := hid (HA.out g xv v2 w2 hf02 (hf2.heap hG) hO2.see)
    obtain ⟨la, lc, hv2⟩ := hO2.shape'
    subst hv2
    clear uu3 uu4 uu5 x3 x4 x5 HL2 HA hG hO2
    go_wp2_with fail
    refine HA2.out.mono ?_
    rintro e w3 ⟨v3, rfl, hO3, hf3⟩
    have hO4 := hO3.rebase (b := w.heap.size) hf02.size
    have hf03 := hf02.trans hf3
    clear hO3 HA2
    go_wp2_with fail
    go_ret3
    rw [HE.out]
    exact ⟨_, rfl, hO4, hf03⟩
  · have HE : Hid (mendR b = ((bodyR b).1, [], 0)) := by show _ = _; unfold mendR; rw [if_neg h0]
    have hxne : ¬ (((bodyR b).1 : Nat) : Int) = 0 := by omega
    obtain ⟨a0, cap, hv, _⟩ := hs.shape
    subst hv
    clear hs ht hl h0
    generalize (bodyR b).1 = x at *
    go_enter Tryz.func5, Tryz.ntmps5
    go_wp2_with fail
    refine HM.out.mono ?_
    rintro e w1 ⟨hv, u, rfl, _, hf1, _⟩
    go_wp2_with fail
    go_ret3
    rw [HE.out]
    exact ⟨_, rfl, Ow.nil, hf1⟩
set_option maxRecDepth 512
theorem ne_none (x : Value) : x.ownBlock = none ∨ x.ownBlock ≠ (Value.slice none 0 0).ownBlock := by
 cases h : x.ownBlock with
 | none => exact .inl rfl
 | some g => exact .inr (by simp [Value.ownBlock])
set_option maxRecDepth 100000
theorem RFlag_any (p : Bool) (w : World) : Calls Tryz.prog 41 #[.bool p] w fun e w' => e = .returned (Fk.u8 (if p then 1 else 0)) ∧ w = w' := by
 cases p with
 | true =>
  go_enter Tryz.func41, Tryz.ntmps41
  go_wp2_with fail
  go_ret
  exact ⟨rfl, rfl⟩
 | false =>
  go_enter Tryz.func41, Tryz.ntmps41
  go_wp2_with fail
  go_ret
  exact ⟨rfl, rfl⟩
theorem RHead_any (sz bu d q c n : Nat) (p : Bool) (px : UInt8) (w : World) (h1 : sz ≤ 32768) (h2 : bu < 256) (h3 : d < 256) (h4 : q < 256) (h5 : c ≤ 4096) (h6 : n ≤ 1000000) :
  Calls Tryz.prog 40 #[optV ⟨(sz : Int), p, (bu : Int), (d : Int), (q : Int), (c : Int)⟩, Fk.u8 px, N n] w fun e w' => ∃ v, e = .returned v ∧ Ow w' w.heap.size eB v (putB (markB ++ [px, UInt8.ofNat bu, UInt8.ofNat d, UInt8.ofNat q] ++ fixB 2 c ++ fixB 2 sz ++ fixB 4 n)) ∧ Fr w w' := by
 have hc2 : c < 256 ^ 2 := by rw [show (256 : Nat) ^ 2 = 65536 from by decide]; omega
 have hs2 : sz < 256 ^ 2 := by rw [show (256 : Nat) ^ 2 = 65536 from by decide]; omega
 have hn4 : n < 256 ^ 4 := by rw [show (256 : Nat) ^ 4 = 4294967296 from by decide]; omega
 have HFc := hid (RFixed_any c 2 (by omega) (by omega) hc2 (by omega))
 have HFs := hid (RFixed_any sz 2 (by omega) (by omega) hs2 (by omega))
 have HFn := hid (RFixed_any n 4 (by omega) (by omega) hn4 (by omega))
 have Hlc := hid (fixB_len 2 c)
 have Hls := hid (fixB_len 2 sz)
 have Hln := hid (fixB_len 4 n)
 have HP := hid (fun v q W (h2 : See W eB v q) (h3 : q.length ≤ 1000000) => RPut_any v q W h2 h3)
 have hlit : Ow ((w.alloc (.cells #[N sz, .bool p, N bu, N d, N q, N c] 30)).alloc (.cells #[.int .u8 70, .int .u8 73, .int .u8 82, .int .u8 75, .int .u8 3, Fk.u8 px, .int .u8 (bu : Int), .int .u8 (d : Int), .int .u8 (q : Int)] 5)) w.heap.size eB (.slice (some ⟨(w.alloc (.cells #[N sz, .bool p, N bu, N d, N q, N c] 30)).heap.size, 0, none⟩) 9 9) [70, 73, 82, 75, 3, px, UInt8.ofNat bu, UInt8.ofNat d, UInt8.ofNat q] :=
  own_lit eB _ _ _ 9 rfl (by show 9 ≤ maxLen; unfold maxLen; omega) (by simp) (by
   show [Value.int .u8 70, .int .u8 73, .int .u8 82, .int .u8 75, .int .u8 3, Fk.u8 px, .int .u8 (bu : Int), .int .u8 (d : Int), .int .u8 (q : Int)] = [Fk.u8 70, Fk.u8 73, Fk.u8 82, Fk.u8 75, Fk.u8 3, Fk.u8 px, Fk.u8 (UInt8.ofNat bu), Fk.u8 (UInt8.ofNat d), Fk.u8 (UInt8.ofNat q)]
   rw [u8v bu h2, u8v d h3, u8v q h4]; rfl)
 rw [size_alloc] at hlit
 have hO : ((w.alloc (.cells #[N sz, .bool p, N bu, N d, N q, N c] 30)).alloc (.cells #[.int .u8 70, .int .u8 73, .int .u8 82, .int .u8 75, .int .u8 3, Fk.u8 px, .int .u8 (bu : Int), .int .u8 (d : Int), .int .u8 (q : Int)] 5)).heap[w.heap.size]? = some (.cells #[N sz, .bool p, N bu, N d, N q, N c] 30 (0, 0)) := by
  rw [heap_old _ _ _ (by simp)]; exact heap_new _ _ _ rfl
 have hfW : Fr w ((w.alloc (.cells #[N sz, .bool p, N bu, N d, N q, N c] 30)).alloc (.cells #[.int .u8 70, .int .u8 73, .int .u8 82, .int .u8 75, .int .u8 3, Fk.u8 px, .int .u8 (bu : Int), .int .u8 (d : Int), .int .u8 (q : Int)] 5)) := ((Fr.refl w).alloc _).alloc _
 have hE : markB ++ [px, UInt8.ofNat bu, UInt8.ofNat d, UInt8.ofNat q] ++ fixB 2 c ++ fixB 2 sz ++ fixB 4 n = [70, 73, 82, 75, 3, px, UInt8.ofNat bu, UInt8.ofNat d, UInt8.ofNat q] ++ fixB 2 c ++ fixB 2 sz ++ fixB 4 n := rfl
 rw [hE]
 clear hE hc2 hs2 hn4
 have h9 : [70, 73, 82, 75, 3, px, UInt8.ofNat bu, UInt8.ofNat d, UInt8.ofNat q].length = 9 := rfl
 generalize [70, 73, 82, 75, 3, px, UInt8.ofNat bu, UInt8.ofNat d, UInt8.ofNat q] = L9 at *
 have H9 := hid h9
 clear h9
 generalize fixB 2 c = FC at *
 generalize fixB 2 sz = FS at *
 generalize fixB 4 n = FN at *
 have hwc : IntKind.u64.wrap (c : Int) = (c : Int) := IntWalk.u64_in _ (by omega)
 have hws : IntKind.u64.wrap (sz : Int) = (sz : Int) := IntWalk.u64_in _ (by omega)
 have hwn : IntKind.u64.wrap (n : Int) = (n : Int) := IntWalk.u64_in _ (by omega)
 have hb1 : IntKind.u8.wrap (bu : Int) = (bu : Int) := IntWalk.u8_in _ (by omega)
 have hb2 : IntKind.u8.wrap (d : Int) = (d : Int) := IntWalk.u8_in _ (by omega)
 have hb3 : IntKind.u8.wrap (q : Int) = (q : Int) := IntWalk.u8_in _ (by omega)
 generalize hT : putB (L9 ++ FC ++ FS ++ FN) = T at *
 have HT := hid hT
 clear hT
 go_enter Tryz.func40, Tryz.ntmps40
 go_wp2_with fail
 refine (HFc.out _).mono ?_
 rintro e w1 ⟨v1, rfl, hC1, hf1⟩
 have hO1 := hf1.heap hO
 have hL1 := hlit.fr hf1
 have hf01 := hfW.trans hf1
 have x0 : w1.cell? ⟨w.heap.size, 0, none⟩ = some (N sz) := by rw [cell_of_heap hO1]; rfl
 clear hO hlit hfW hf1
 go_wp2_with fail
 refine (HFs.out _).mono ?_
 rintro e w2 ⟨v2, rfl, hS2, hf2⟩
 have neS := apart_of hL1 hS2 (Nat.le_refl _)
 have hL2 := hL1.fr hf2
 have hC2 := hC1.fr hf2
 have hf02 := hf01.trans hf2
 clear hL1 hC1 hf01 hf2 x0 hO1
 go_wp2_with fail
 refine (HFn.out _).mono ?_
 rintro e w3 ⟨v3, rfl, hN3, hf3⟩
 have neN := apart_of hL2 hN3 (Nat.le_refl _)
 have hL3 := hL2.fr hf3
 have hC3 := hC2.fr hf3
 have hS3 := hS2.fr hf3
 have hf03 := hf02.trans hf3
 clear hL2 hC2 hS2 hf02 hf3
 have l9 := H9.out
 have lc := Hlc.out
 have ls := Hls.out
 have ln := Hln.out
 go_wp2_with (at_builtin; refine wpList_app eB rfl (.tmp 45) (.tmp 46) 22 rfl Tryz.underlying22 _ rfl hL3 _ _ rfl hC3.see ?c1 hf03.size ?_)
 case c1 => omega
 intro v5 w5 hap5
 have hL5 := hap5.own
 have hS5 := hap5.other hS3 neS
 have hN5 := hap5.other hN3 neN
 have neS5 := hap5.apart hS3 neS
 have neN5 := hap5.apart hN3 neN
 have hf05 : Fr w w5 := hap5.below hL3 hf03 (Nat.le_refl _) hf03.size
 obtain ⟨q5, hq5⟩ : ∃ q, q = L9 ++ FC := ⟨_, rfl⟩
 rw [← hq5] at hL5 HT
 have hl5 : q5.length ≤ 11 := by rw [hq5, List.length_append]; omega
 obtain ⟨a5, c5, hv5⟩ := hL5.shape'
 subst hv5
 clear hL3 hC3 hS3 hN3 hf03 hap5 neS neN hq5 l9 lc
 go_wp2_with (at_builtin; refine wpList_app eB rfl (.tmp 48) (.tmp 49) 22 rfl Tryz.underlying22 _ rfl hL5 _ _ rfl hS5.see ?c1 hf05.size ?_)
 case c1 => omega
 intro v6 w6 hap6
 have hL6 := hap6.own
 have hN6 := hap6.other hN5 neN5
 have hf06 : Fr w w6 := hap6.below hL5 hf05 (Nat.le_refl _) hf05.size
 obtain ⟨q6, hq6⟩ : ∃ q, q = q5 ++ FS := ⟨_, rfl⟩
 rw [← hq6] at hL6 HT
 have hl6 : q6.length ≤ 13 := by rw [hq6, List.length_append]; omega
 obtain ⟨a6, c6, hv6⟩ := hL6.shape'
 subst hv6
 clear hL5 hS5 hN5 hf05 hap6 neS5 neN5 hq6 ls
 go_wp2_with (at_builtin; refine wpList_app eB rfl (.tmp 51) (.tmp 52) 22 rfl Tryz.underlying22 _ rfl hL6 _ _ rfl hN6.see ?c1 hf06.size ?_)
 case c1 => omega
 intro v7 w7 hap7
 have hL7 := hap7.own
 have hf07 : Fr w w7 := hap7.below hL6 hf06 (Nat.le_refl _) hf06.size
 obtain ⟨q7, hq7⟩ : ∃ q, q = q6 ++ FN := ⟨_, rfl⟩
 rw [← hq7] at hL7 HT
 have hl7 : q7.length ≤ 17 := by rw [hq7, List.length_append]; omega
 have HP7 := hid (HP.out v7 q7 w7 hL7.see (by omega))
 rw [HT.out] at HP7
 obtain ⟨a7, c7, hv7⟩ := hL7.shape'
 subst hv7
 clear hL6 hN6 hf06 hap7 hq7 ln hL7
 go_wp2_with fail
 refine HP7.out.mono ?_
 rintro e w8 ⟨v8, rfl, hR8, hf8⟩
 have HR := hid (hR8.rebase hf07.size)
 clear hR8
 go_wp2_with fail
 go_ret
 exact ⟨_, rfl, HR.out, hf07.trans hf8⟩
set_option maxRecDepth 512
set_option maxRecDepth 100000
theorem RArchive_gen (sz bu d q c : Nat) (p : Bool) (h2 : sz ≤ 32768) (h4 : bu ≤ 64) (h5 : 1 ≤ d) (hdq : d + q ≤ 255) (h9 : 1 ≤ c) (h10 : c ≤ 4096) (v : Value) (T : List UInt8) (w : World) (hs : See w eB v T) (hbl : T.length ≤ 1000000) (hlay : strN d c T.length * ((d + q) * (c + 4)) ≤ 16777216) :
  Calls Tryz.prog 16 #[optV ⟨(sz : Int), p, (bu : Int), (d : Int), (q : Int), (c : Int)⟩, v] w fun e w' => ∃ u, e = .returned (.tuple #[u, .int .i64 0]) ∧ Ow w' w.heap.size eB u (archL sz p bu d q c T) ∧ Fr w w' := by
 have HL := hid (fun W (h : Fr w W) => RLay_any d q c v T W (hs.fr h) h5 (by omega) (by omega) (by omega) hbl hlay)
 have hyl := layL_len T d q c (strN d c T.length)
 have HF := hid (RFlag_any p)
 have HH := hid (fun W => RHead_any sz bu d q c T.length p (if p then 1 else 0) W h2 (by omega) (by omega) (by omega) (by omega) (by omega))
 have HE : Hid (archL sz p bu d q c T = putB (headL sz p bu d q c T.length) ++ layL T d q c (strN d c T.length) ++ putB (headL sz p bu d q c T.length)) := rfl
 have hhl : (putB (headL sz p bu d q c T.length)).length = 21 := by rw [putB_len, headL_len]
 have hyl2 : (layL T d q c (strN d c T.length)).length ≤ 16777216 := by omega
 unfold headL at HE hhl
 obtain ⟨a0, cap, hv, _⟩ := hs.shape
 subst hv
 clear hs hyl hlay
 generalize archL sz p bu d q c T = AR at *
 generalize layL T d q c (strN d c T.length) = LY at *
 generalize putB (markB ++ [(if p then 1 else 0), UInt8.ofNat bu, UInt8.ofNat d, UInt8.ofNat q] ++ fixB 2 c ++ fixB 2 sz ++ fixB 4 T.length) = H at *
 generalize (if p then (1 : UInt8) else 0) = px at *
 have hhl2 : H.length ≤ 21 := by omega
 clear hhl
 have hO : (w.alloc (.cells #[N sz, .bool p, N bu, N d, N q, N c] 30)).heap[w.heap.size]? = some (.cells #[N sz, .bool p, N bu, N d, N q, N c] 30 (0, 0)) := heap_new _ _ _ rfl
 have hfW : Fr w (w.alloc (.cells #[N sz, .bool p, N bu, N d, N q, N c] 30)) := (Fr.refl w).alloc _
 go_enter Tryz.func16, Tryz.ntmps16
 go_wp2_with fail
 refine (HL.out _ hfW).mono ?_
 rintro e w1 ⟨v1, rfl, hY1, hf1⟩
 obtain ⟨p1, z1, hq1⟩ := hY1.shape'
 subst hq1
 have hO1 := hf1.heap hO
 have hf01 := hfW.trans hf1
 have hYb := hY1.rebase (b := w.heap.size) hfW.size
 have c0 : w1.cell? ⟨w.heap.size, 0, none⟩ = some (N sz) := by rw [cell_of_heap hO1]; rfl
 have c1 : w1.cell? ⟨w.heap.size, 1, none⟩ = some (.bool p) := by rw [cell_of_heap hO1]; rfl
 have c2 : w1.cell? ⟨w.heap.size, 2, none⟩ = some (N bu) := by rw [cell_of_heap hO1]; rfl
 have c3 : w1.cell? ⟨w.heap.size, 3, none⟩ = some (N d) := by rw [cell_of_heap hO1]; rfl
 have c4 : w1.cell? ⟨w.heap.size, 4, none⟩ = some (N q) := by rw [cell_of_heap hO1]; rfl
 have c5 : w1.cell? ⟨w.heap.size, 5, none⟩ = some (N c) := by rw [cell_of_heap hO1]; rfl
 clear hO hfW hf1 hY1
 go_upto_region 4 with fail
 go_region_held3 (fun w' => w'.cell? ⟨w.heap.size, 0, none⟩ = some (N sz) ∧ w'.cell? ⟨w.heap.size, 1, none⟩ = some (.bool p) ∧ w'.cell? ⟨w.heap.size, 2, none⟩ = some (N bu) ∧ w'.cell? ⟨w.heap.size, 3, none⟩ = some (N d) ∧ w'.cell? ⟨w.heap.size, 4, none⟩ = some (N q) ∧ w'.cell? ⟨w.heap.size, 5, none⟩ = some (N c))
  (first | go_keep)
  ((first
   | (go_at_call 41; refine (HF.out _).mono ?_; rintro e w2 ⟨rfl, rfl⟩)
   | (go_at_call 40; refine (HH.out _).mono ?_; rintro e w3 ⟨v3, rfl, hH3, hf3⟩; obtain ⟨p3, z3, hq3⟩ := hH3.shape'; subst hq3; have d0 := hf3.cell c0; have d1 := hf3.cell c1; have d2 := hf3.cell c2; have d3 := hf3.cell c3; have d4 := hf3.cell c4; have d5 := hf3.cell c5)))
 have hf13 : Fr w1 w3 := (Fr.refl w1).drew.trans hf3
 have hf03 := hf01.trans hf13
 have hY3 := hYb.fr hf13
 have hH3b := hH3.rebase (b := w.heap.size) hf01.size
 clear c0 c1 c2 c3 c4 c5 d0 d1 d2 d3 d4 d5 hO1 hYb hH3 hf3 hf13
 go_wp2_with (at_builtin; refine wpList_app eB rfl (.tmp 31) (.tmp 32) 22 rfl Tryz.underlying22 w.heap.size rfl (Ow.nil (E := eB)) _ _ rfl hH3b.see ?c1 hf03.size ?_)
 case c1 => first | omega | (simp; omega)
 intro v5 w5 hap5
 have hA5 := hap5.own
 have hH5 := hap5.other hH3b (ne_none _)
 have hY5 := hap5.other hY3 (ne_none _)
 have neH5 := hap5.apart hH3b (ne_none _)
 have neY5 := hap5.apart hY3 (ne_none _)
 have hf05 : Fr w w5 := hap5.below Ow.nil hf03 (Nat.le_refl _) hf03.size
 obtain ⟨a5, c5, hv5⟩ := hA5.shape'
 subst hv5
 clear hH3b hY3 hap5 hf03
 go_wp2_with (at_builtin; refine wpList_app eB rfl (.tmp 34) (.tmp 35) 22 rfl Tryz.underlying22 w.heap.size rfl hA5 _ _ rfl hY5.see ?c1 hf05.size ?_)
 case c1 => omega
 intro v6 w6 hap6
 have hA6 := hap6.own
 have hH6 := hap6.other hH5 neH5
 have neH6 := hap6.apart hH5 neH5
 have hf06 : Fr w w6 := hap6.below hA5 hf05 (Nat.le_refl _) hf05.size
 obtain ⟨q6, hq6⟩ : ∃ q, q = H ++ LY := ⟨_, rfl⟩
 rw [← hq6] at hA6 HE
 have hl6 : q6.length ≤ 20000000 := by rw [hq6, List.length_append]; omega
 obtain ⟨a6, c6, hv6⟩ := hA6.shape'
 subst hv6
 clear hA5 hH5 hY5 hap6 hf05 neH5 neY5 hq6
 go_wp2_with (at_builtin; refine wpList_app eB rfl (.tmp 37) (.tmp 38) 22 rfl Tryz.underlying22 w.heap.size rfl hA6 _ _ rfl hH6.see ?c1 hf06.size ?_)
 case c1 => omega
 intro v7 w7 hap7
 have hA7 := hap7.own
 rw [← HE.out] at hA7
 have hf07 : Fr w w7 := hap7.below hA6 hf06 (Nat.le_refl _) hf06.size
 obtain ⟨a7, c7, hv7⟩ := hA7.shape'
 subst hv7
 clear hA6 hH6 hap7 hf06 neH6
 go_wp2_with fail
 go_ret2
 exact ⟨_, rfl, hA7, hf07⟩
set_option maxRecDepth 512
set_option maxRecDepth 100000
theorem groups0 (w : World) : Calls Tryz.prog 47 #[.int .i64 16, .bool false, .slice none 0 0] w fun e w' => e = .returned (.slice none 0 0) ∧ w = w' := by
 go_enter Tryz.func47, Tryz.ntmps47
 go_wp2_with fail
 go_loopw [7, 14] (fun ov iv wx => ov = .slice none 0 0 ∧ iv = .int .i64 0 ∧ wx = w) (fun _ _ _ => 0)
 case atStart => exact ⟨rfl, rfl, rfl⟩
 case round =>
  obtain ⟨rfl, rfl, rfl⟩ := hrel
  go_wp2_with fail
  go_ret
  exact ⟨rfl, rfl⟩
theorem columns0 (w : World) : Calls Tryz.prog 50 #[.slice none 0 0] w fun e w' => e = .returned (.slice none 0 0) ∧ w = w' := by
 go_enter Tryz.func50, Tryz.ntmps50
 go_wp2_with fail
 go_loopw [3, 10] (fun ov iv wx => ov = .slice none 0 0 ∧ iv = .int .i64 0 ∧ wx = w) (fun _ _ _ => 0)
 case atStart => exact ⟨rfl, rfl, rfl⟩
 case round =>
  obtain ⟨rfl, rfl, rfl⟩ := hrel
  go_wp2_with fail
  go_loopw [0, 3] (fun iv ov wx => iv = .slice none 0 0 ∧ ov = .slice none 0 0 ∧ wx = wr) (fun _ _ _ => 0)
  case atStart => exact ⟨rfl, rfl, rfl⟩
  case round =>
   obtain ⟨rfl, rfl, rfl⟩ := hrel
   go_wp2_with fail
   go_ret
   exact ⟨rfl, rfl⟩
theorem rises0 (w : World) : Calls Tryz.prog 118 #[.slice none 0 0] w fun e w' => e = .returned (.bool true) ∧ w = w' := by
 go_enter Tryz.func118, Tryz.ntmps118
 go_wp2_with fail
 go_loopw [8] (fun iv wx => iv = .int .i64 0 ∧ wx = w) (fun _ _ => 0)
 case atStart => exact ⟨rfl, rfl⟩
 case round =>
  obtain ⟨rfl, rfl⟩ := hrel
  go_wp2_with fail
  go_ret
  exact ⟨rfl, rfl⟩
set_option maxRecDepth 512
attribute [local go_sem] Oper.semAt_some
def DwZ (w0 : World) (H B : Nat) (L : List UInt8) (hv : Value) (pre : List Hd) (W : World) : Prop :=
 W.heap[H]? = some (.cells #[hv] 22 (0, 0)) ∧ W.heap[H + 1]? = some (.cells #[.slice none 0 0] 22 (0, 0)) ∧ Ow W B eB hv L ∧ Fr w0 W
theorem DwZ.own (w0 : World) (H B D : Nat) (L : List UInt8) (hv : Value) (hD : w0.heap.size ≤ D) : OwnFrom D (DwZ w0 H B L hv) := by
 rintro s W W' row ⟨h1, h2, h3, h4⟩ hg hr
 have hne : ∀ {q : Nat} {o : Obj}, W.heap[q]? = some o → o.isCells = true → W'.heap[q]? = some o := fun {q o} hq ho => by
  rw [hg.block q (Array.getElem?_eq_some_iff.1 hq).1 (fun e => by
   obtain ⟨_, o', ho', hc⟩ := hr q e.symm
   rw [hq] at ho'; cases ho'; rw [ho] at hc; cases hc)]
  exact hq
 exact ⟨hne h1 rfl, hne h2 rfl, ow_keptG h3 hg (fun r e => (hr r e).2), h4.own hg (fun k e => by have := (hr k e).1; omega)⟩
set_option maxRecDepth 100000
theorem dict0 (w : World) : Calls Tryz.prog 87 #[.int .i64 1, .slice none 0 0] w fun e w' => ∃ u, e = .returned (.tuple #[u, .int .i64 0]) ∧ Ow w' w.heap.size eB u (numB 0) ∧ Fr w w' := by
  have HM := hid (fun W => rises0 W)
  have HN0 := hid (fun W => Num_any 0 (by omega) W)
  have hnl := numB_le 0 (by omega)
  have HCh := hid (fun W => chunkS_any none 0 0 1 (by omega) W)
  generalize numB 0 = nb at *
  have hw1 : IntKind.u64.wrap (0 : Int) = 0 := IntWalk.u64_in _ (by omega)
  refine (callsIn_wide (n := 9)).1 ?_
  refine callsIn_of_wp_marks Tryz.func87 rfl trivial ?_ rfl
  simp only [Tryz.ntmps87, List.size_toArray, List.length_cons, List.length_nil, Nat.reduceAdd, Nat.reduceSub, Array.replicate_succ, Array.replicate_zero, List.push_toArray, List.append_toArray, List.nil_append, List.cons_append]
  have hfA : Fence.wide.fn 118 := trivial
  have hfB : Fence.wide.fn 85 := trivial
  have hfC : Fence.wide.fn 119 := trivial
  gi_wp2_with (first
    | (gi_at_call 118; refine (callsIn_wide.2 (HM.out _)).mono ?_; rintro e w1 ⟨rfl, rfl⟩)
    | (gi_at_call 85; refine (callsIn_wide.2 (HN0.out _)).mono ?_; rintro e w2 ⟨v2, rfl, hO2, hf2⟩; obtain ⟨va, vc, hv2⟩ := hO2.shape'; subst hv2)
    | (gi_at_call 119; refine (callsIn_wide.2 (HCh.out _)).mono ?_; rintro e w3 ⟨rfl, rfl⟩))
  have hsz1 : (w2.alloc (.cells #[.slice va nb.length vc] 22)).heap.size = w2.heap.size + 1 := size_alloc _ _
  have hsz2 : ((w2.alloc (.cells #[.slice va nb.length vc] 22)).alloc (.cells #[.slice none 0 0] 22)).heap.size = w2.heap.size + 1 + 1 := by rw [size_alloc, hsz1]
  have hsz3 : (((w2.alloc (.cells #[.slice va nb.length vc] 22)).alloc (.cells #[.slice none 0 0] 22)).alloc (.cells #[.slice none 0 0] 87)).heap.size = w2.heap.size + 1 + 1 + 1 := by rw [size_alloc, hsz2]
  have hfA1 : Fr w2 (w2.alloc (.cells #[.slice va nb.length vc] 22)) := (Fr.refl w2).alloc _
  have g0 := heap_new w2 (.cells #[.slice va nb.length vc] 22) w2.heap.size rfl
  generalize w2.alloc (.cells #[.slice va nb.length vc] 22) = A1 at *
  have hfA2 : Fr A1 (A1.alloc (.cells #[.slice none 0 0] 22)) := (Fr.refl A1).alloc _
  have g1 := heap_new A1 (.cells #[.slice none 0 0] 22) (w2.heap.size + 1) hsz1.symm
  generalize A1.alloc (.cells #[.slice none 0 0] 22) = A2 at *
  have hfA3 : Fr A2 (A2.alloc (.cells #[.slice none 0 0] 87)) := (Fr.refl A2).alloc _
  have g2 := heap_new A2 (.cells #[.slice none 0 0] 87) (w2.heap.size + 1 + 1) hsz2.symm
  generalize A2.alloc (.cells #[.slice none 0 0] 87) = A3 at *
  have hfA4 : Fr A3 (A3.alloc (.cells #[N 1] 3)) := (Fr.refl A3).alloc _
  have g3 := heap_new A3 (.cells #[N 1] 3) (w2.heap.size + 1 + 1 + 1) hsz3.symm
  generalize A3.alloc (.cells #[N 1] 3) = A4 at *
  have hfw4 : Fr w A4 := hf2.trans (hfA1.trans (hfA2.trans (hfA3.trans hfA4)))
  have k0 := hfA4.heap (hfA3.heap (hfA2.heap g0))
  have k1 := hfA4.heap (hfA3.heap g1)
  have k2 := hfA4.heap g2
  have hO4 := hO2.fr (hfA1.trans (hfA2.trans (hfA3.trans hfA4)))
  have hHl : w2.heap.size + 1 + 1 + 1 < A4.heap.size := (Array.getElem?_eq_some_iff.1 g3).1
  have hHw0 : w.heap.size ≤ w2.heap.size := hf2.size
  generalize w2.heap.size = H at *
  obtain ⟨cb, coff, hcv, hseq⟩ := chunkS_stops (H + 1 + 1) (H + 1 + 1 + 1) (.slice none 0 0) [] 1 (by omega) (by omega) (by simp) A4 k2 g3 See.nil
  have h0 : DwZ w H w.heap.size nb (.slice va nb.length vc) [] A4 := ⟨k0, k1, hO4, hfw4⟩
  clear hsz1 hsz2 hsz3 hfA1 hfA2 hfA3 hfA4 g0 g1 g2 g3 k0 k1 k2 hO2 hO4 hf2 hcv
  refine wpIn_rangeFunc_ownF rfl (by omega) (gf := 154) (lb := #[.pointer (some ⟨H + 1 + 1, 0, none⟩), .pointer (some ⟨H + 1 + 1 + 1, 0, none⟩)]) rfl trivial (enters_of Tryz.func154 (by kernel_rfl) rfl) (hseq _ (by omega)) (fun h k => KeepB.trans h k) (KeepB.put (by omega) (by omega)) (Below.refl _ A4) (fun _ => rfl)
    _ (fun _ _ _ => False) (DwZ.own w H w.heap.size A4.heap.size nb _ hfw4.size) (fun _ _ _ _ _ hs _ _ => hs) h0 (fun x : Hd => { tmps := #[.int .i64 1, .slice none 0 0, undef, undef, .slice none 0 0, .int .i64 0, .pointer (some ⟨H, 0, none⟩), .pointer (some ⟨H + 1, 0, none⟩), x.v, undef, .int .i64 1, .bool false, .bool false, .int .i64 1, .bool false, .bool false, .bool false, .slice none 0 0, .bool true, .bool false, .bool false, .slice none 0 0, .int .i64 0, .int .u64 0, .slice va nb.length vc, .slice none 0 0, .int .i64 1, .func (.func 154) #[] #[.pointer (some ⟨H + 1 + 1, 0, none⟩), .pointer (some ⟨H + 1 + 1 + 1, 0, none⟩)], x.v, undef, undef, undef, undef, undef, undef, undef, undef, undef, undef, undef, undef, undef, undef, undef], defers := [] }) ?assign ?body ?done ?stop
  case assign =>
    intro l x W K hK
    gi_wp2
    exact hK
  case body =>
    rintro lr pre x W _ hpl
    exact absurd hpl (by rw [show ckN ([] : List (List UInt8)).length 1 = 0 from rfl]; omega)
  case done =>
    rintro D ys W hD _ ⟨h1, h2, h5, h8⟩ hK
    have c0 : W.cell? ⟨H, 0, none⟩ = some (.slice va nb.length vc) := by rw [cell_of_heap h1]; rfl
    have c1 : W.cell? ⟨H + 1, 0, none⟩ = some (.slice none 0 0) := by rw [cell_of_heap h2]; rfl
    have HAll := hid (all2_any _ _ nb [] W h5.see See.nil (by simp; omega))
    rw [List.append_nil] at HAll
    have HKd := hid hK
    have h8s := h8.size
    clear h1 h2 h5 hK
    have hfE : Fence.wide.fn 33 := trivial
    gi_wp2_with (gi_at_call 33; refine (callsIn_wide.2 HAll.out).mono ?_; rintro e w8 ⟨v8, rfl, hO8, hf8⟩)
    have hK8 := hf8.heap HKd.out
    obtain ⟨va8, vc8, hv8⟩ := hO8.shape'
    subst hv8
    refine ⟨by simp, .inl ⟨_, _, rfl, run_takeDeferred hK8, ?_⟩⟩
    refine ⟨.tuple #[.slice va8 nb.length vc8, .int .i64 0], by simp [results, Tryz.results87, go_sem, *], _, rfl, ?_, ?_⟩
    · exact ow_keptG (hO8.rebase h8s) (grownBy_putObj' w8 D (.deferred none)) (fun r e => by cases e; exact ⟨_, hK8, rfl⟩)
    · exact Below.trans (h8.trans hf8) (belowK_b (w := w) (Nat.le_refl _) w8 D _ _ (Nat.le_trans hfw4.size hD) hK8 rfl rfl)
  case stop =>
    rintro D c pre W hD _ h _
    exact h.elim
set_option maxRecDepth 512
end Go.Proofs.YtfhdgenlpmlajaaGreatDoor
