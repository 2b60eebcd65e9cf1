/- Parts of the proof of ThreeMends: N4 O4 De Df. -/
import Derived.Test.YtfhdgenlpmlajaaGreatDoorM12
import Derived.Test.YtfhdgenlpmlajaaGreatDoorM21
set_option linter.unusedVariables false
set_option linter.unusedSectionVars false
set_option linter.unusedSimpArgs false
set_option maxHeartbeats 8000000
namespace Go.Proofs.YtfhdgenlpmlajaaGreatDoor
open Go.RowKit Go.Fk
set_option maxRecDepth 100000
theorem BConcat_big (v : Value) (hs : List Hd) (ls : List (List UInt8)) (w : World) (hv : Sees2 w eHB eB v hs ls) (hn : ls.flatten.length ≤ 100000000) :
  Calls Tryz.prog 71 #[v] w fun e w' => ∃ v, e = .returned v ∧ Ow w' w.heap.size eB v ls.flatten ∧ Fr w w' := by
 obtain ⟨a, cap, hva, hc1, hc2, hnn⟩ := hv.1.shape
 unfold maxLen at hc2
 subst hva
 have hlen := hv.2.1
 have HL := hid hlen
 have HN := hid hnn
 clear hlen hnn
 have hll : ls.length ≤ 9223372036854775807 := by have := HL.out; omega
 go_enter Tryz.func71, Tryz.ntmps71
 go_wp2_with fail
 go_loop [3, 11] (fun nv iv => ∃ k n : Nat, k ≤ hs.length ∧ iv = N k ∧ nv = N n ∧ Hid (n = (ls.take k).flatten.length)) (fun _ iv => hs.length - (intOf iv).toNat)
 case atStart => exact ⟨0, 0, Nat.zero_le _, rfl, rfl, rfl⟩
 case round =>
  obtain ⟨k, n, hk, rfl, rfl, HK⟩ := hrel
  have hnl : n ≤ 100000000 := by have h1 := flat_take_le ls k; have := HK.out; omega
  by_cases hlt : k < hs.length
  · obtain ⟨b, off, cap', hv2, e0⟩ := hv.1.cell1 (fun (h : Hd) => h.v) rfl k hlt
    have hlt2 : k < ls.length := by have := HL.out; omega
    have hsee := hv.2.2 k hlt hlt2
    have HK2 : Hid (n + ls[k].length = (ls.take (k + 1)).flatten.length) := by show _ = _; rw [flat_snoc ls k hlt2, List.length_append, ← HK.out]
    have hl2 := flat_take_le ls (k + 1)
    have hl3 : n + ls[k].length ≤ 100000000 := by have := HK2.out; omega
    obtain ⟨a2, c2, hh, _⟩ := hsee.shape
    generalize hs[k] = h at *
    obtain ⟨ha, hn2, hcc⟩ := h
    simp only [Hd.v, Value.slice.injEq] at hh
    obtain ⟨rfl, hnn, rfl⟩ := hh
    rw [← hnn] at HK2 hl3
    clear hnn hl2
    simp only [Hd.v] at e0
    cases hv2
    have i1 : (0 : Int) ≤ k := by omega
    have i2 : (k : Int) < hs.length := by omega
    have hw1 : IntKind.i64.wrap ((n : Int) + hn2) = (n : Int) + hn2 := IntWalk.i64_in _ (by omega)
    have hge : ¬ (n : Int) + hn2 < 0 := by omega
    go_wp2_with fail
    go_round
    case rel => exact ⟨k + 1, n + hn2, by omega, by go_num, by go_num, HK2⟩
    case measure => simp [intOf]; omega
  · have HK2 : Hid (n = ls.flatten.length) := by have := HK.out; rw [List.take_of_length_le (by have := HL.out; omega)] at this; exact this
    clear HK
    go_wp2_with fail
    refine (BGrow_any n _ (by omega)).mono ?_
    rintro e w1 ⟨v1, rfl, hown1, hf1⟩
    go_wp2_with fail
    go_loopw [6, 27] (fun ov iv wr => ∃ k : Nat, k ≤ hs.length ∧ iv = N k ∧ Ow wr w.heap.size eB ov (ls.take k).flatten ∧ Fr w wr) (fun _ iv _ => hs.length - (intOf iv).toNat)
    case atStart => exact ⟨0, Nat.zero_le _, rfl, hown1, hf1⟩
    case round =>
     clear hown1
     obtain ⟨k, hk2, rfl, hown, hf⟩ := hrel
     by_cases hlt : k < hs.length
     · have hv2 := hv.fr hf
       obtain ⟨b, off, cap', hv3, e0⟩ := hv2.1.cell1 (fun (h : Hd) => h.v) rfl k hlt
       have hlt2 : k < ls.length := by have := HL.out; omega
       have hsee := hv2.2.2 k hlt hlt2
       have HF : Hid ((ls.take (k + 1)).flatten = (ls.take k).flatten ++ ls[k]) := flat_snoc ls k hlt2
       have hl2 := flat_take_le ls (k + 1)
       rw [HF.out, List.length_append] at hl2
       generalize hs[k] = h at *
       cases hv3
       have i1 : (0 : Int) ≤ k := by omega
       have i2 : (k : Int) < hs.length := by omega
       go_wp2_with (at_builtin; refine wpList_app eB rfl (.tmp 31) (.tmp 32) 22 rfl Tryz.underlying22 w.heap.size rfl hown _ _ rfl hsee ?c1 hf.size ?_)
       case c1 => omega
       intro v' w4 hap
       go_wp2_with fail
       go_roundw
       case rel => exact ⟨k + 1, by omega, by go_num, by rw [HF.out]; exact hap.own, hap.below hown hf (Nat.le_refl _) hf.size⟩
       case measure => simp [intOf]; omega
     · rw [List.take_of_length_le (by have := HL.out; omega)] at hown
       go_wp2_with fail
       go_ret
       exact ⟨_, rfl, hown, hf⟩
set_option maxRecDepth 512
theorem All_big (v : Value) (hs : List Hd) (ls : List (List UInt8)) (w : World) (hv : Sees2 w eHB eB v hs ls) (hn : ls.flatten.length ≤ 100000000) :
  Calls Tryz.prog 33 #[v] w fun e w' => ∃ v, e = .returned v ∧ Ow w' w.heap.size eB v ls.flatten ∧ Fr w w' := by
 obtain ⟨a, cap, hva, _⟩ := hv.1.shape
 have HC := hid (BConcat_big v hs ls w hv hn)
 subst hva
 go_enter Tryz.func33, Tryz.ntmps33
 go_wp2_with fail
 refine HC.out.mono ?_
 rintro e w1 ⟨v1, rfl, hown, hf⟩
 go_wp2_with fail
 go_ret
 exact ⟨_, rfl, hown, hf⟩
theorem all3_big (va vb vc : Value) (la lb lc : List UInt8) (W : World) (ha : See W eB va la) (hb : See W eB vb lb) (hc : See W eB vc lc) (hn : la.length + lb.length + lc.length ≤ 100000000) :
  Calls Tryz.prog 33 #[.slice (some ⟨W.heap.size, 0, none⟩) 3 3] (W.alloc (.cells #[va, vb, vc] 22)) fun e w' => ∃ v, e = .returned v ∧ Ow w' W.heap.size eB v (la ++ lb ++ lc) ∧ Fr W w' := by
 obtain ⟨pa, rfl⟩ := hd_of ha
 obtain ⟨pb, rfl⟩ := hd_of hb
 obtain ⟨pc, rfl⟩ := hd_of hc
 have h2 := lit_sees2 W #[pa.v, pb.v, pc.v] 22 [pa, pb, pc] [la, lb, lc] 3 rfl rfl rfl (by simp) (fun i h1 h2 => by
  match i, h1 with
  | 0, _ => exact ha
  | 1, _ => exact hb
  | 2, _ => exact hc)
 refine (All_big _ _ _ _ h2 (by simp; omega)).mono ?_
 rintro e w' ⟨v, rfl, ho, hf⟩
 exact ⟨v, rfl, by simpa using ho.rebase (b := W.heap.size) (by simp), ((Fr.refl W).alloc _).trans hf⟩
theorem mark_short (l : List UInt8) (h : l.length ≤ 4) : markV l = (0, 1) := by unfold markV; rw [if_pos h]
theorem mark_magic (l : List UInt8) (h : ¬ l.length ≤ 4) (h2 : ¬ l.take 4 = [70, 73, 82, 75]) : markV l = (0, 3) := by unfold markV; rw [if_neg h, if_neg h2]
theorem mark_yes (l : List UInt8) (h : ¬ l.length ≤ 4) (h2 : l.take 4 = [70, 73, 82, 75]) (h3 : 1 ≤ (l.getD 4 0).toNat ∧ (l.getD 4 0).toNat ≤ 3) : markV l = ((l.getD 4 0).toNat, 0) := by unfold markV; rw [if_neg h, if_pos h2, if_pos h3]
theorem mark_no (l : List UInt8) (h : ¬ l.length ≤ 4) (h2 : l.take 4 = [70, 73, 82, 75]) (h3 : ¬ (1 ≤ (l.getD 4 0).toNat ∧ (l.getD 4 0).toNat ≤ 3)) : markV l = (0, 4) := by unfold markV; rw [if_neg h, if_pos h2, if_neg h3]
set_option maxRecDepth 100000
theorem OMarked_any (v : Value) (l : List UInt8) (w : World) (hs : See w eB v l) :
  Calls Tryz.prog 79 #[v] w fun e w' => e = .returned (.tuple #[N (markV l).1, .int .i64 ((markV l).2 : Int)]) ∧ Fr w w' := by
 obtain ⟨a0, cap, hv, hc1, hc2, _⟩ := hs.shape
 subst hv
 unfold maxLen at hc2
 by_cases h4 : l.length ≤ 4
 · have h4' : (l.length : Int) ≤ 4 := by omega
   have HE := hid (mark_short l h4)
   rw [HE.out]
   go_enter Tryz.func79, Tryz.ntmps79
   go_wp2_with fail
   go_ret2
   exact ⟨rfl, Fr.refl w⟩
 · have h4' : ¬ (l.length : Int) ≤ 4 := by omega
   obtain ⟨htr, hts⟩ := run_to eB 22 Tryz.underlying22 hs 4 (by omega)
   have hconv := fun W (h : Fr w W) => conv_at _ (l.take 4) W (hts.fr h)
   have HCv := hid hconv
   have hcw := hconv w (Fr.refl w)
   clear hconv
   have i1 : (4 : Int) < l.length := by omega
   by_cases hm : l.take 4 = [70, 73, 82, 75]
   · rw [hm] at hcw
     obtain ⟨b, off, cp, hv9, e9⟩ := hs.cell1 Fk.u8 rfl 4 (by omega)
     simp only [Value.slice.injEq] at hv9
     obtain ⟨rfl, hk, rfl⟩ := hv9
     clear hk
     rw [← getD_at l 4 0 (by omega)] at e9
     have e10 : w.cell? ⟨b, off + 4, none⟩ = some (.int .u8 ((l.getD 4 0).toNat : Int)) := e9
     have HMy := hid (mark_yes l h4 hm)
     have HMn := hid (mark_no l h4 hm)
     have HW := hid (fun x => ow_any x 1 3)
     have hxl := (l.getD 4 0).toNat_lt
     generalize (l.getD 4 0).toNat = x at *
     generalize markV l = mv at *
     have hw1 : IntKind.i64.wrap (x : Int) = (x : Int) := wrap_i64 _ (by omega)
     clear e9 hts hm
     go_enter Tryz.func79, Tryz.ntmps79
     go_wp2_with fail
     refine ((HW.out _) _).mono ?_
     rintro e w1 ⟨rfl, rfl⟩
     by_cases hx : 1 ≤ x ∧ x ≤ 3
     · have HE := hid (HMy.out hx)
       have hdx : decide ((1 : Int) ≤ (x : Int) ∧ (x : Int) ≤ 3) = true := decide_eq_true (by omega)
       rw [hdx]
       go_wp2_with fail
       go_ret2
       exact ⟨by rw [HE.out]; rfl, Fr.refl w⟩
     · have HE := hid (HMn.out hx)
       have hdx : decide ((1 : Int) ≤ (x : Int) ∧ (x : Int) ≤ 3) = false := decide_eq_false (by omega)
       rw [hdx]
       go_wp2_with fail
       go_ret2
       exact ⟨by rw [HE.out]; rfl, Fr.refl w⟩
   · have HE := hid (mark_magic l h4 hm)
     rw [HE.out]
     have hne2 : ¬ (⟨(l.take 4).toArray⟩ : ByteArray) = ⟨#[70, 73, 82, 75]⟩ := by
      intro e
      have := congrArg (fun b : ByteArray => b.data.toList) e
      exact hm (by simpa using this)
     have hb1 : (l.take 4 == [70, 73, 82, 75]) = false := by simpa using hm
     have hb5 : ¬ (l.take 4).toArray = #[70, 73, 82, 75] := fun e => hm (by simpa using congrArg Array.toList e)
     go_enter Tryz.func79, Tryz.ntmps79
     go_wp2_with fail
     go_ret2
     exact ⟨rfl, Fr.refl w⟩
set_option maxRecDepth 512
theorem err_zero (l : List UInt8) : (errCut l = 0) ↔ okCut l = true := by
 unfold errCut
 cases h : okCut l
 · simp; split <;> omega
 · simp
set_option maxRecDepth 100000
theorem counts_any (v : Value) (l : List UInt8) (w : World) (hs : See w eB v l) (hn : l.length ≤ 1000000) (ht : Crc w) :
  Calls Tryz.prog 42 #[v] w fun e w' => e = .returned (.bool (countB l)) ∧ Fr w w' := by
 have HC := hid (Cut_any v l w hs hn ht)
 have HM := hid (fun W (h : Fr w W) => OMarked_any v l W (hs.fr h))
 have HB : Hid (countB l = (okCut l && decide (markV l = (3, 0)))) := rfl
 have HZ := hid (err_zero l)
 obtain ⟨a0, cap, hv, _⟩ := hs.shape
 subst hv
 clear hs ht
 generalize countB l = R at *
 generalize hmv : markV l = mv at *
 obtain ⟨ver, er⟩ := mv
 clear hmv
 generalize okCut l = ok at *
 generalize errCut l = ec at *
 generalize cutB l = q at *
 simp only at HM
 go_enter Tryz.func42, Tryz.ntmps42
 go_wp2_with fail
 refine (HC.out).mono ?_
 rintro e w1 ⟨u, rfl, hu, hf1⟩
 obtain ⟨p1, z1, hq1⟩ := hu.shape'
 subst hq1
 clear hu
 go_wp2_with fail
 refine (HM.out _ hf1).mono ?_
 rintro e w2 ⟨rfl, hf2⟩
 have hf := hf1.trans hf2
 by_cases h1 : ec = 0
 · have hok := HZ.out.1 h1
   subst hok h1
   by_cases h2 : er = 0
   · subst h2
     by_cases h3 : ver = 3
     · subst h3
       have HR : Hid (R = true) := by show _ = _; rw [HB.out]; rfl
       go_wp2_with fail
       go_ret
       exact ⟨by rw [HR.out]; rfl, hf⟩
     · have h3' : ¬ (ver : Int) = 3 := by omega
       have HR : Hid (R = false) := by show _ = _; rw [HB.out, Bool.true_and]; exact decide_eq_false (fun e => h3 (Prod.mk.inj e).1)
       have hb : ((ver : Int) == 3) = false := by simpa using h3'
       clear h3
       go_wp2_with fail
       go_ret
       exact ⟨by rw [HR.out]; rfl, hf⟩
   · have h2' : ¬ (er : Int) = 0 := by omega
     have HR : Hid (R = false) := by show _ = _; rw [HB.out, Bool.true_and]; exact decide_eq_false (fun e => h2 (Prod.mk.inj e).2)
     clear h2
     go_wp2_with fail
     go_ret
     exact ⟨by rw [HR.out]; rfl, hf⟩
 · have hok : ok = false := by cases ok; rfl; exact absurd (HZ.out.2 rfl) h1
   have h1' : ¬ (ec : Int) = 0 := by omega
   have HR : Hid (R = false) := by show _ = _; rw [HB.out, hok]; rfl
   clear h1
   go_wp2_with fail
   go_ret
   exact ⟨by rw [HR.out]; rfl, hf⟩
theorem copies_no (v : Value) (l : List UInt8) (w : World) (hs : See w eB v l) (hl : l.length < 42) :
  Calls Tryz.prog 24 #[v] w fun e w' => e = .returned (.tuple #[.slice none 0 0, .slice none 0 0, .bool false]) ∧ Fr w w' := by
 obtain ⟨a0, cap, hv, _⟩ := hs.shape
 subst hv
 have h42 : (l.length : Int) < 42 := by omega
 go_enter Tryz.func24, Tryz.ntmps24
 go_wp2_with fail
 exact bodyPost_ret (v := .tuple #[.slice none 0 0, .slice none 0 0, .bool false]) (by simp [results, Tryz.results24, go_sem, *]) rfl ⟨rfl, Fr.refl w⟩
theorem copies_any (v : Value) (l : List UInt8) (w : World) (hs : See w eB v l) (hl : 42 ≤ l.length) :
  Calls Tryz.prog 24 #[v] w fun e w' => ∃ v1 v2, e = .returned (.tuple #[v1, v2, .bool true]) ∧ See w' eB v1 (l.take 21) ∧ See w' eB v2 (l.drop (l.length - 21)) ∧ Fr w w' := by
 obtain ⟨a0, cap, hv, hc1, hc2, _⟩ := hs.shape
 subst hv
 unfold maxLen at hc2
 have h42 : ¬ (l.length : Int) < 42 := by omega
 obtain ⟨htr, hts⟩ := run_to eB 22 Tryz.underlying22 hs 21 (by omega)
 obtain ⟨f1, f2, hfr, hfs⟩ := run_from eB 22 Tryz.underlying22 hs (l.length - 21) (by omega)
 have hw1 : IntKind.i64.wrap ((l.length : Int) - 21) = ((l.length - 21 : Nat) : Int) := by rw [show (l.length : Int) - 21 = ((l.length - 21 : Nat) : Int) by omega]; exact IntWalk.i64_in _ (by omega)
 have HT := hid hts
 have HF := hid hfs
 clear hts hfs hs
 generalize l.length - (l.length - 21) = m at *
 generalize hk : l.length - 21 = k at *
 clear hk
 go_enter Tryz.func24, Tryz.ntmps24
 go_wp2_with fail
 go_quiet (fail)
 go_wp2_with fail
 exact bodyPost_ret (v := .tuple #[.slice a0 21 cap, .slice f1 m f2, .bool true]) (by simp [results, Tryz.results24, go_sem, *]) rfl ⟨_, _, rfl, HT.out.fr ((Fr.refl w).drewN _), HF.out.fr ((Fr.refl w).drewN _), (Fr.refl w).drewN _⟩
set_option maxRecDepth 512
def headOf (l : List UInt8) : List UInt8 := if countB (l.take 21) then l.take 21 else l.drop (l.length - 21)
def hasB (l : List UInt8) : Bool := countB (l.take 21) || countB (l.drop (l.length - 21))
set_option maxRecDepth 100000
theorem choose_short (v : Value) (l : List UInt8) (w : World) (hs : See w eB v l) (hl : l.length < 42) :
  Calls Tryz.prog 17 #[v] w fun e w' => e = .returned (.tuple #[.slice none 0 0, .int .i64 1]) ∧ Fr w w' := by
 have HC := hid (copies_no v l w hs hl)
 obtain ⟨a0, cap, hv, _⟩ := hs.shape
 subst hv
 clear hs
 go_enter Tryz.func17, Tryz.ntmps17
 go_wp2_with fail
 refine (HC.out).mono ?_
 rintro e w1 ⟨rfl, hf1⟩
 go_wp2_with fail
 go_ret2
 exact ⟨rfl, hf1⟩
theorem choose_any (v : Value) (l : List UInt8) (w : World) (hs : See w eB v l) (hl : 42 ≤ l.length) (hn : l.length ≤ 1000000) (ht : Crc w) :
  Calls Tryz.prog 17 #[v] w fun e w' => ∃ u, e = .returned (.tuple #[u, .int .i64 ((if hasB l then 0 else 5 : Nat) : Int)]) ∧ (hasB l = true → See w' eB u (headOf l)) ∧ (hasB l = false → u = .slice none 0 0) ∧ Fr w w' := by
 have HC := hid (copies_any v l w hs hl)
 have H1 := hid (fun W v1 (h : See W eB v1 (l.take 21)) (h2 : Fr w W) => counts_any v1 (l.take 21) W h (by rw [List.length_take]; omega) (ht.fr h2))
 have H2 := hid (fun W v1 (h : See W eB v1 (l.drop (l.length - 21))) (h2 : Fr w W) => counts_any v1 (l.drop (l.length - 21)) W h (by rw [List.length_drop]; omega) (ht.fr h2))
 have HH : Hid (hasB l = (countB (l.take 21) || countB (l.drop (l.length - 21)))) := rfl
 have HO : Hid (headOf l = if countB (l.take 21) then l.take 21 else l.drop (l.length - 21)) := rfl
 obtain ⟨a0, cap, hv, _⟩ := hs.shape
 subst hv
 clear hs ht
 generalize l.take 21 = L1 at *
 generalize l.drop (l.length - 21) = L2 at *
 generalize countB L1 = b1 at *
 generalize countB L2 = b2 at *
 generalize hasB l = R at *
 generalize headOf l = H at *
 obtain ⟨ec, hec⟩ : ∃ q : Nat, q = (if R then 0 else 5) := ⟨_, rfl⟩
 rw [← hec]
 have HEc := hid hec
 clear hec
 go_enter Tryz.func17, Tryz.ntmps17
 go_wp2_with fail
 refine (HC.out).mono ?_
 rintro e w1 ⟨v1, v2, rfl, hs1, hs2, hf1⟩
 have H1' := hid (H1.out w1 v1 hs1 hf1)
 obtain ⟨p1, z1, hq1, _⟩ := hs1.shape
 subst hq1
 obtain ⟨p2, z2, hq2, _⟩ := hs2.shape
 subst hq2
 go_wp2_with fail
 refine (H1'.out).mono ?_
 rintro e w2 ⟨rfl, hf2⟩
 have hf02 := hf1.trans hf2
 cases b1 with
 | true =>
  have HR : Hid (R = true) := by show _ = _; rw [HH.out]; rfl
  have HO' : Hid (H = L1) := by show _ = _; rw [HO.out]; rfl
  go_wp2_with fail
  go_ret2
  exact ⟨_, by rw [HEc.out, HR.out]; rfl, fun _ => by rw [HO'.out]; exact hs1.fr hf2, fun h => (by rw [HR.out] at h; cases h), hf02⟩
 | false =>
  have HO' : Hid (H = L2) := by show _ = _; rw [HO.out]; rfl
  have H2' := hid (H2.out w2 _ (hs2.fr hf2) hf02)
  go_wp2_with fail
  refine (H2'.out).mono ?_
  rintro e w3 ⟨rfl, hf3⟩
  have hf03 := hf02.trans hf3
  cases b2 with
  | true =>
   have HR : Hid (R = true) := by show _ = _; rw [HH.out]; rfl
   go_wp2_with fail
   go_ret2
   exact ⟨_, by rw [HEc.out, HR.out]; rfl, fun _ => by rw [HO'.out]; exact hs2.fr (hf2.trans hf3), fun h => (by rw [HR.out] at h; cases h), hf03⟩
  | false =>
   have HR : Hid (R = false) := by show _ = _; rw [HH.out]; rfl
   go_wp2_with fail
   go_ret2
   exact ⟨_, by rw [HEc.out, HR.out]; rfl, fun h => (by rw [HR.out] at h; cases h), fun _ => rfl, hf03⟩
set_option maxRecDepth 512
set_option maxRecDepth 100000
theorem RCut_any (v : Value) (l : List UInt8) (w : World) (hs : See w eB v l) (hn : l.length ≤ 1000000) :
  Calls Tryz.prog 20 #[v] w fun e w' => ∃ u, e = .returned (.tuple #[u, .int .i64 (errCut l : Int)]) ∧ Ow w' w.heap.size eB u (cutB l) ∧ Fr w w' := by
 obtain ⟨a0, cap, hv, hc1, hc2, _⟩ := hs.shape
 subst hv
 unfold maxLen at hc2
 by_cases h4 : l.length < 4
 · have h0 : okCut l = false := by unfold okCut; rw [decide_eq_false (by omega), Bool.false_and]
   have HE : Hid (errCut l = 1) := by show _ = _; unfold errCut; rw [h0]; simp [h4]
   have HC : Hid (cutB l = []) := by show _ = _; unfold cutB; rw [h0]; simp
   rw [HC.out, HE.out]
   have hlt : (l.length : Int) < 4 := by omega
   clear h0 HE HC
   go_enter Tryz.func20, Tryz.ntmps20
   go_wp2_with fail
   go_ret2
   exact ⟨_, rfl, Ow.nil, Fr.refl w⟩
 · obtain ⟨n, hn4⟩ : ∃ n, n = l.length - 4 := ⟨_, rfl⟩
   obtain ⟨htr, hts⟩ := run_to eB 22 Tryz.underlying22 hs n (by omega)
   have hlen : (l.take n).length = n := by rw [List.length_take]; omega
   have hok : okCut l = decide (putB (l.take n) = l) := by unfold okCut; rw [decide_eq_true (by omega), Bool.true_and, hn4]
   have HP := hid (fun W (h : Fr w W) => RPut_any _ (l.take n) W (hts.fr h) (by omega))
   have HS := hid (fun W v' (h : Fr w W) (h2 : See W eB v' (putB (l.take n))) => RSame1_any v' _ (putB (l.take n)) l W h2 (hs.fr h))
   rw [← hok] at HS
   have HT := hid (fun W (h : Fr w W) => hts.fr h)
   have HE : Hid (errCut l = if okCut l then 0 else 5) := by show _ = _; unfold errCut; simp [h4]
   have HC : Hid (cutB l = if okCut l then l.take n else []) := by show _ = _; rw [hn4]; rfl
   have hw : IntKind.i64.wrap ((l.length : Int) - 4) = (n : Int) := by rw [IntWalk.i64_in _ (by omega)]; omega
   have hge : ¬ (l.length : Int) < 4 := by omega
   have HLn := hid hlen
   have hnb : n ≤ 1000000 := by omega
   rw [HE.out, HC.out]
   clear HE HC hok hs hts hlen hn4 h4
   generalize okCut l = R at *
   generalize putB (l.take n) = B at *
   generalize l.take n = q at *
   go_enter Tryz.func20, Tryz.ntmps20
   go_wp2_with fail
   refine (HP.out _ (Fr.refl w)).mono ?_
   rintro e w1 ⟨v1, rfl, hO1, hf1⟩
   have HS1 := hid (HS.out w1 v1 hf1 hO1.see)
   obtain ⟨p1, z1, hq1⟩ := hO1.shape'
   subst hq1
   clear hO1
   go_wp2_with fail
   refine HS1.out.mono ?_
   rintro e w2 ⟨rfl, rfl⟩
   cases R
   · go_wp2_with fail
     go_ret2
     exact ⟨_, rfl, Ow.nil, hf1⟩
   · have hl : Ow (w1.alloc (.cells #[] 5)) w.heap.size eB (.slice (some ⟨w1.heap.size, 0, none⟩) 0 0) [] := own_lit eB w1 #[] [] 0 rfl (Nat.zero_le _) hf1.size
     have hfa : Fr w (w1.alloc (.cells #[] 5)) := hf1.alloc _
     have hT1 := HT.out _ hfa
     go_wp2_with (at_builtin; refine wpList_app eB rfl (.tmp 16) (.tmp 21) 22 rfl Tryz.underlying22 w.heap.size rfl hl _ _ rfl hT1 ?c1 hfa.size ?_)
     case c1 => rw [HLn.out]; simp; omega
     intro v5 w5 hap5
     have hf05 := hap5.below hl hfa (Nat.le_refl _) hfa.size
     have own5 : Ow w5 w.heap.size eB v5 q := by simpa using hap5.own
     obtain ⟨p5, z5, hq5⟩ := own5.shape'
     subst hq5
     clear hap5 hl hT1
     go_wp2_with fail
     go_ret2
     exact ⟨_, rfl, own5, hf05⟩
theorem RMark_any (v : Value) (l : List UInt8) (w : World) (hs : See w eB v l) :
  Calls Tryz.prog 21 #[v] w fun e w' => e = .returned (.tuple #[N (markV l).1, .int .i64 ((markV l).2 : Int)]) ∧ w = w' := by
 obtain ⟨a0, cap, hv, hc1, hc2, _⟩ := hs.shape
 subst hv
 unfold maxLen at hc2
 by_cases h4 : l.length ≤ 4
 · have h4' : (l.length : Int) < 5 := by omega
   have HE := hid (mark_short l h4)
   generalize markV l = mv at *
   go_enter Tryz.func21, Tryz.ntmps21
   go_wp2_with fail
   go_ret2
   exact ⟨by rw [HE.out]; rfl, rfl⟩
 · obtain ⟨b, off, cp, hv0, c0⟩ := hs.cell1 Fk.u8 rfl 0 (by omega)
   simp only [Value.slice.injEq] at hv0
   obtain ⟨rfl, _, rfl⟩ := hv0
   have cN : ∀ i (h : i < l.length), w.cell? ⟨b, off + i, none⟩ = some (.int .u8 (l[i].toNat : Int)) := fun i h => by
    obtain ⟨b', off', cp', hv', c'⟩ := hs.cell1 Fk.u8 rfl i h
    simp only [Value.slice.injEq, Option.some.injEq, Addr.mk.injEq, and_true] at hv'
    obtain ⟨⟨rfl, rfl⟩, _, _⟩ := hv'
    exact c'
   have d0 := cN 0 (by omega)
   have d1 := cN 1 (by omega)
   have d2 := cN 2 (by omega)
   have d3 := cN 3 (by omega)
   have d4 := cN 4 (by omega)
   rw [Nat.add_zero] at d0
   have ht : l.take 4 = [l[0]'(by omega), l[1]'(by omega), l[2]'(by omega), l[3]'(by omega)] := by
    apply List.ext_getElem
    · simp; omega
    · intro i hi1 hi2
      rw [List.getElem_take]
      have : i < 4 := by simpa using hi2
      match i, this with
      | 0, _ => rfl
      | 1, _ => rfl
      | 2, _ => rfl
      | 3, _ => rfl
   have HMg := hid (fun h2 => mark_magic l h4 h2)
   have HMy := hid (fun h2 => mark_yes l h4 h2)
   have HMn := hid (fun h2 => mark_no l h4 h2)
   rw [ht] at HMg HMy HMn
   rw [getD_at l 4 0 (by omega)] at HMy HMn
   have i0 : ¬ (l.length : Int) < 5 := by omega
   have i1 : (0 : Int) < l.length := by omega
   have i2 : (1 : Int) < l.length := by omega
   have i3 : (2 : Int) < l.length := by omega
   have i4 : (3 : Int) < l.length := by omega
   have i5 : (4 : Int) < l.length := by omega
   clear cN c0 hs ht
   generalize l[0]'(by omega) = x0 at *
   generalize l[1]'(by omega) = x1 at *
   generalize l[2]'(by omega) = x2 at *
   generalize l[3]'(by omega) = x3 at *
   generalize l[4]'(by omega) = x4 at *
   generalize markV l = mv at *
   by_cases hm : x0 = 70 ∧ x1 = 73 ∧ x2 = 82 ∧ x3 = 75
   · obtain ⟨rfl, rfl, rfl, rfl⟩ := hm
     have e0 : w.cell? ⟨b, off, none⟩ = some (.int .u8 70) := d0
     have e1 : w.cell? ⟨b, off + 1, none⟩ = some (.int .u8 73) := d1
     have e2 : w.cell? ⟨b, off + 2, none⟩ = some (.int .u8 82) := d2
     have e3 : w.cell? ⟨b, off + 3, none⟩ = some (.int .u8 75) := d3
     clear d0 d1 d2 d3
     by_cases hx : 1 ≤ x4.toNat ∧ x4.toNat ≤ 3
     · have HE := hid (HMy.out rfl hx)
       have hlo : ¬ (x4.toNat : Int) < 1 := by omega
       have hhi : ¬ (3 : Int) < x4.toNat := by omega
       generalize x4.toNat = x at *
       go_enter Tryz.func21, Tryz.ntmps21
       go_wp2_with fail
       go_ret2
       exact ⟨by rw [HE.out]; rfl, rfl⟩
     · have HE := hid (HMn.out rfl hx)
       generalize x4.toNat = x at *
       by_cases hlo : (x : Int) < 1
       · go_enter Tryz.func21, Tryz.ntmps21
         go_wp2_with fail
         go_ret2
         exact ⟨by rw [HE.out]; rfl, rfl⟩
       · have hhi : (3 : Int) < x := by omega
         go_enter Tryz.func21, Tryz.ntmps21
         go_wp2_with fail
         go_ret2
         exact ⟨by rw [HE.out]; rfl, rfl⟩
   · have HE := hid (HMg.out (fun e => hm (by simpa using e)))
     clear HMg HMy HMn
     by_cases h0 : x0 = 70
     · subst h0
       by_cases h1 : x1 = 73
       · subst h1
         by_cases h2 : x2 = 82
         · subst h2
           by_cases h3 : x3 = 75
           · subst h3
             exact absurd ⟨rfl, rfl, rfl, rfl⟩ hm
           · have hn3 : ¬ (x3.toNat : Int) = 75 := fun e => h3 (UInt8.toNat_inj.1 (by show x3.toNat = 75; omega))
             have hb3 : ((x3.toNat : Int) != 75) = true := by simpa using hn3
             clear h3
             go_enter Tryz.func21, Tryz.ntmps21
             go_wp2_with fail
             go_ret2
             exact ⟨by rw [HE.out]; rfl, rfl⟩
         · have hn2 : ¬ (x2.toNat : Int) = 82 := fun e => h2 (UInt8.toNat_inj.1 (by show x2.toNat = 82; omega))
           have hb2 : ((x2.toNat : Int) != 82) = true := by simpa using hn2
           clear h2
           go_enter Tryz.func21, Tryz.ntmps21
           go_wp2_with fail
           go_ret2
           exact ⟨by rw [HE.out]; rfl, rfl⟩
       · have hn1 : ¬ (x1.toNat : Int) = 73 := fun e => h1 (UInt8.toNat_inj.1 (by show x1.toNat = 73; omega))
         have hb1 : ((x1.toNat : Int) != 73) = true := by simpa using hn1
         clear h1
         go_enter Tryz.func21, Tryz.ntmps21
         go_wp2_with fail
         go_ret2
         exact ⟨by rw [HE.out]; rfl, rfl⟩
     · have hn0 : ¬ (x0.toNat : Int) = 70 := fun e => h0 (UInt8.toNat_inj.1 (by show x0.toNat = 70; omega))
       have hb0 : ((x0.toNat : Int) != 70) = true := by simpa using hn0
       clear h0
       go_enter Tryz.func21, Tryz.ntmps21
       go_wp2_with fail
       go_ret2
       exact ⟨by rw [HE.out]; rfl, rfl⟩
theorem RCountB_any (v : Value) (l : List UInt8) (w : World) (hs : See w eB v l) (hn : l.length ≤ 1000000) :
  Calls Tryz.prog 11 #[v] w fun e w' => e = .returned (.bool (countB l)) ∧ Fr w w' := by
 have HC := hid (RCut_any v l w hs hn)
 have HM := hid (fun W (h : Fr w W) => RMark_any v l W (hs.fr h))
 have HB : Hid (countB l = (okCut l && decide (markV l = (3, 0)))) := rfl
 have HZ := hid (err_zero l)
 obtain ⟨a0, cap, hv, _⟩ := hs.shape
 subst hv
 clear hs
 generalize countB l = R at *
 generalize hmv : markV l = mv at *
 obtain ⟨ver, er⟩ := mv
 clear hmv
 generalize okCut l = ok at *
 generalize errCut l = ec at *
 generalize cutB l = q at *
 simp only at HM
 go_enter Tryz.func11, Tryz.ntmps11
 go_wp2_with fail
 refine (HC.out).mono ?_
 rintro e w1 ⟨u, rfl, hu, hf1⟩
 obtain ⟨p1, z1, hq1⟩ := hu.shape'
 subst hq1
 clear hu
 go_wp2_with fail
 refine (HM.out _ hf1).mono ?_
 rintro e w2 ⟨rfl, rfl⟩
 have hf := hf1
 by_cases h1 : ec = 0
 · have hok := HZ.out.1 h1
   subst hok h1
   by_cases h2 : er = 0
   · subst h2
     by_cases h3 : ver = 3
     · subst h3
       have HR : Hid (R = true) := by show _ = _; rw [HB.out]; rfl
       go_wp2_with fail
       go_ret
       exact ⟨by rw [HR.out]; rfl, hf⟩
     · have h3' : ¬ (ver : Int) = 3 := by omega
       have HR : Hid (R = false) := by show _ = _; rw [HB.out, Bool.true_and]; exact decide_eq_false (fun e => h3 (Prod.mk.inj e).1)
       have hb : ((ver : Int) == 3) = false := by simpa using h3'
       clear h3
       go_wp2_with fail
       go_ret
       exact ⟨by rw [HR.out]; rfl, hf⟩
   · have h2' : ¬ (er : Int) = 0 := by omega
     have HR : Hid (R = false) := by show _ = _; rw [HB.out, Bool.true_and]; exact decide_eq_false (fun e => h2 (Prod.mk.inj e).2)
     clear h2
     go_wp2_with fail
     go_ret
     exact ⟨by rw [HR.out]; rfl, hf⟩
 · have hok : ok = false := by cases ok; rfl; exact absurd (HZ.out.2 rfl) h1
   have h1' : ¬ (ec : Int) = 0 := by omega
   have HR : Hid (R = false) := by show _ = _; rw [HB.out, hok]; rfl
   clear h1
   go_wp2_with fail
   go_ret
   exact ⟨by rw [HR.out]; rfl, hf⟩
theorem RHas_any (v : Value) (l : List UInt8) (w : World) (hs : See w eB v l) (hn : l.length ≤ 1000000) :
  Calls Tryz.prog 8 #[v] w fun e w' => e = .returned (.bool (decide (42 ≤ l.length) && hasB l)) ∧ Fr w w' := by
 obtain ⟨a0, cap, hv, hc1, hc2, _⟩ := hs.shape
 subst hv
 unfold maxLen at hc2
 by_cases h42 : l.length < 42
 · have HR : Hid ((decide (42 ≤ l.length) && hasB l) = false) := by show _ = _; rw [decide_eq_false (by omega), Bool.false_and]
   have h42' : ¬ (42 : Int) ≤ l.length := by omega
   rw [HR.out]
   clear h42
   go_enter Tryz.func8, Tryz.ntmps8
   go_wp2_with fail
   go_ret
   exact ⟨rfl, Fr.refl w⟩
 · have h42' : (42 : Int) ≤ l.length := by omega
   obtain ⟨htr, hts⟩ := run_to eB 22 Tryz.underlying22 hs 21 (by omega)
   obtain ⟨f1, f2, hfr, hfs⟩ := run_from eB 22 Tryz.underlying22 hs (l.length - 21) (by omega)
   have hw1 : IntKind.i64.wrap ((l.length : Int) - 21) = ((l.length - 21 : Nat) : Int) := by rw [show (l.length : Int) - 21 = ((l.length - 21 : Nat) : Int) by omega]; exact IntWalk.i64_in _ (by omega)
   have H1 := hid (fun W (h : Fr w W) => RCountB_any _ (l.take 21) W (hts.fr h) (by rw [List.length_take]; omega))
   have H2 := hid (fun W (h : Fr w W) => RCountB_any _ (l.drop (l.length - 21)) W (hfs.fr h) (by rw [List.length_drop]; omega))
   have HR : Hid ((decide (42 ≤ l.length) && hasB l) = (countB (l.take 21) || countB (l.drop (l.length - 21)))) := by show _ = _; rw [decide_eq_true (by omega), Bool.true_and]; rfl
   rw [HR.out]
   clear HR hs hts hfs h42
   generalize l.length - (l.length - 21) = m at *
   generalize countB (l.take 21) = b1 at *
   generalize countB (l.drop (l.length - 21)) = b2 at *
   generalize l.length - 21 = k at *
   obtain ⟨R, hR⟩ : ∃ R, R = (b1 || b2) := ⟨_, rfl⟩
   rw [← hR]
   have HR := hid hR
   clear hR
   go_enter Tryz.func8, Tryz.ntmps8
   go_wp2_with fail
   refine (H1.out _ (Fr.refl w)).mono ?_
   rintro e w2 ⟨rfl, hf2⟩
   cases b1 with
   | true =>
    go_wp2_with fail
    go_ret
    exact ⟨by rw [HR.out]; rfl, hf2⟩
   | false =>
    go_wp2_with fail
    refine (H2.out _ hf2).mono ?_
    rintro e w3 ⟨rfl, hf3⟩
    go_wp2_with fail
    go_ret
    exact ⟨by rw [HR.out]; rfl, hf2.trans hf3⟩
theorem THas_any (v : Value) (l : List UInt8) (w : World) (hs : See w eB v l) (hn : l.length ≤ 1000000) (ht : Crc w) :
  Calls Tryz.prog 7 #[v] w fun e w' => e = .returned (.bool (decide (42 ≤ l.length) && hasB l)) ∧ Fr w w' := by
 by_cases h42 : l.length < 42
 · have HC := hid (choose_short v l w hs h42)
   have HR : Hid ((decide (42 ≤ l.length) && hasB l) = false) := by show _ = _; rw [decide_eq_false (by omega), Bool.false_and]
   obtain ⟨a0, cap, hv, _⟩ := hs.shape
   subst hv
   rw [HR.out]
   clear hs h42
   go_enter Tryz.func7, Tryz.ntmps7
   go_wp2_with fail
   refine (HC.out).mono ?_
   rintro e w1 ⟨rfl, hf1⟩
   go_wp2_with fail
   go_ret
   exact ⟨rfl, hf1⟩
 · have HC := hid (choose_any v l w hs (by omega) hn ht)
   have HR : Hid ((decide (42 ≤ l.length) && hasB l) = hasB l) := by show _ = _; rw [decide_eq_true (by omega), Bool.true_and]
   obtain ⟨a0, cap, hv, _⟩ := hs.shape
   subst hv
   rw [HR.out]
   clear HR hs ht h42
   generalize headOf l = H at *
   generalize hasB l = R at *
   obtain ⟨ec, hec⟩ : ∃ q : Nat, q = (if R then 0 else 5) := ⟨_, rfl⟩
   rw [← hec] at HC
   have HEc := hid hec
   clear hec
   go_enter Tryz.func7, Tryz.ntmps7
   go_wp2_with fail
   refine (HC.out).mono ?_
   rintro e w1 ⟨u, rfl, h1, h2, hf1⟩
   cases R with
   | true =>
    have hz : ec = 0 := HEc.out
    obtain ⟨p, z, hq, _⟩ := (h1 rfl).shape
    subst hz hq
    go_wp2_with fail
    go_ret
    exact ⟨rfl, hf1⟩
   | false =>
    have hz : ec = 5 := HEc.out
    have hq := h2 rfl
    subst hz hq
    go_wp2_with fail
    go_ret
    exact ⟨rfl, hf1⟩
set_option maxRecDepth 512
end Go.Proofs.YtfhdgenlpmlajaaGreatDoor
