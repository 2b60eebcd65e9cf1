/- Parts of the proof of ThreeMends: C2 Na Nb Nc Nd Ne Nf Ng R1 V0. -/
import Derived.Test.YtfhdgenlpmlajaaGreatDoorM11
import Derived.Test.YtfhdgenlpmlajaaGreatDoorM06
set_option linter.unusedVariables false
set_option linter.unusedSectionVars false
set_option linter.unusedSimpArgs false
set_option maxHeartbeats 8000000
namespace Go.Proofs.YtfhdgenlpmlajaaGreatDoor
open Go.RowKit Go.Fk
set_option maxRecDepth 100000
theorem BEqual_any (va vb : Value) (a b : List UInt8) (w : World) (ha : See w eB va a) (hb : See w eB vb b) :
  Calls Tryz.prog 25 #[va, vb] w fun e w' => e = .returned (.bool (decide (a = b))) ∧ Fr w w' := by
 obtain ⟨aa, ca, hva, ha1, ha2, _⟩ := ha.shape
 obtain ⟨ab, cb, hvb, hb1, hb2, _⟩ := hb.shape
 subst hva hvb
 unfold maxLen at ha2 hb2
 generalize hR : decide (a = b) = R
 have HR := hid hR
 clear hR
 go_enter Tryz.func25, Tryz.ntmps25
 by_cases hl : a.length = b.length
 · have HL := hid hl
   rw [← hl]
   clear hl hb1
   go_wp2_with fail
   go_loopw [13] (fun iv wr => ∃ i : Nat, i ≤ a.length ∧ iv = N i ∧ Hid (∀ j, j < i → a[j]? = b[j]?) ∧ Fr w wr) (fun iv _ => a.length - (intOf iv).toNat)
   case atStart => exact ⟨0, Nat.zero_le _, rfl, fun j h => absurd h (Nat.not_lt_zero j), Fr.refl w⟩
   case round =>
    obtain ⟨i, hi, rfl, HE, hf⟩ := hrel
    by_cases hlt : i < a.length
    · have hlb : i < b.length := by have := HL.out; omega
      obtain ⟨b1, off1, cap1, hv1, e1⟩ := (ha.fr hf).cell1 Fk.u8 rfl i hlt
      obtain ⟨b2, off2, cap2, hv2, e2⟩ := (hb.fr hf).cell1 Fk.u8 rfl i hlb
      have HA : Hid (a[i]? = some a[i]) := List.getElem?_eq_getElem hlt
      have HB : Hid (b[i]? = some b[i]) := List.getElem?_eq_getElem hlb
      generalize a[i] = x at *
      generalize b[i] = y at *
      have d1 : wr.cell? ⟨b1, off1 + i, none⟩ = some (.int .u8 (x.toNat : Int)) := e1
      have d2 : wr.cell? ⟨b2, off2 + i, none⟩ = some (.int .u8 (y.toNat : Int)) := e2
      clear e1 e2
      cases hv1
      cases hv2
      have i1 : (0 : Int) ≤ i := by omega
      have i2 : (i : Int) < a.length := by omega
      by_cases hxy : x = y
      · subst hxy
        go_wp2_with fail
        go_quiet (fail)
        go_wp2_with fail
        go_roundw
        case rel => exact ⟨i + 1, by omega, by go_num, fun j hj => by
         by_cases e : j = i
         · subst e; rw [HA.out, HB.out]
         · exact HE.out j (by omega), hf.drewN _⟩
        case measure => simp [intOf]; omega
      · have hn : ¬ (x.toNat : Int) = y.toNat := fun e => hxy (UInt8.toNat_inj.1 (by omega))
        have HF : Hid (R = false) := by
         show _ = _
         rw [← HR.out]
         refine decide_eq_false fun e => hxy ?_
         have h1 := HA.out
         rw [e, HB.out] at h1
         exact (Option.some.inj h1).symm
        clear hxy
        go_wp2_with fail
        go_quiet (fail)
        go_wp2_with fail
        go_ret
        exact ⟨by rw [HF.out]; rfl, hf.drewN _⟩
    · have HF : Hid (R = true) := by
        show _ = _
        rw [← HR.out]
        refine decide_eq_true (List.ext_getElem? fun j => ?_)
        by_cases hj : j < a.length
        · exact HE.out j (by omega)
        · rw [List.getElem?_eq_none (by omega), List.getElem?_eq_none (by have := HL.out; omega)]
      obtain rfl : i = a.length := by omega
      have hnl : ¬ ((a.length : Int) < a.length) := by omega
      go_wp2_with fail
      go_ret
      exact ⟨by rw [HF.out]; rfl, hf⟩
 · have HF : Hid (R = false) := by
     show _ = _
     rw [← HR.out]
     exact decide_eq_false fun e => hl (by rw [e])
   rw [HF.out]
   have hl' : ¬ (a.length : Int) = b.length := by omega
   go_wp2_with fail
   go_ret
   exact ⟨rfl, Fr.refl w⟩
set_option maxRecDepth 512
theorem okCut_iff (l : List UInt8) (h : 4 ≤ l.length) : okCut l = decide (l.drop (l.length - 4) = tailB (sumU (l.take (l.length - 4)))) := by
 have e : putB (l.take (l.length - 4)) = l.take (l.length - 4) ++ tailB (sumU (l.take (l.length - 4))) := rfl
 unfold okCut
 rw [decide_eq_true h, Bool.true_and, e]
 generalize tailB (sumU (l.take (l.length - 4))) = t
 rw [Bool.eq_iff_iff, decide_eq_true_eq, decide_eq_true_eq]
 constructor
 · intro h2
   have := congrArg (List.drop (l.length - 4)) h2
   rw [List.drop_append_of_le_length (by rw [List.length_take]; omega), List.drop_of_length_le (by rw [List.length_take]; omega), List.nil_append] at this
   exact this.symm
 · intro h2
   rw [← h2, List.take_append_drop]
set_option maxRecDepth 100000
theorem Cut_any (v : Value) (l : List UInt8) (w : World) (hs : See w eB v l) (hn : l.length ≤ 1000000) (ht : Crc w) :
    Calls Tryz.prog 78 #[v] w fun e w' => ∃ u, e = .returned (.tuple #[u, .int .i64 (errCut l : Int)]) ∧ Ow w' w.heap.size eB u (cutB l) ∧ Fr w w' := by
  obtain ⟨a0, cap, hv, hc1, hc2, _⟩ := hs.shape
  subst hv
  unfold maxLen at hc2
  by_cases h4 : l.length < 4
  · have h0 : okCut l = false := by unfold okCut; rw [decide_eq_false (by omega), Bool.false_and]
    have HE : Hid (errCut l = 1) := by show _ = _; unfold errCut; rw [h0]; simp [h4]
    have HC : Hid (cutB l = []) := by show _ = _; unfold cutB; rw [h0]; simp
    rw [HC.out]
    have hw : IntKind.i64.wrap ((l.length : Int) - 4) = (l.length : Int) - 4 := IntWalk.i64_in _ (by omega)
    have hlt : (l.length : Int) - 4 < 0 := by omega
    rw [HE.out]
    clear h0 HE HC
    go_enter Tryz.func78, Tryz.ntmps78
    go_wp2_with fail
    go_ret2
    exact ⟨_, rfl, Ow.nil, Fr.refl w⟩
  · obtain ⟨n, hn4⟩ : ∃ n, n = l.length - 4 := ⟨_, rfl⟩
    have hk : n ≤ l.length := by omega
    obtain ⟨f1, f2, hfr, hfs⟩ := run_from eB 22 Tryz.underlying22 hs n hk
    obtain ⟨htr, hts⟩ := run_to eB 22 Tryz.underlying22 hs n hk
    have hok := okCut_iff l (by omega)
    rw [← hn4] at hok
    have hw : IntKind.i64.wrap ((l.length : Int) - 4) = (n : Int) := by rw [IntWalk.i64_in _ (by omega)]; omega
    have hge : ¬ (n : Int) < 0 := by omega
    have hlen : (l.take n).length = n := by rw [List.length_take]; omega
    have HS := hid (fun W (h : Fr w W) => Sum_any _ (l.take n) W (hts.fr h) (ht.fr h))
    have HT := hid (tail_any (sumU (l.take n)) (sumU_lt _))
    have HQ := hid (fun W v' (h : Fr w W) (h2 : See W eB v' (tailB (sumU (l.take n)))) => BEqual_any _ v' _ _ W (hfs.fr h) h2)
    have HCl := hid (fun W (h : Fr w W) => BClone_any _ (l.take n) W (hts.fr h) (by rw [hlen]; omega))
    have HE : Hid (errCut l = if okCut l then 0 else 5) := by show _ = _; unfold errCut; simp [h4]
    have HC : Hid (cutB l = if okCut l then l.take n else []) := by show _ = _; rw [hn4]; rfl
    rw [← hok] at HQ
    rw [HE.out, HC.out]
    clear HE HC hok hs hts hfs hlen hn4
    generalize sumU (l.take n) = s at *
    generalize okCut l = R at *
    generalize l.take n = q at *
    generalize l.length - n = m at *
    go_enter Tryz.func78, Tryz.ntmps78
    go_wp2_with fail
    go_region_held3 (fun _ => True) (first | trivial | go_keep) ((first
      | (go_at_call 70; refine (HS.out _ (Fr.refl w).drew).mono ?_; rintro e w1 ⟨rfl, hf1⟩)
      | (go_at_call 69; refine (HT.out _).mono ?_; rintro e w2 ⟨v2, rfl, hO2, hf2⟩)
      | (go_at_call 25; refine (HQ.out _ _ (((Fr.refl w).drew.trans hf1).trans hf2) hO2.see).mono ?_; rintro e w3 ⟨rfl, hf3⟩)))
    have hf03 : Fr w w3 := (((Fr.refl w).drew.trans hf1).trans hf2).trans hf3
    clear hO2 hf1 hf2 hf3 HS HT HQ
    cases R
    · go_wp2_with fail
      go_ret2
      exact ⟨_, rfl, Ow.nil, hf03⟩
    · go_wp2_with fail
      refine (HCl.out _ hf03).mono ?_
      rintro e w4 ⟨v4, rfl, hO4, hf4⟩
      obtain ⟨p4, z4, hq4⟩ := hO4.shape'
      subst hq4
      go_wp2_with fail
      go_ret2
      exact ⟨_, rfl, hO4.rebase hf03.size, hf03.trans hf4⟩
set_option maxRecDepth 512
structure CurF (w : World) (T : TypeId) (B base : Nat) (l : List UInt8) (n er : Nat) : Prop where
 h : ∃ v, w.heap[B]? = some (.cells #[v, N n, .int .i64 (er : Int)] T (0, 0)) ∧ Ow w base eB v l
 le : n ≤ l.length
theorem CurF.fr {w w' : World} {T : TypeId} {B base n er : Nat} {l : List UInt8} (h : CurF w T B base l n er) (hf : Fr w w') : CurF w' T B base l n er := by
 obtain ⟨⟨v, h1, h2⟩, h3⟩ := h
 exact ⟨⟨v, hf.heap h1, h2.fr hf⟩, h3⟩
set_option maxRecDepth 100000
theorem New_any (v : Value) (l : List UInt8) (w : World) (hs : See w eB v l) (hn : l.length ≤ 1000000) :
  Calls Tryz.prog 56 #[v] w fun e w' => ∃ B, e = .returned (.pointer (some ⟨B, 0, none⟩)) ∧ CurF w' 142 B w.heap.size l 0 0 ∧ Fr w w' ∧ w.heap.size ≤ B := by
 have HC := hid (BClone_any v l w hs hn)
 obtain ⟨a0, cap, hv, _⟩ := hs.shape
 subst hv
 clear hs
 go_enter Tryz.func56, Tryz.ntmps56
 go_wp2_with fail
 refine (HC.out).mono ?_
 rintro e w1 ⟨u, rfl, hu, hf⟩
 obtain ⟨p, z, hq⟩ := hu.shape'
 subst hq
 go_wp2_with fail
 go_ret
 exact ⟨w1.heap.size, rfl, ⟨⟨_, heap_new _ _ _ rfl, hu.fr ((Fr.refl w1).alloc _)⟩, Nat.zero_le _⟩, hf.alloc _, hf.size⟩
theorem RNew_any (v : Value) (l : List UInt8) (w : World) (hs : See w eB v l) (hn : l.length ≤ 1000000) :
  Calls Tryz.prog 35 #[v] w fun e w' => ∃ B, e = .returned (.pointer (some ⟨B, 0, none⟩)) ∧ CurF w' 114 B w.heap.size l 0 0 ∧ Fr w w' ∧ w.heap.size ≤ B := by
 have hl : Ow (w.alloc (.cells #[] 5)) w.heap.size eB (.slice (some ⟨w.heap.size, 0, none⟩) 0 0) [] := own_lit eB w #[] [] 0 rfl (Nat.zero_le _) (Nat.le_refl _)
 have hfa : Fr w (w.alloc (.cells #[] 5)) := (Fr.refl w).alloc _
 have hs1 := hs.fr hfa
 obtain ⟨a0, cap, hv, _⟩ := hs.shape
 subst hv
 clear hs
 go_enter Tryz.func35, Tryz.ntmps35
 go_wp2_with (at_builtin; refine wpList_app eB rfl (.tmp 3) (.tmp 4) 22 rfl Tryz.underlying22 w.heap.size rfl hl _ _ rfl hs1 ?c1 hfa.size ?_)
 case c1 => simp; omega
 intro v5 w5 hap5
 have hf05 : Fr w w5 := hap5.below hl hfa (Nat.le_refl _) hfa.size
 have own5 : Ow w5 w.heap.size eB v5 l := by simpa using hap5.own
 obtain ⟨p5, z5, hq5⟩ := own5.shape'
 subst hq5
 clear hap5 hl hs1
 go_wp2_with fail
 go_ret
 exact ⟨w5.heap.size, rfl, ⟨⟨_, heap_new _ _ _ rfl, own5.fr ((Fr.refl w5).alloc _)⟩, Nat.zero_le _⟩, hf05.alloc _, hf05.size⟩
set_option maxRecDepth 512
set_option maxRecDepth 100000
theorem rest_any (B base n er : Nat) (l : List UInt8) (w : World) (hc : CurF w 142 B base l n er) :
  Calls Tryz.prog 164 #[.pointer (some ⟨B, 0, none⟩)] w fun e w' => ∃ a cap, e = .returned (.slice a (l.length - n) cap) ∧ See w' eB (.slice a (l.length - n) cap) (l.drop n) ∧ Fr w w' := by
 obtain ⟨⟨v, h1, ho⟩, hle⟩ := hc
 obtain ⟨a0, cap, hv⟩ := ho.shape'
 subst hv
 obtain ⟨f1, f2, hfr, hfs⟩ := run_from eB 22 Tryz.underlying22 ho.see n hle
 have c0 : w.cell? ⟨B, 0, none⟩ = some (.slice a0 l.length cap) := by rw [cell_of_heap h1]; rfl
 have c1 : w.cell? ⟨B, 1, none⟩ = some (N n) := by rw [cell_of_heap h1]; rfl
 have HS := hid hfs
 clear h1 ho hfs
 generalize l.length - n = m at *
 go_enter Tryz.func164, Tryz.ntmps164
 go_wp2_with fail
 go_quiet (fail)
 go_wp2_with fail
 go_ret
 exact ⟨_, _, rfl, HS.out.fr ((Fr.refl w).drewN _), (Fr.refl w).drewN _⟩
theorem CErr_any (B base n er : Nat) (l : List UInt8) (w : World) (hc : CurF w 142 B base l n er) :
  Calls Tryz.prog 163 #[.pointer (some ⟨B, 0, none⟩)] w fun e w' => e = .returned (.int .i64 (er : Int)) ∧ w = w' := by
 obtain ⟨⟨v, h1, ho⟩, hle⟩ := hc
 have c2 : w.cell? ⟨B, 2, none⟩ = some (.int .i64 (er : Int)) := by rw [cell_of_heap h1]; rfl
 clear h1 ho
 go_enter Tryz.func163, Tryz.ntmps163
 go_wp2_with fail
 go_ret
 exact ⟨rfl, rfl⟩
set_option maxRecDepth 512
set_option maxRecDepth 100000
theorem take1_no (Bn Bo k : Nat) (v : Value) (l : List UInt8) (w : World) (hn : w.heap[Bn]? = some (.cells #[N k] 3 (0, 0))) (hs : See w eB v l) (hk : l.length < k) :
  Calls Tryz.prog 136 #[v, .pointer (some ⟨Bn, 0, none⟩), .pointer (some ⟨Bo, 0, none⟩)] w fun e w' => e = .returned (.tuple #[.int .i64 0, .int .i64 1]) ∧ w = w' := by
 obtain ⟨a0, cap, hv, _⟩ := hs.shape
 subst hv
 have c0 : w.cell? ⟨Bn, 0, none⟩ = some (N k) := by rw [cell_of_heap hn]; rfl
 have h1 : ¬ (k : Int) < 0 := by omega
 have h2 : (l.length : Int) < k := by omega
 clear hs hn
 go_enter Tryz.func136, Tryz.ntmps136
 go_wp2_with fail
 go_ret2
 exact ⟨rfl, rfl⟩
theorem take1_yes (Bn Bo k : Nat) (v ov : Value) (l : List UInt8) (w : World) (hn : w.heap[Bn]? = some (.cells #[N k] 3 (0, 0))) (ho : w.heap[Bo]? = some (.cells #[ov] 22 (0, 0))) (hne : Bn ≠ Bo) (hs : See w eB v l) (hk : k ≤ l.length) (hl : l.length ≤ 1000000) :
  Calls Tryz.prog 136 #[v, .pointer (some ⟨Bn, 0, none⟩), .pointer (some ⟨Bo, 0, none⟩)] w fun e w' => e = .returned (.tuple #[N k, .int .i64 0]) ∧ ∃ u, w'.heap[Bo]? = some (.cells #[u] 22 (0, 0)) ∧ Ow w' w.heap.size eB u (l.take k) ∧ Chg (fun b => b = Bo) w w' := by
 obtain ⟨a0, cap, hv, _⟩ := hs.shape
 subst hv
 obtain ⟨htr, hts⟩ := run_to eB 22 Tryz.underlying22 hs k hk
 have c0 : w.cell? ⟨Bn, 0, none⟩ = some (N k) := by rw [cell_of_heap hn]; rfl
 have h1 : ¬ (k : Int) < 0 := by omega
 have h2 : ¬ (l.length : Int) < k := by omega
 have HC := hid (BClone_any _ (l.take k) w hts (by rw [List.length_take]; omega))
 have hBw : Bo < w.heap.size := (Array.getElem?_eq_some_iff.1 ho).1
 clear hs hts
 generalize l.take k = q at *
 go_enter Tryz.func136, Tryz.ntmps136
 go_wp2_with fail
 refine (HC.out).mono ?_
 rintro e w1 ⟨u, rfl, hu, hf⟩
 obtain ⟨p, z, hq⟩ := hu.shape'
 subst hq
 have ho1 := hf.heap ho
 have hn1 := hf.heap hn
 have d0 : w1.cell? ⟨Bo, 0, none⟩ = some ov := by rw [cell_of_heap ho1]; rfl
 have z0 := frozen_of_heap ho1 0
 have hst := setCell_chg w1 ⟨Bo, 0, none⟩ (.slice p q.length z)
 have ho2 := heap_setCell_own ho1 0 (.slice p q.length z)
 have hn2 := hst.heap hn1 hne
 have e0 : (w1.setCell ⟨Bo, 0, none⟩ (.slice p q.length z)).cell? ⟨Bn, 0, none⟩ = some (N k) := by rw [cell_of_heap hn2]; rfl
 have hu2 := hu.chg hst (fun i hi e => by have h8 := (hu.lt i hi).1; have e : i = Bo := e; omega)
 have hc2 : Chg (fun b => b = Bo) w (w1.setCell ⟨Bo, 0, none⟩ (.slice p q.length z)) := (hf.chg _).trans hst fun _ _ h => h
 clear hu hst hn1 ho1 HC c0
 go_wp2_with fail
 go_ret2
 exact ⟨rfl, _, ho2, hu2, hc2⟩
set_option maxRecDepth 512
set_option maxRecDepth 100000
theorem readT_yes (B base n k Bn Bo : Nat) (ov : Value) (l : List UInt8) (w : World) (hc : CurF w 142 B base l n 0) (hn : w.heap[Bn]? = some (.cells #[N k] 3 (0, 0))) (ho : w.heap[Bo]? = some (.cells #[ov] 22 (0, 0))) (hne : Bn ≠ Bo) (hk : n + k ≤ l.length) (hl : l.length ≤ 1000000) (hb : base ≤ w.heap.size) :
  Calls Tryz.prog 135 #[.pointer (some ⟨B, 0, none⟩), .func (.func 136) #[] #[.pointer (some ⟨Bn, 0, none⟩), .pointer (some ⟨Bo, 0, none⟩)]] w fun e w' => e = .returned (.bool true) ∧ ∃ u, w'.heap[Bo]? = some (.cells #[u] 22 (0, 0)) ∧ Ow w' w.heap.size eB u ((l.drop n).take k) ∧ CurF w' 142 B base l (n + k) 0 ∧ Chg (fun b => b = Bo ∨ b = B) w w' := by
 have HE := hid (CErr_any B base n 0 l w hc)
 have HR := hid (rest_any B base n 0 l w hc)
 have hdl : (l.drop n).length = l.length - n := List.length_drop ..
 have HT := hid (fun W v (hf : Fr w W) (hs : See W eB v (l.drop n)) => take1_yes Bn Bo k v ov (l.drop n) W (hf.heap hn) (hf.heap ho) hne hs (by omega) (by omega))
 obtain ⟨⟨v, h1, hO⟩, hle⟩ := hc
 have hBB : B ≠ Bo := fun e => by rw [e, ho] at h1; cases h1
 have hBw : B < w.heap.size := (Array.getElem?_eq_some_iff.1 h1).1
 have hBow : Bo < w.heap.size := (Array.getElem?_eq_some_iff.1 ho).1
 have hvB := hO.ne_cells h1 (by decide)
 have hvBo := hO.ne_cells ho (by decide)
 have hw1 : IntKind.i64.wrap ((n : Int) + k) = (n : Int) + k := IntWalk.i64_in _ (by omega)
 clear hn hdl
 generalize (l.drop n).take k = q at *
 generalize l.length - n = m at *
 go_enter Tryz.func135, Tryz.ntmps135
 go_wp2_with fail
 refine (HE.out).mono ?_
 rintro e w1 ⟨rfl, rfl⟩
 go_wp2_with fail
 refine (HR.out).mono ?_
 rintro e w2 ⟨a, cap, rfl, hs2, hf2⟩
 have HT2 := hid (HT.out w2 _ hf2 hs2)
 go_wp2_with fail
 refine (HT2.out).mono ?_
 rintro e w3 ⟨rfl, u, hu3, hO3, hc3⟩
 have h13 := hc3.heap (hf2.heap h1) hBB
 have hOv := (hO.fr hf2).chg hc3 (fun i hi e => hvBo (by rw [hi, show i = Bo from e]))
 have c1 : w3.cell? ⟨B, 1, none⟩ = some (N n) := by rw [cell_of_heap h13]; rfl
 have z1 := frozen_of_heap h13 1
 have hst := setCell_chg w3 ⟨B, 1, none⟩ (.int .i64 ((n : Int) + k))
 have h14 := heap_setCell_own h13 1 (.int .i64 ((n : Int) + k))
 have hu4 := hst.heap hu3 (fun e => hBB e.symm)
 have hO4 := hO3.chg hst (fun i hi e => (hO3.ne_cells h13 (by decide)) (by rw [hi, show i = B from e]))
 have hOv4 := hOv.chg hst (fun i hi e => hvB (by rw [hi, show i = B from e]))
 have hcc : Chg (fun b => b = Bo ∨ b = B) w (w3.setCell ⟨B, 1, none⟩ (.int .i64 ((n : Int) + k))) := ((hf2.chg _).trans (hc3.mono fun _ _ h => .inl h) fun _ _ h => h).trans hst fun _ _ h => .inr h
 clear HE HR HT HT2 hs2 hu3 hO3 h13 hOv hst
 go_wp2_with fail
 go_ret
 exact ⟨rfl, u, hu4, hO4.rebase hf2.size, ⟨⟨v, h14, hOv4⟩, hk⟩, hcc⟩
set_option maxRecDepth 512
set_option maxRecDepth 100000
theorem Take_yes (B base n k : Nat) (l : List UInt8) (w : World) (hc : CurF w 142 B base l n 0) (hk : n + k ≤ l.length) (hl : l.length ≤ 1000000) (hb : base ≤ w.heap.size) :
  Calls Tryz.prog 94 #[.pointer (some ⟨B, 0, none⟩), N k] w fun e w' => ∃ u, e = .returned u ∧ Ow w' w.heap.size eB u ((l.drop n).take k) ∧ CurF w' 142 B base l (n + k) 0 ∧ Chg (fun b => b = B) w w' := by
 have hmf : ∀ (fn : Fn) (first cap : Array Value) (w : World), (Instr.makeFunc fn first cap).run Tryz.prog w = .ok (.func fn first cap) w := fun _ _ _ _ => rfl
 have hBw : B < w.heap.size := by obtain ⟨⟨v, h1, _⟩, _⟩ := hc; exact (Array.getElem?_eq_some_iff.1 h1).1
 have g0 : ((w.alloc (.cells #[N k] 3)).alloc (.cells #[.slice none 0 0] 22)).heap[w.heap.size]? = some (.cells #[N k] 3 (0, 0)) := by
  rw [heap_old _ _ _ (by simp), heap_new _ _ _ rfl]
 have g1 : ((w.alloc (.cells #[N k] 3)).alloc (.cells #[.slice none 0 0] 22)).heap[w.heap.size + 1]? = some (.cells #[.slice none 0 0] 22 (0, 0)) := heap_new _ _ _ (by simp)
 have hf : Fr w ((w.alloc (.cells #[N k] 3)).alloc (.cells #[.slice none 0 0] 22)) := ((Fr.refl w).alloc _).alloc _
 have HR := hid (readT_yes B base n k w.heap.size (w.heap.size + 1) (.slice none 0 0) l _ (hc.fr hf) g0 g1 (by omega) hk hl (Nat.le_trans hb hf.size))
 have hsz : w.heap.size ≤ ((w.alloc (.cells #[N k] 3)).alloc (.cells #[.slice none 0 0] 22)).heap.size := hf.size
 clear g0 g1 hc
 generalize (l.drop n).take k = q at *
 go_enter Tryz.func94, Tryz.ntmps94
 go_wp2_with fail
 refine (HR.out).mono ?_
 rintro e w3 ⟨rfl, u, hu, hO, hC, hch⟩
 have c1 : w3.cell? ⟨w.heap.size + 1, 0, none⟩ = some u := by rw [cell_of_heap hu]; rfl
 have hfin : Chg (fun b => b = B) w w3 := (hf.chg _).trans (G' := fun b => b = w.heap.size + 1 ∨ b = B) hch fun i hi h => by
  rcases h with h | h
  · omega
  · exact h
 have hO2 := hO.rebase hsz
 obtain ⟨p, z, hq⟩ := hO.shape'
 subst hq
 clear HR hu hO hch
 go_wp2_with fail
 go_ret
 exact ⟨_, rfl, hO2, hC, hfin⟩
set_option maxRecDepth 512
set_option maxRecDepth 100000
theorem Byte_yes (B base n : Nat) (l : List UInt8) (w : World) (hc : CurF w 142 B base l n 0) (hk : n + 1 ≤ l.length) (hl : l.length ≤ 1000000) (hb : base ≤ w.heap.size) :
  Calls Tryz.prog 57 #[.pointer (some ⟨B, 0, none⟩)] w fun e w' => e = .returned (.int .u8 ((l.getD n 0).toNat : Int)) ∧ CurF w' 142 B base l (n + 1) 0 ∧ Chg (fun b => b = B) w w' := by
 have HT := hid (Take_yes B base n 1 l w hc hk hl hb)
 have hq : (l.drop n).take 1 = [l.getD n 0] := by
  rw [getD_at l n 0 (by omega), List.drop_eq_getElem_cons (by omega)]; rfl
 rw [hq] at HT
 clear hq hc
 generalize l.getD n 0 = x at *
 go_enter Tryz.func57, Tryz.ntmps57
 go_wp2_with fail
 refine (HT.out).mono ?_
 rintro e w1 ⟨u, rfl, hO, hC, hch⟩
 obtain ⟨b, off, cp, hv, c0⟩ := hO.see.cell1 Fk.u8 rfl 0 (by simp)
 subst hv
 have d0 : w1.cell? ⟨b, off, none⟩ = some (.int .u8 (x.toNat : Int)) := c0
 clear hO c0 HT
 go_wp2_with fail
 go_ret
 exact ⟨rfl, hC, hch⟩
set_option maxRecDepth 512
theorem or_u64n (a b : Nat) (ha : a < 18446744073709551616) (hb : b < 18446744073709551616) : bits .or .u64 (a : Int) (b : Int) = ((a ||| b : Nat) : Int) := by
 have hx : a ||| b < 2 ^ 64 := Nat.or_lt_two_pow (by omega) (by omega)
 show IntKind.u64.wrap ((BitVec.ofInt 64 (a : Int) ||| BitVec.ofInt 64 (b : Int)).toNat : Int) = _
 rw [BitVec.toNat_or, of_int 64 a (by omega), of_int 64 b (by omega)]
 exact IntWalk.u64_in _ (by omega)
set_option maxRecDepth 100000
theorem CFixed_yes (B base n k : Nat) (l : List UInt8) (w : World) (hc : CurF w 142 B base l n 0) (hk1 : 1 ≤ k) (hk8 : k ≤ 8) (hk : n + k ≤ l.length) (hl : l.length ≤ 1000000) (hb : base ≤ w.heap.size) :
    Calls Tryz.prog 58 #[.pointer (some ⟨B, 0, none⟩), N k] w fun e w' => e = .returned (.int .u64 (leN ((l.drop n).take k) : Int)) ∧ CurF w' 142 B base l (n + k) 0 ∧ Chg (fun b => b = B) w w' := by
  have HT := hid (Take_yes B base n k l w hc hk hl hb)
  have hql : ((l.drop n).take k).length = k := by rw [List.length_take, List.length_drop]; omega
  have HQl := hid hql
  have h1 : ¬ (k : Int) < 1 := by omega
  have h8 : ¬ (8 : Int) < k := by omega
  have HStep := hid (fun i h => leN_take ((l.drop n).take k) i h)
  have HAll : Hid (leN (((l.drop n).take k).take k) = leN ((l.drop n).take k)) := by show _ = _; rw [List.take_of_length_le (by omega)]
  have HZ : Hid (leN (((l.drop n).take k).take 0) = 0) := rfl
  have HLt : Hid (∀ i, i ≤ k → leN (((l.drop n).take k).take i) < 2 ^ (8 * i)) := fun i hi => by
    have := leN_lt (((l.drop n).take k).take i)
    rw [List.length_take, hql, Nat.min_eq_left hi, show (256 : Nat) = 2 ^ 8 from rfl, ← Nat.pow_mul] at this
    exact this
  clear hc hql
  generalize (l.drop n).take k = q at *
  go_enter Tryz.func58, Tryz.ntmps58
  go_wp2_with fail
  refine (HT.out).mono ?_
  rintro e w1 ⟨u, rfl, hO, hC, hch⟩
  obtain ⟨p, z, hq⟩ := hO.shape'
  rw [HQl.out] at hq
  subst hq
  have HO := hid hO.see
  clear hO HT
  go_wp2_with fail
  go_loop [5, 20] (fun xv iv => ∃ i : Nat, i ≤ k ∧ iv = N i ∧ xv = .int .u64 (leN (q.take i) : Int)) (fun _ iv => k - (intOf iv).toNat)
  case atStart => exact ⟨0, Nat.zero_le _, rfl, by rw [HZ.out]; rfl⟩
  case round =>
    obtain ⟨i, hi, rfl, rfl⟩ := hrel
    by_cases hlt : i < k
    · have hiq : i < q.length := by rw [HQl.out]; exact hlt
      obtain ⟨b, off, cp, hv, c0⟩ := HO.out.cell1 Fk.u8 rfl i hiq
      simp only [Value.slice.injEq] at hv
      obtain ⟨rfl, _, rfl⟩ := hv
      have d0 : w1.cell? ⟨b, off + i, none⟩ = some (.int .u8 (q[i].toNat : Int)) := c0
      clear c0
      have i1 : (i : Int) < k := by omega
      have i2 : (0 : Int) ≤ i := by omega
      have HSt := hid (HStep.out i hiq)
      have hlti := HLt.out i (by omega)
      have hlt2 := HLt.out (i + 1) (by omega)
      have hbl := q[i].toNat_lt
      generalize q[i].toNat = bb at *
      have hp : (2 : Nat) ^ (8 * i) ≤ 2 ^ 56 := Nat.pow_le_pow_right (by omega) (by omega)
      have hp9 : (2 : Nat) ^ 56 = 72057594037927936 := by decide
      have hbp : bb * 2 ^ (8 * i) ≤ 255 * 2 ^ 56 := Nat.mul_le_mul (by omega) hp
      have HB : Hid (bits .or .u64 ((leN (q.take i) : Nat) : Int) (IntKind.u64.wrap ((bb : Int) * 2 ^ (8 * i))) = ((leN (q.take (i + 1)) : Nat) : Int)) := by
        show _ = _
        rw [show (bb : Int) * 2 ^ (8 * i) = ((bb * 2 ^ (8 * i) : Nat) : Int) by simp, IntWalk.u64_in _ (by omega), or_u64n _ _ (by omega) (by omega), HSt.out]
      clear hp hp9 hbp hlti hlt2 HSt
      go_wp2_with fail
      go_round
      case rel => exact ⟨i + 1, by omega, by go_num, by rw [HB.out]⟩
      case measure => simp [intOf]; omega
    · obtain rfl : k = i := by omega
      have hnl : ¬ ((k : Int) < k) := by omega
      have HA := hid HAll.out
      rw [HAll.out]
      go_wp2_with fail
      go_ret
      exact ⟨rfl, hC, hch⟩
set_option maxRecDepth 512
set_option maxRecDepth 100000
theorem rmay_any (k m : Nat) (hk : 1 ≤ k) (hkm : k + m ≤ 255) (w : World) : Calls Tryz.prog 65 #[N k, N m] w fun e w' => e = .returned (.bool true) ∧ w = w' := by
 have h1 : (1 : Int) ≤ k := by omega
 have h2 : (0 : Int) ≤ m := by omega
 have h3 : (k : Int) ≤ 255 := by omega
 have h4 : (m : Int) ≤ 255 := by omega
 have h5 : (k : Int) + m ≤ 255 := by omega
 go_enter Tryz.func65, Tryz.ntmps65
 go_wp2_with fail
 go_ret
 exact ⟨rfl, rfl⟩
theorem RMay_any (k m : Nat) (hk : 1 ≤ k) (hkm : k + m ≤ 255) (w : World) : Calls Tryz.prog 106 #[N k, N m] w fun e w' => e = .returned (.bool true) ∧ w = w' := by
 have h1 : (1 : Int) ≤ k := by omega
 have h2 : (0 : Int) ≤ m := by omega
 have h3 : (k : Int) ≤ 255 := by omega
 have h4 : (m : Int) ≤ 255 - k := by omega
 go_enter Tryz.func106, Tryz.ntmps106
 go_wp2_with fail
 go_ret
 exact ⟨rfl, rfl⟩
set_option maxRecDepth 512
def AlikeL (L : Nat) (hs : List Hd) : Prop := ∀ i (h : i < hs.length), hs[i].n = L
theorem alike_of {w : World} {v : Value} {hs : List Hd} {ls : List (List UInt8)} {L : Nat} (hv : Sees2 w eHB eB v hs ls) (hl : ∀ p ∈ ls, p.length = L) : AlikeL L hs := by
 intro i h
 have h2 : i < ls.length := by rw [← hv.2.1]; exact h
 obtain ⟨a, cap, hh, _⟩ := (hv.2.2 i h h2).shape
 have e := hl _ (List.getElem_mem h2)
 generalize hs[i] = x at *
 obtain ⟨xa, xn, xc⟩ := x
 simp only [Hd.v, Value.slice.injEq] at hh
 rw [← e]
 exact hh.2.1
set_option maxRecDepth 100000
theorem alike_any (v : Value) (hs : List Hd) (L : Nat) (w : World) (hv : See w eHB v hs) (hl : AlikeL L hs) :
  Calls Tryz.prog 66 #[v] w fun e w' => e = .returned (.bool true) ∧ w = w' := by
 obtain ⟨a, cap, hva, hc1, hc2, hnn⟩ := hv.shape
 subst hva
 unfold maxLen at hc2
 go_enter Tryz.func66, Tryz.ntmps66
 go_wp2_with fail
 go_loop [7] (fun iv => ∃ i : Nat, i ≤ hs.length ∧ iv = N i) (fun iv => hs.length - (intOf iv).toNat)
 case atStart => exact ⟨0, Nat.zero_le _, rfl⟩
 case round =>
  obtain ⟨i, hi, rfl⟩ := hrel
  by_cases hlt : i < hs.length
  · obtain ⟨b, off, c, hv1, e1⟩ := hv.cell1 (fun (h : Hd) => h.v) rfl i hlt
    obtain ⟨b2, off2, c2, hv2, e2⟩ := hv.cell1 (fun (h : Hd) => h.v) rfl 0 (by omega)
    have g1 := hl i hlt
    have g2 := hl 0 (by omega)
    generalize hs[i] = x at *
    generalize hs[0]'(by omega) = y at *
    obtain ⟨xa, xn, xc⟩ := x
    obtain ⟨ya, yn, yc⟩ := y
    simp only at g1 g2
    subst g1 g2
    cases hv1
    simp only [Value.slice.injEq, Option.some.injEq, Addr.mk.injEq, and_true] at hv2
    obtain ⟨⟨rfl, rfl⟩, _, rfl⟩ := hv2
    simp only [Hd.v, Nat.add_zero] at e1 e2
    have i1 : (0 : Int) ≤ i := by omega
    have i2 : (i : Int) < hs.length := by omega
    have i3 : (0 : Int) < hs.length := by omega
    go_wp2_with fail
    go_round
    case rel => exact ⟨i + 1, by omega, by go_num⟩
    case measure => simp [intOf]; omega
  · obtain rfl : i = hs.length := by omega
    have hnl : ¬ ((hs.length : Int) < hs.length) := by omega
    go_wp2_with fail
    go_ret
    exact ⟨rfl, rfl⟩
theorem RAlike_any (v : Value) (hs : List Hd) (L : Nat) (w : World) (hp : 1 ≤ hs.length) (hv : See w eHB v hs) (hl : AlikeL L hs) :
  Calls Tryz.prog 107 #[v] w fun e w' => e = .returned (.bool true) ∧ Fr w w' := by
 obtain ⟨a, cap, hva, hc1, hc2, hnn⟩ := hv.shape
 subst hva
 unfold maxLen at hc2
 go_enter Tryz.func107, Tryz.ntmps107
 go_wp2_with fail
 go_loopw [3] (fun iv wr => ∃ i : Nat, 1 ≤ i ∧ i ≤ hs.length ∧ iv = N i ∧ Fr w wr) (fun iv _ => hs.length - (intOf iv).toNat)
 case atStart => exact ⟨1, Nat.le_refl _, hp, rfl, Fr.refl w⟩
 case round =>
  obtain ⟨i, hi1, hi, rfl, hf⟩ := hrel
  by_cases hlt : i < hs.length
  · obtain ⟨b, off, c, hv1, e1⟩ := (hv.fr hf).cell1 (fun (h : Hd) => h.v) rfl i hlt
    obtain ⟨b2, off2, c2, hv2, e2⟩ := (hv.fr hf).cell1 (fun (h : Hd) => h.v) rfl 0 (by omega)
    have g1 := hl i hlt
    have g2 := hl 0 (by omega)
    generalize hs[i] = x at *
    generalize hs[0]'(by omega) = y at *
    obtain ⟨xa, xn, xc⟩ := x
    obtain ⟨ya, yn, yc⟩ := y
    simp only at g1 g2
    subst g1 g2
    cases hv1
    simp only [Value.slice.injEq, Option.some.injEq, Addr.mk.injEq, and_true] at hv2
    obtain ⟨⟨rfl, rfl⟩, _, rfl⟩ := hv2
    simp only [Hd.v, Nat.add_zero] at e1 e2
    have i1 : (0 : Int) ≤ i := by omega
    have i2 : (i : Int) < hs.length := by omega
    have i3 : (0 : Int) < hs.length := by omega
    go_wp2_with fail
    go_quiet (fail)
    go_wp2_with fail
    go_roundw
    case rel => exact ⟨i + 1, by omega, by omega, by go_num, hf.drewN _⟩
    case measure => simp [intOf]; omega
  · obtain rfl : i = hs.length := by omega
    have hnl : ¬ ((hs.length : Int) < hs.length) := by omega
    go_wp2_with fail
    go_ret
    exact ⟨rfl, hf⟩
set_option maxRecDepth 512
theorem cells_hd (ps : List Hd) : eHB.cells ps = ps.map Hd.v := by
 induction ps with
 | nil => rfl
 | cons p ps ih =>
  show [p.v] ++ eHB.cells ps = _
  rw [ih]; rfl
theorem hd_of {w : World} {v : Value} {l : List UInt8} (h : See w eB v l) : ∃ p : Hd, v = p.v := by
 obtain ⟨a, cap, hv, _⟩ := h.shape
 exact ⟨⟨a, _, cap⟩, hv⟩
theorem lit_sees2 (w : World) (cs : Array Value) (T : TypeId) (ps : List Hd) (ls : List (List UInt8)) (n : Nat) (hn : n = ps.length) (hcs : cs.toList = ps.map Hd.v) (hl : ps.length = ls.length) (hm : ps.length ≤ 1000000) (h : ∀ i (h1 : i < ps.length) (h2 : i < ls.length), See w eB ps[i].v ls[i]) :
  Sees2 (w.alloc (.cells cs T)) eHB eB (.slice (some ⟨w.heap.size, 0, none⟩) n n) ps ls :=
 ⟨see_new eHB w ps cs T n hn (by rw [hcs, cells_hd]) (by unfold maxLen; omega), hl, fun i h1 h2 => (h i h1 h2).fr ((Fr.refl w).alloc _)⟩
theorem all2_any (va vb : Value) (la lb : List UInt8) (W : World) (ha : See W eB va la) (hb : See W eB vb lb) (hn : la.length + lb.length ≤ 1000000) :
  Calls Tryz.prog 33 #[.slice (some ⟨W.heap.size, 0, none⟩) 2 2] (W.alloc (.cells #[va, vb] 22)) fun e w' => ∃ v, e = .returned v ∧ Ow w' W.heap.size eB v (la ++ lb) ∧ Fr W w' := by
 obtain ⟨pa, rfl⟩ := hd_of ha
 obtain ⟨pb, rfl⟩ := hd_of hb
 have h2 := lit_sees2 W #[pa.v, pb.v] 22 [pa, pb] [la, lb] 2 rfl rfl rfl (by simp) (fun i h1 h2 => by
  match i, h1 with
  | 0, _ => exact ha
  | 1, _ => exact hb)
 refine (All_any _ _ _ _ h2 (by simp; omega)).mono ?_
 rintro e w' ⟨v, rfl, ho, hf⟩
 exact ⟨v, rfl, by simpa using ho.rebase (b := W.heap.size) (by simp), ((Fr.refl W).alloc _).trans hf⟩
theorem all3_any (va vb vc : Value) (la lb lc : List UInt8) (W : World) (ha : See W eB va la) (hb : See W eB vb lb) (hc : See W eB vc lc) (hn : la.length + lb.length + lc.length ≤ 1000000) :
  Calls Tryz.prog 33 #[.slice (some ⟨W.heap.size, 0, none⟩) 3 3] (W.alloc (.cells #[va, vb, vc] 22)) fun e w' => ∃ v, e = .returned v ∧ Ow w' W.heap.size eB v (la ++ lb ++ lc) ∧ Fr W w' := by
 obtain ⟨pa, rfl⟩ := hd_of ha
 obtain ⟨pb, rfl⟩ := hd_of hb
 obtain ⟨pc, rfl⟩ := hd_of hc
 have h2 := lit_sees2 W #[pa.v, pb.v, pc.v] 22 [pa, pb, pc] [la, lb, lc] 3 rfl rfl rfl (by simp) (fun i h1 h2 => by
  match i, h1 with
  | 0, _ => exact ha
  | 1, _ => exact hb
  | 2, _ => exact hc)
 refine (All_any _ _ _ _ h2 (by simp; omega)).mono ?_
 rintro e w' ⟨v, rfl, ho, hf⟩
 exact ⟨v, rfl, by simpa using ho.rebase (b := W.heap.size) (by simp), ((Fr.refl W).alloc _).trans hf⟩
end Go.Proofs.YtfhdgenlpmlajaaGreatDoor
