/- Parts of the proof of ThreePacks: P3. -/
import Derived.Test.YtmfbmjplmaimbaaGreatDoorM21
import Derived.Test.YtmfbmjplmaimbaaGreatDoorM22
set_option linter.unusedVariables false
set_option linter.unusedSectionVars false
set_option linter.unusedSimpArgs false
set_option maxHeartbeats 8000000
namespace Go.Proofs.YtmfbmjplmaimbaaGreatDoor
open Go.RowKit Go.Fk
def Rec.ts (r : Rec) : TS := ⟨r.text, r.source⟩
def idxL (L : List TS) : List (List Nat) := (idxT L).map (idsOf L)
abbrev ixB (tv lv : Value) : Obj := .cells #[tv, lv] 67 (0, 0)
set_option maxRecDepth 100000
theorem RBuild_any (v : Value) (l : List Rec) (w : World) (hs : See w eR v l) (hl : l.length ≤ 20000) (hb : ∀ r ∈ l, r.text.length ≤ 100000 ∧ r.source.length ≤ 100000) (hw : wtS (fun r : TS => r.text.length + r.source.length) (l.map Rec.ts) ≤ 1000000) :
  Calls Tryz.prog 46 #[v] w fun e w' => ∃ tv lv hs, e = .returned (.agg #[tv, lv]) ∧ See w' eS tv (idxT (l.map Rec.ts)) ∧ Sees2 w' eHJ eJ lv hs (idxL (l.map Rec.ts)) ∧ Fr w w' := by
 obtain ⟨a0, cap, hv, hcap1, hcap2, hnone⟩ := hs.shape
 subst hv
 unfold maxLen at hcap2
 have HRec := hid (fun W (h : Fr w W) k hk => recAt (hs.fr h) k hk)
 have HB := hid hb
 have HTe := hid (fun r W (h1 : r.text.length ≤ 1000000) (h2 : r.source.length ≤ 1000000) => RTerms_any r W h1 h2)
 have HPu := hid (fun v l s W hs hn => RPut15_any v l s W hs hn)
 have HLen : Hid (∀ L : List TS, wtS (fun r : TS => r.text.length + r.source.length) L ≤ 1000000 → (idxT L).length ≤ 1000000) := fun L h => Nat.le_trans (idxT_len L) h
 have HSn := hid (idxT_snoc (l.map Rec.ts))
 have hLl : (l.map Rec.ts).length = l.length := List.length_map _
 have HLl := hid hLl
 have HLa : Hid (∀ k (h : k < l.length) (h2 : k < (l.map Rec.ts).length), (l.map Rec.ts)[k] = l[k].ts) := fun k h h2 => by simp
 have HW : Hid (∀ k, wtS (fun r : TS => r.text.length + r.source.length) ((l.map Rec.ts).take k) ≤ 1000000) := fun k => Nat.le_trans (wtS_take_le _ _ k) hw
 clear hs hb hw hnone hLl
 generalize l.map Rec.ts = L at *
 go_enter Tryz.func46, Tryz.ntmps46
 go_upto_region 2 with fail
 have hsz0 : (w.alloc (.cells #[.slice none 0 0, .slice none 0 0] 67)).heap.size = w.heap.size + 1 := size_alloc _ _
 have hfa : Fr w (w.alloc (.cells #[.slice none 0 0, .slice none 0 0] 67)) := (Fr.refl w).alloc _
 have g0 := heap_new w (.cells #[.slice none 0 0, .slice none 0 0] 67) w.heap.size rfl
 generalize w.alloc (.cells #[.slice none 0 0, .slice none 0 0] 67) = A1 at *
 have hfb : Fr A1 (A1.alloc (.cells #[.slice none 0 0, .slice none 0 0] 67)) := (Fr.refl A1).alloc _
 have g1 := heap_new A1 (.cells #[.slice none 0 0, .slice none 0 0] 67) (w.heap.size + 1) hsz0.symm
 generalize A1.alloc (.cells #[.slice none 0 0, .slice none 0 0] 67) = A2 at *
 have g0' := hfb.heap g0
 have hf2 : Fr w A2 := hfa.trans hfb
 have hRw : w.heap.size ≤ w.heap.size := Nat.le_refl _
 obtain ⟨R, hR⟩ : ∃ R, R = w.heap.size := ⟨_, rfl⟩
 rw [← hR] at g0' g1
 have HRs := hid hR
 rw [← hR]
 clear hfa hfb g0 hsz0 hRw hR
 go_wp2_with fail
 go_loopw [4] (fun iv wr => ∃ (i : Nat) (tv : Value), i ≤ l.length ∧ iv = N i ∧ wr.heap[R + 1]? = some (ixB tv (.slice none 0 0)) ∧ wr.heap[R]? = some (ixB (.slice none 0 0) (.slice none 0 0)) ∧ Ow wr (R + 1 + 1) eS tv (idxT (L.take i)) ∧ Fr w wr) (fun iv _ => l.length - (intOf iv).toNat)
 case atStart => exact ⟨0, _, Nat.zero_le _, rfl, g1, g0', Ow.nil, hf2⟩
 case round =>
  clear g0' g1 hf2
  obtain ⟨i, tv, hi, rfl, hX, hX0, hO, hf⟩ := hrel
  by_cases hlt : i < l.length
  · obtain ⟨b, off, cap', hv, c0, c1, c2, c3⟩ := HRec.out wr hf i hlt
    cases hv
    have hbk := HB.out _ (List.getElem_mem hlt)
    have HS1 := hid (HSn.out i (by rw [HLl.out]; exact hlt))
    have e1 := HLa.out i hlt (by rw [HLl.out]; exact hlt)
    rw [e1] at HS1
    have hil := HLen.out _ (HW.out i)
    have hil2 := HLen.out _ (HW.out (i + 1))
    have HT1 := hid (HTe.out l[i] (wr.alloc (.cells #[.int .u64 l[i].time.toNat, Fk.u8 l[i].level, S l[i].source, S l[i].text] 40)) (by omega) (by omega))
    have HT2 := hid (HTe.out l[i] wr (by omega) (by omega))
    clear e1
    generalize hm2 : idxT (L.take (i + 1)) = m2 at *
    have HM2 := hid hm2
    clear hm2
    generalize idxT (L.take i) = m at *
    have HTs : Hid (termsL l[i].text l[i].source = l[i].ts.terms) := rfl
    have hTl : (l[i].ts.terms).length ≤ 200000 := by have := terms_len l[i].ts; have h1 : l[i].ts.text.length = l[i].text.length := rfl; have h2 : l[i].ts.source.length = l[i].source.length := rfl; omega
    rw [HTs.out] at HT1 HT2
    generalize l[i].ts.terms = tm at *
    generalize l[i] = r at *
    have i1 : (0 : Int) ≤ i := by omega
    have i2 : (i : Int) < l.length := by omega
    have hszr : R + 1 + 1 ≤ wr.heap.size := (Array.getElem?_eq_some_iff.1 hX).1
    clear HTs hbk
    go_wp2_with fail
    refine HT2.out.mono ?_
    rintro e w3 ⟨tmv, rfl, hTm, hf3⟩
    obtain ⟨ta, tc, htv⟩ := hTm.shape'
    subst htv
    have hTm' := hTm.rebase hszr
    have hX3 := hf3.heap hX
    have hX03 := hf3.heap hX0
    have hO3 := hO.fr hf3
    have hf03 := hf.trans hf3
    clear hTm hX hX0 hO hf HT1 HT2
    go_wp2_with fail
    go_loopw [6] (fun kv wq => ∃ (k : Nat) (tv : Value), k ≤ tm.length ∧ kv = N k ∧ wq.heap[R + 1]? = some (ixB tv (.slice none 0 0)) ∧ wq.heap[R]? = some (ixB (.slice none 0 0) (.slice none 0 0)) ∧ Ow wq (R + 1 + 1) eS tv (putsS m (tm.take k)) ∧ Ow wq (R + 1 + 1) eS (.slice ta tm.length tc) tm ∧ Fr w wq) (fun kv _ => tm.length - (intOf kv).toNat)
    case atStart => exact ⟨0, tv, Nat.zero_le _, rfl, hX3, hX03, by simpa [putsS] using hO3, hTm', hf03⟩
    case round =>
     clear hX3 hX03 hO3 hTm' hf03
     obtain ⟨k, tv2, hk, rfl, hX, hX0, hO, hTm, hf⟩ := hrel
     have hpl := putsS_len (tm.take k) m
     rw [List.length_take] at hpl
     by_cases hlt2 : k < tm.length
     · obtain ⟨b2, off2, cap2, hv2, d0⟩ := strAt hTm.see k hlt2
       cases hv2
       have HN : Hid (putS (putsS m (tm.take k)) tm[k] = putsS m (tm.take (k + 1))) := by show _ = _; rw [List.take_succ_eq_append_getElem hlt2]; unfold putsS; rw [List.foldl_append]; rfl
       generalize hq2 : putsS m (tm.take (k + 1)) = q2 at *
       have HQ2 := hid hq2
       clear hq2
       generalize putsS m (tm.take k) = q at *
       generalize tm[k] = x at *
       obtain ⟨oa, oc, hov⟩ := hO.shape'
       subst hov
       have x0 : wr.cell? ⟨R + 1, 0, none⟩ = some (.slice oa q.length oc) := by rw [cell_of_heap hX]; rfl
       have k1 : (0 : Int) ≤ k := by omega
       have k2 : (k : Int) < tm.length := by omega
       have hd : Fr wr wr.drew := (Fr.refl wr).drew
       have HP1 := hid (HPu.out _ q x wr.drew (hO.fr hd).see (by omega))
       go_upto_region 9 with fail
       go_still_tail 6, (by kernel_rfl)
       change wpList _ _ _ _ _ wr.drew
       have hXd := hd.heap hX
       have hX0d := hd.heap hX0
       have hOd := hO.fr hd
       have hTmd := hTm.fr hd
       have hfd := hf.trans hd
       generalize wr.drew = wd at *
       clear hX hX0 hO hTm hf hd x0
       go_wp2_with fail
       refine HP1.out.mono ?_
       rintro e w5 ⟨v5, rfl, hv5, hf5⟩
       have hszd : R + 1 + 1 ≤ wd.heap.size := (Array.getElem?_eq_some_iff.1 hXd).1
       have hO5 : Ow w5 (R + 1 + 1) eS v5 (putS q x) := by
        rcases hv5 with ⟨rfl, he⟩ | h
        · rw [he]; exact hOd.fr hf5
        · exact h.rebase hszd
       rw [HN.out] at hO5
       have hX5 := hf5.heap hXd
       have hX05 := hf5.heap hX0d
       have hTm5 := hTmd.fr hf5
       have e5 : w5.cell? ⟨R + 1, 0, none⟩ = some (.slice oa q.length oc) := by rw [cell_of_heap hX5]; rfl
       have f5 : w5.frozen? ⟨R + 1, 0, none⟩ = false := frozen_of_heap hX5 0
       have HX5 := hid hX5
       have HX05 := hid hX05
       obtain ⟨va, vc, hvv⟩ := hO5.shape'
       subst hvv
       clear hv5 hOd hXd hX0d hTmd HP1 hX5 hX05
       go_wp2_with fail
       go_roundw
       case rel =>
        have hst := setCell_chg w5 ⟨R + 1, 0, none⟩ (.slice va q2.length vc)
        refine ⟨k + 1, _, by omega, by go_num, by have := heap_setCell_own HX5.out 0 (.slice va q2.length vc); simpa using this, hst.heap HX05.out (by simp), by rw [HQ2.out]; exact own_set_other hO5 (by omega), own_set_other hTm5 (by omega), ?_⟩
        exact set_below (hfd.trans hf5) (by have := HRs.out; omega) (hfd.trans hf5).size
       case measure => simp [intOf]; omega
     · obtain rfl : k = tm.length := by omega
       have hnl : ¬ (tm.length : Int) < tm.length := by omega
       rw [List.take_length] at hO
       have hME : m2 = putsS m tm := HS1.out
       rw [← hME] at hO
       clear hME
       go_wp2_with fail
       go_roundw
       case rel => exact ⟨i + 1, tv2, by omega, by go_num, hX, hX0, by rw [HM2.out]; exact hO, hf⟩
       case measure => simp [intOf]; omega
  · obtain rfl : i = l.length := by omega
    have hnl : ¬ (l.length : Int) < l.length := by omega
    have hTL : L.take l.length = L := by rw [← HLl.out, List.take_length]
    rw [hTL] at hO
    have hTl := HLen.out L (by have := HW.out l.length; rw [hTL] at this; exact this)
    have HLi : Hid (idxL L = (idxT L).map (idsOf L)) := rfl
    have HIm := hid (fun t i h => ids_mem L t i h)
    have HIs := hid (fun t k h => ids_snoc L t k h)
    have HIl : Hid (∀ t, idsOf (L.take l.length) t = idsOf L t) := fun t => by rw [hTL]
    clear hTL HSn HPu HLen HW
    generalize hT : idxT L = T at *
    have HTd := hid hT
    clear hT
    obtain ⟨pa, pc, hpv⟩ := hO.shape'
    subst hpv
    have HNo := hid (Ow.nil : Ow wr (R + 1 + 1) eHJ (.slice none 0 0) ([] : List Hd))
    go_wp2_with fail
    go_loopw [7] (fun kv wq => ∃ (k : Nat) (lv : Value) (hs : List Hd), k ≤ T.length ∧ kv = N k ∧ wq.heap[R + 1]? = some (ixB (.slice pa T.length pc) lv) ∧ wq.heap[R]? = some (ixB (.slice none 0 0) (.slice none 0 0)) ∧ Ow wq (R + 1 + 1) eS (.slice pa T.length pc) T ∧ Ow wq (R + 1 + 1) eHJ lv hs ∧ Owns wq (R + 1 + 1) eJ hs ((T.take k).map (idsOf L)) ∧ Fr w wq) (fun kv _ => T.length - (intOf kv).toNat)
    case atStart => exact ⟨0, _, [], Nat.zero_le _, rfl, hX, hX0, hO, Ow.nil, ⟨rfl, fun t a => by simp at a⟩, hf⟩
    case round =>
     clear hX hX0 hO hf HNo
     obtain ⟨k, lv, hs, hk, rfl, hX, hX0, hO, hLv, hRw, hf⟩ := hrel
     have x0 : wr.cell? ⟨R + 1, 0, none⟩ = some (.slice pa T.length pc) := by rw [cell_of_heap hX]; rfl
     by_cases hlt2 : k < T.length
     · have HN : Hid ((T.take (k + 1)).map (idsOf L) = (T.take k).map (idsOf L) ++ [idsOf L T[k]]) := by show _ = _; rw [List.take_succ_eq_append_getElem hlt2, List.map_append]; rfl
       have hszr : R + 1 + 1 ≤ wr.heap.size := (Array.getElem?_eq_some_iff.1 hX).1
       have HO := hid (fun W (h : Fr wr W) => strAt (hO.fr h).see k hlt2)
       have HX := hid (fun W (h : Fr wr W) => h.heap hX)
       have HX0 := hid (fun W (h : Fr wr W) => h.heap hX0)
       have HOo := hid hO
       have HLv := hid hLv
       have HRw := hid hRw
       have HFw := hid hf
       have hrl : hs.length = k := by have := hRw.1; rw [List.length_map, List.length_take] at this; omega
       have HRl := hid hrl
       clear hrl hO hLv hRw hX hX0 hf
       generalize T[k] = x at *
       have k1 : (0 : Int) ≤ k := by omega
       have k2 : (k : Int) < T.length := by omega
       obtain ⟨la, lc, hlv⟩ := HLv.out.shape'
       subst hlv
       obtain ⟨wo, rfl⟩ : ∃ wo : World, wo = wr := ⟨_, rfl⟩
       go_wp2_with fail
       clear x0
       go_loopw [8, 9] (fun dv jv wq => ∃ j : Nat, j ≤ l.length ∧ jv = N j ∧ Ow wq wo.heap.size eJ dv (idsOf (L.take j) x) ∧ Fr wo wq) (fun _ jv _ => l.length - (intOf jv).toNat)
       case atStart => exact ⟨0, Nat.zero_le _, rfl, by simpa [idsOf] using Ow.nil, Fr.refl _⟩
       case round =>
        obtain ⟨j, hj, rfl, hD, hfq⟩ := hrel
        have hfwq := HFw.out.trans hfq
        have hdl : (idsOf (L.take j) x).length ≤ 20000 := by
         have : (idsOf (L.take j) x).length ≤ (L.take j).length := by
          unfold idsOf; exact Nat.le_trans (List.length_filter_le _ _) (by rw [List.length_range]; exact Nat.le_refl _)
         rw [List.length_take] at this; omega
        by_cases hlt3 : j < l.length
        · obtain ⟨b, off, cap', hv, c0, c1, c2, c3⟩ := HRec.out wr hfwq j hlt3
          cases hv
          have hbk := HB.out _ (List.getElem_mem hlt3)
          have HT1 := hid (fun W => HTe.out l[j] W (by omega) (by omega))
          have HTs : Hid (termsL l[j].text l[j].source = l[j].ts.terms) := rfl
          rw [HTs.out] at HT1
          have hjL : j < L.length := by rw [HLl.out]; exact hlt3
          have HSn2 := hid (HIs.out x j hjL)
          rw [HLa.out j hlt3 hjL] at HSn2
          clear HTs hbk
          generalize l[j].ts.terms = tm at *
          generalize l[j] = r at *
          have HHas := hid (fun W v (h : See W eS v tm) => rHas_any v tm x W h)
          obtain ⟨bb, hbb⟩ : ∃ bb, bb = decide (x ∈ tm) := ⟨_, rfl⟩
          rw [← hbb] at HHas
          have HBb := hid hbb
          clear hbb
          have x0 : wr.cell? ⟨R + 1, 0, none⟩ = some (.slice pa T.length pc) := by rw [cell_of_heap (HX.out wr hfq)]; rfl
          obtain ⟨bt, offt, capt, hvt, d0⟩ := HO.out wr hfq
          cases hvt
          obtain ⟨da, dc, hdv⟩ := hD.shape'
          generalize hDl : idsOf (L.take j) x = dl at *
          have HDl := hid hDl
          clear hDl
          subst hdv
          have i1 : (0 : Int) ≤ j := by omega
          have i2 : (j : Int) < l.length := by omega
          go_upto_region 17 with fail
          go_region_held3 (fun w' => w'.cell? ⟨R + 1, 0, none⟩ = some (.slice (some ⟨bt, offt, none⟩) T.length pc) ∧ w'.cell? ⟨bt, offt + k, none⟩ = some (S x) ∧ w'.cell? ⟨b, off + j * 4, none⟩ = some (.int .u64 r.time.toNat) ∧ w'.cell? ⟨b, off + j * 4 + 1, none⟩ = some (Fk.u8 r.level) ∧ w'.cell? ⟨b, off + j * 4 + 2, none⟩ = some (S r.source) ∧ w'.cell? ⟨b, off + j * 4 + 3, none⟩ = some (S r.text))
           (first | go_keep)
           ((first
            | (go_at_call 85; refine (HT1.out _).mono ?_; rintro e w1 ⟨tmv, rfl, hTm, hf1⟩; obtain ⟨ta, tc, htv⟩ := hTm.shape'; subst htv; have y0 := hf1.cell x0; have y1 := hf1.cell d0; have y2 := hf1.cell c0; have y3 := hf1.cell c1; have y4 := hf1.cell c2; have y5 := hf1.cell c3)
            | (go_at_call 87; refine (HHas.out _ _ hTm.see).mono ?_; rintro e w2 ⟨rfl, rfl⟩)))
          have hfq1 : Fr wo w1 := hfq.trans ((Fr.refl wr).drew.trans hf1)
          have hD1 := hD.fr ((Fr.refl wr).drew.trans hf1)
          clear x0 d0 c0 c1 c2 c3 y0 y1 y2 y3 y4 y5 hTm hD HHas HT1 hfwq hfq hf1
          cases bb with
          | false =>
           have HN2 : Hid (idsOf (L.take (j + 1)) x = dl) := by
            show _ = _
            have h : ¬ x ∈ tm := by have := HBb.out; simpa using this
            rw [HSn2.out, if_neg h, List.append_nil]
           go_wp2_with fail
           go_roundw
           case rel => exact ⟨j + 1, by omega, by go_num, by rw [HN2.out]; exact hD1, hfq1⟩
           case measure => simp [intOf]; omega
          | true =>
           have HN2 : Hid (idsOf (L.take (j + 1)) x = dl ++ [j]) := by
            show _ = _
            have h : x ∈ tm := by have := HBb.out; simpa using this
            rw [HSn2.out, if_pos h]
           go_wp2_with (at_builtin; refine wpList_app1 eJ rfl (.tmp 60) (.tmp 62) 54 rfl Tryz.underlying54 wo.heap.size rfl hD1 [j] _ _ _ rfl rfl rfl ?c1 hfq1.size ?_)
           case c1 => first | omega | (simp; omega)
           intro v4 w4 hap
           go_wp2_with fail
           go_roundw
           case rel => exact ⟨j + 1, by omega, by go_num, by rw [HN2.out]; exact hap.own, hap.below hD1 hfq1 (Nat.le_refl _) hfq1.size⟩
           case measure => simp [intOf]; omega
        · obtain rfl : j = l.length := by omega
          have hnl2 : ¬ (l.length : Int) < l.length := by omega
          rw [HIl.out] at hD
          have hX := HX.out wr hfq
          have hX0 := HX0.out wr hfq
          have x1 : wr.cell? ⟨R + 1, 1, none⟩ = some (.slice la hs.length lc) := by rw [cell_of_heap hX]; rfl
          have hLv := HLv.out.fr hfq
          have hRw := HRw.out.fr hfq
          have hO2 := HOo.out.fr hfq
          clear hdl
          generalize hDl : idsOf L x = dl at *
          have HDl := hid hDl
          clear hDl
          obtain ⟨da, dc, hdv⟩ := hD.shape'
          subst hdv
          have hD' := hD.rebase hszr
          have hapD : (Value.slice da dl.length dc).ownBlock = none ∨ (Value.slice da dl.length dc).ownBlock ≠ (Value.slice la hs.length lc).ownBlock := apart_of HLv.out hD (Nat.le_refl _)
          go_wp2_with (at_builtin; refine wpList_app1 eHJ rfl (.tmp 65) (.tmp 67) 65 rfl Tryz.underlying65 (R + 1 + 1) rfl hLv [⟨da, dl.length, dc⟩] _ _ _ rfl rfl rfl ?c1 (Nat.le_trans hszr hfq.size) ?_)
          case c1 => first | omega | (have := HRl.out; first | omega | (simp; omega))
          intro v4 w4 hap
          have hne := hLv.ne_cells hX (by decide)
          have hne0 := hLv.ne_cells hX0 (by decide)
          have HX4 := hid (hap.chg'.heap hX hne)
          have HX04 := hid (hap.chg'.heap hX0 hne0)
          have hfwr := HFw.out.trans hfq
          have hf4 : Fr w w4 := hap.below hLv hfwr (by have := HRs.out; omega) hfwr.size
          have hO4 := own_app hO2 hLv hap (by decide)
          have hD4 := own_app hD' hLv hap (by decide)
          have hR4 : ∀ t (h1 : t < hs.length) (h2 : t < ((T.take k).map (idsOf L)).length), Ow w4 (R + 1 + 1) eJ hs[t].v ((T.take k).map (idsOf L))[t] := fun t h1 h2 => own_app (hRw.2 t h1 h2) hLv hap (by decide)
          have hL4 := hap.own
          have HR4 := hid hR4
          have HRn := hid hRw.1
          obtain ⟨va4, vc4, hv4⟩ := hL4.shape'
          subst hv4
          have e4 : w4.cell? ⟨R + 1, 1, none⟩ = some (.slice la hs.length lc) := by rw [cell_of_heap HX4.out]; rfl
          have f4 : w4.frozen? ⟨R + 1, 1, none⟩ = false := frozen_of_heap HX4.out 1
          clear hX hX0 x1 hLv hRw hO2 hD hD' hap hR4 hne hne0
          go_wp2_with fail
          go_roundw
          case rel =>
           have hst := setCell_chg w4 ⟨R + 1, 1, none⟩ (.slice va4 (hs.length + 1) vc4)
           simp only [List.length_append, List.length_singleton] at hL4
           refine ⟨k + 1, _, hs ++ [(⟨da, dl.length, dc⟩ : Hd)], by omega, by go_num, by have := heap_setCell_own HX4.out 1 (.slice va4 (hs.length + 1) vc4); simpa using this, hst.heap HX04.out (by simp), own_set_other hO4 (by omega), own_set_other hL4 (by omega), ?_, set_below hf4 (by have := HRs.out; omega) hf4.size⟩
           rw [HN.out]
           refine ⟨by rw [List.length_append, List.length_append, HRn.out]; rfl, fun t a b => ?_⟩
           by_cases ht : t < hs.length
           · have ht2 : t < ((T.take k).map (idsOf L)).length := by rw [← HRn.out]; exact ht
             rw [List.getElem_append_left ht, List.getElem_append_left ht2]
             exact own_set_other (HR4.out t ht ht2) (by omega)
           · have e1 : t = hs.length := by rw [List.length_append, List.length_singleton] at a; omega
             subst e1
             rw [List.getElem_append_right (Nat.le_refl _)]
             have e2 : hs.length = ((T.take k).map (idsOf L)).length := HRn.out
             rw [List.getElem_append_right (by rw [← e2]; exact Nat.le_refl _)]
             simp only [Nat.sub_self, e2, List.getElem_cons_zero]
             exact own_set_other hD4 (by omega)
          case measure => simp [intOf]; omega
     · obtain rfl : k = T.length := by omega
       have hnl2 : ¬ (T.length : Int) < T.length := by omega
       rw [List.take_length] at hRw
       have hLi : (T.map (idsOf L)) = idxL L := HLi.out.symm
       rw [hLi] at hRw
       clear hLi
       obtain ⟨la, lc, hlv⟩ := hLv.shape'
       subst hlv
       have hinf : (Tryz.prog.info? 67).map (·.size) = some 2 := by kernel_rfl
       have hone : (#[Value.slice pa T.length pc, Value.slice la hs.length lc] : Array Value).all (·.oneCell') = true := by simp [Value.oneCell']
       go_wp2_with (first | (refine wpList_load_row rfl 67 (.tmp 3) rfl (R + 1) rfl 67 #[.slice pa T.length pc, .slice la hs.length lc] (0, 0) _ hX Tryz.underlying67 rfl hinf ?_) | (refine wpList_store_row rfl 67 (.tmp 2) (.tmp 70) rfl R #[.slice pa T.length pc, .slice la hs.length lc] rfl rfl 67 _ hX0 hinf rfl hone ?_))
       have hst := setRow_chg wr R #[.slice pa T.length pc, .slice la hs.length lc]
       have hfin : Fr w (wr.setRow R #[.slice pa T.length pc, .slice la hs.length lc]) := Chg.below hf hst hf.size (fun k hk => by have := HRs.out; omega)
       have hkp : ∀ {α : Type} {E : Elt Tryz.prog α} {v : Value} {q : List α}, Ow wr (R + 1 + 1) E v q → Ow (wr.setRow R #[.slice pa T.length pc, .slice la hs.length lc]) (R + 1 + 1) E v q := fun h => h.chg hst (fun k hk e => by have := (h.lt k hk).1; omega)
       have HFin := hid hfin
       have HR1 := hid (hkp hO)
       have HR2 := hid (hkp hLv)
       have HR3 : Hid (Owns (wr.setRow R #[.slice pa T.length pc, .slice la hs.length lc]) (R + 1 + 1) eJ hs (idxL L)) := ⟨hRw.1, fun t a b => hkp (hRw.2 t a b)⟩
       exact bodyPost_ret (v := .agg #[.slice pa T.length pc, .slice la hs.length lc]) (results_cell_row Tryz.results46 _ _ R 67 #[.slice pa T.length pc, .slice la hs.length lc] (0, 0) _ rfl (setRow_heap _ R _ #[.slice pa T.length pc, .slice la hs.length lc] _ _ hX0) Tryz.underlying67 rfl hinf) rfl
        ⟨_, _, rfl, by rw [HTd.out]; exact HR1.out.see, ⟨hs, HR3.out.sees2 HR2.out.see⟩, HFin.out⟩
set_option maxRecDepth 512
end Go.Proofs.YtmfbmjplmaimbaaGreatDoor
