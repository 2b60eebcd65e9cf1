/- Parts of the proof of ThreeMends: R6. -/
import Derived.Test.YtfhdgenlpmlajaaGreatDoorM39
import Derived.Test.YtfhdgenlpmlajaaGreatDoorM34
import Derived.Test.YtfhdgenlpmlajaaGreatDoorM17
import Derived.Test.YtfhdgenlpmlajaaGreatDoorM37
import Derived.Test.YtfhdgenlpmlajaaGreatDoorM26
set_option linter.unusedVariables false
set_option linter.unusedSectionVars false
set_option linter.unusedSimpArgs false
set_option maxHeartbeats 8000000
namespace Go.Proofs.YtfhdgenlpmlajaaGreatDoor
open Go.RowKit Go.Fk
set_option maxRecDepth 100000
theorem RMend_ok (k m c : Nat) (pv gv : Value) (hs : List Hd) (ps : List (List UInt8)) (good : List Bool) (w : World) (hk : 1 ≤ k) (hkm : k + m ≤ 255) (hc6 : c ≤ 4096) (hp : Sees2 w eHB eB pv hs ps) (hg : See w eO gv good) (hpl : hs.length = k + m) (hgl : good.length = k + m)
    (hc : ∀ r (h : r < ps.length), good.getD r false = true → ps[r].length = c) (hyes : k ≤ (goodsL good).length) :
    Calls Tryz.prog 75 #[N k, N m, pv, gv] w fun e w' => ∃ v, e = .returned (.tuple #[v, .int .i64 0]) ∧ ∃ xs, Ow w' w.heap.size eHB v xs ∧ Owns w' w.heap.size eB xs (nowL k m c ((goodsL good).take k) (atL ((goodsL good).take k) ps)) ∧ Fr w w' := by
  have hps := hp.2.1
  have hGl := goods_len good
  have htk : (goodsL good).take (k + m) = goodsL good := List.take_of_length_le (by omega)
  have HM := hid (RMay_any k m hk hkm)
  have HL := hid (headsAt_len (goodsL good) hs)
  have hGp : 1 ≤ (headsAt (goodsL good) hs).length := by rw [headsAt_len]; omega
  have HA := hid (fun W lv (hl : See W eHB lv (headsAt (goodsL good) hs)) (hf : Fr w W) => RAlike_any lv (headsAt (goodsL good) hs) c W hGp hl (alike_of (sees_at hp hl hf (fun r hr => by have := (goods_mem good r hr).1; omega)) (atL_all good ps c _ (fun r h => h) hc (by omega))))
  have hRise := goods_rise good k
  rw [hgl] at hRise
  have hatl : ((goodsL good).take k).length = k := by rw [List.length_take]; omega
  have hHtk : (headsAt (goodsL good) hs).take k = headsAt ((goodsL good).take k) hs := by unfold headsAt; rw [List.map_take]
  have HSA := hid (fun W lv (hl : See W eHB lv (headsAt ((goodsL good).take k) hs)) (hf : Fr w W) => sees_at hp hl hf (fun r hr => by have := (goods_mem good r (List.mem_of_mem_take hr)).1; omega))
  have hall := atL_all good ps c ((goodsL good).take k) (fun r h => List.mem_of_mem_take h) hc (by omega)
  have hallen : (atL ((goodsL good).take k) ps).length = k := by rw [atL_len, hatl]
  obtain ⟨pa, pcap, hpv, _, _, _⟩ := hp.1.shape
  obtain ⟨ga, gcap, hgv, _, _, _⟩ := hg.shape
  obtain ⟨n, hn⟩ : ∃ n, n = k + m := ⟨_, rfl⟩
  have HEnd : Hid (goodsTo good n n = goodsL good) := by show _ = _; rw [show goodsTo good n n = (goodsL good).take (k + m) from by rw [hn, ← hgl]; rfl]; exact htk
  have HZ : Hid (goodsTo good n 0 = []) := by show _ = _; simp [goodsTo]
  have HZ2 : Hid (headsAt [] hs = []) := rfl
  have HY := hid (goodsTo_yes good n)
  have HNo := hid (goodsTo_no good n)
  have HSn := hid (fun ats i h => headsAt_snoc ats hs i h)
  have HLe := hid (goodsTo_le good n)
  have HLenH := hid (fun A => headsAt_len A hs)
  rw [hpl, ← hn] at hpv
  rw [hgl, ← hn] at hgv
  subst hpv hgv
  have hpn : hs.length = n := by rw [hpl, hn]
  have hgn : good.length = n := by rw [hgl, hn]
  have HPn := hid hpn
  have HGn := hid hgn
  have hle : k ≤ (goodsL good).length := hyes
  have hw : IntKind.i64.wrap ((k : Int) + m) = (n : Int) := by rw [show (k : Int) + m = (n : Int) by omega]; exact wrap_i64 _ (by omega)
  have hp1 := hp.1
  have hnl : ¬ ((goodsL good).length : Int) < k := by omega
  have hGn2 : (goodsL good).length ≤ 255 := by omega
  have hDall := data_all k m c ((goodsL good).take k) (atL ((goodsL good).take k) ps) hallen hall
  have hDlen := data_len k m c ((goodsL good).take k) (atL ((goodsL good).take k) ps)
  have HI := hid (RIdentity_any k hk (by omega))
  have HC := hid (RCauchy_any k m hk hkm)
  have hl1 : Hid ((idL k).length = k * k) := preL_len _ _ _
  have hl2 : Hid ((cauPre k m 0).length = m * k) := by show _ = _; rw [cauPre_len]; omega
  have HWh := hid (whole_app k m hk hkm)
  have HStk := hid (fun b c1 c2 a1 a2 W hb h1 h2 => RStack_any k m b c1 c2 a1 a2 (idL k) (cauPre k m 0) W hb h1 h2 hl1.out hl2.out hk hkm)
  rw [HWh.out, ← hn] at HStk
  have HPk := hid (fun W mv rv (ho : See W eB mv (wholeL k m)) (hr : See W eJ rv ((goodsL good).take k)) => RPick_any (k + m) k (wholeL k m) ((goodsL good).take k) mv rv W ho (preL_len _ _ _) hr hRise.2 hk (by omega) (by omega) hkm (by omega))
  have hpkl : (pickL (wholeL k m) k ((goodsL good).take k)).length = k * k := by rw [pickL_len (wholeL k m) (k + m) k (preL_len _ _ _) _ hRise.2, hatl]
  have HInv := hid (fun W v (hs : See W eB v (pickL (wholeL k m) k ((goodsL good).take k))) => RInverse_any k _ v W hs hpkl hk (by omega) (pick_goes k m hkm _ hatl hRise))
  have HT := hid (fun W mv dv hs (hM : See W eB mv (invL (pickL (wholeL k m) k ((goodsL good).take k)) k)) (hd : Sees2 W eHB eB dv hs (atL ((goodsL good).take k) ps)) => Rtimes_any _ k mv dv hs _ c W hM hd (by omega) (by omega) (by omega) (by rw [hallen]; exact preL_len _ _ _) hall (by omega))
  have hDd : timesL (invL (pickL (wholeL k m) k ((goodsL good).take k)) k) (atL ((goodsL good).take k) ps).length k (atL ((goodsL good).take k) ps) c = dataL k m c ((goodsL good).take k) (atL ((goodsL good).take k) ps) := by unfold dataL; rw [hallen]
  rw [hDd] at HT
  rw [hallen] at HT
  rw [hatl] at HPk
  rw [← hn] at HPk
  have HPar := hid (fun W dv hs (hd : Sees2 W eHB eB dv hs (dataL k m c ((goodsL good).take k) (atL ((goodsL good).take k) ps))) => RParity_any m dv hs _ c W hd (by omega) (by omega) hDall (by omega))
  have HNow : Hid (nowL k m c ((goodsL good).take k) (atL ((goodsL good).take k) ps) = dataL k m c ((goodsL good).take k) (atL ((goodsL good).take k) ps) ++ parL m (dataL k m c ((goodsL good).take k) (atL ((goodsL good).take k) ps)) c) := rfl
  have HPRl := hid (parL_len m (dataL k m c ((goodsL good).take k) (atL ((goodsL good).take k) ps)) c)
  have HHtk := hid hHtk
  have HAl := hid hatl
  have HDl := hid hallen
  have HDl2 := hid hDlen
  clear hDd hpkl hRise hall hallen hatl hps hGl htk hpl hgl hc hp hpn hgn hGp hHtk hDlen HWh hDall
  generalize nowL k m c ((goodsL good).take k) (atL ((goodsL good).take k) ps) = Now at *
  generalize dataL k m c ((goodsL good).take k) (atL ((goodsL good).take k) ps) = D at *
  generalize invL (pickL (wholeL k m) k ((goodsL good).take k)) k = IV at *
  generalize pickL (wholeL k m) k ((goodsL good).take k) = PK at *
  generalize wholeL k m = WL at *
  generalize idL k = l1 at *
  generalize cauPre k m 0 = l2 at *
  generalize parL m D c = PR at *
  generalize atL ((goodsL good).take k) ps = ds at *
  have hnb : n ≤ 255 := by omega
  clear hn
  go_enter Tryz.func75, Tryz.ntmps75
  go_wp2_with fail
  refine (HM.out _).mono ?_
  rintro e w1 ⟨rfl, rfl⟩
  go_upto_region 6 with fail
  go_loopw [10, 11, 12] (fun lv av iv wr => ∃ (i : Nat) (A : List Nat), i ≤ n ∧ iv = N i ∧ Hid (A = goodsTo good n i) ∧ Ow wr w.heap.size eJ av A ∧ Ow wr w.heap.size eHB lv (headsAt A hs) ∧ Fr w wr) (fun _ _ iv _ => n - (intOf iv).toNat)
  case atStart => exact ⟨0, [], Nat.zero_le _, rfl, HZ.out.symm, Ow.nil, by rw [HZ2.out]; exact Ow.nil, Fr.refl w⟩
  case round =>
    obtain ⟨i, A, hi, rfl, HAe, hoa, hol, hf⟩ := hrel
    by_cases hlt : i < n
    · have hltg : i < good.length := by rw [HGn.out]; exact hlt
      have hlth : i < hs.length := by rw [HPn.out]; exact hlt
      obtain ⟨b1, off1, cp1, hv1, e1⟩ := (hp1.fr hf).cell1 (fun (h : Hd) => h.v) rfl i hlth
      obtain ⟨b2, off2, cp2, hv2, e2⟩ := (hg.fr hf).cell1 (fun b => Value.bool b) rfl i hltg
      have HSi := hid (HSn.out A i hlth)
      have HYi := hid (HY.out i hltg)
      have HNi := hid (HNo.out i hltg)
      have hAl : A.length ≤ i := by rw [HAe.out]; exact HLe.out i
      simp only [Value.slice.injEq] at hv1 hv2
      obtain ⟨rfl, hq1, rfl⟩ := hv1
      obtain ⟨rfl, hq2, rfl⟩ := hv2
      clear hq1 hq2
      generalize hs[i] = h at *
      obtain ⟨gi, hgi⟩ : ∃ q, q = good[i] := ⟨_, rfl⟩
      rw [← hgi] at HYi HNi e2
      clear hgi
      obtain ⟨aa, ac, hav⟩ := hoa.shape'
      subst hav
      obtain ⟨la, lc, hlv⟩ := hol.shape'
      rw [HLenH.out] at hlv
      subst hlv
      have i1 : (0 : Int) ≤ i := by omega
      have i2 : (i : Int) < n := by omega
      cases gi with
      | true =>
        have hn9 := HYi.out rfl (by rw [← HAe.out]; omega)
        rw [← HAe.out] at hn9
        obtain ⟨A2, hA2⟩ : ∃ q, q = A ++ [i] := ⟨_, rfl⟩
        rw [← hA2] at hn9 HSi
        have HN9 := hid hn9
        have HA2 := hid hA2
        clear hn9 HYi HNi hA2
        go_wp2_with (at_builtin; refine wpList_app1 eHB rfl (.tmp 56) (.tmp 61) 60 rfl Tryz.underlying60 w.heap.size rfl hol [h] _ _ _ rfl rfl rfl ?c1 hf.size ?_)
        case c1 => rw [HLenH.out]; simp; omega
        intro v5 w5 hap
        have own5 := hap.own
        have hoa5 := own_app hoa hol hap (by decide)
        have hf5 : Fr w w5 := hap.below hol hf (Nat.le_refl _) hf.size
        rw [← HSi.out] at own5
        obtain ⟨va5, vc5, hv5⟩ := own5.shape'
        rw [HLenH.out] at hv5
        subst hv5
        clear hap hol hoa
        go_wp2_with (at_builtin; refine wpList_app1 eJ rfl (.tmp 63) (.tmp 65) 50 rfl Tryz.underlying50 w.heap.size rfl hoa5 [i] _ _ _ rfl rfl rfl ?c1 hf5.size ?_)
        case c1 => simp; omega
        intro v' w4 hap
        have own4 := hap.own
        rw [← HA2.out] at own4
        have hol4 := own_app own5 hoa5 hap (by decide)
        have hf4 : Fr w w4 := hap.below hoa5 hf5 (Nat.le_refl _) hf5.size
        clear hap hoa5 own5
        go_wp2_with fail
        go_roundw
        case rel => exact ⟨i + 1, _, by omega, by go_num, HN9.out.symm, own4, hol4, hf4⟩
        case measure => simp [intOf]; omega
      | false =>
        have hn9 := HNi.out (.inl rfl)
        rw [← HAe.out] at hn9
        have HN9 := hid hn9
        clear hn9 HYi HNi
        go_wp2_with fail
        go_roundw
        case rel => exact ⟨i + 1, _, by omega, by go_num, HN9.out.symm, hoa, hol, hf⟩
        case measure => simp [intOf]; omega
    · obtain rfl : n = i := by omega
      rw [HEnd.out] at HAe
      have hAe := HAe.out
      subst hAe
      have hnl2 : ¬ ((n : Int) < n) := by omega
      obtain ⟨aa, ac, hav⟩ := hoa.shape'
      obtain ⟨la, lc, hlv⟩ := hol.shape'
      rw [HLenH.out] at hlv
      subst hav hlv
      have HA2 := hid (HA.out wr _ hol.see hf)
      generalize headsAt (goodsL good) hs = HDs at *
      generalize hG : goodsL good = G at *
      clear hG hi HSn HY HNo HEnd HZ HZ2 hp1 hg hyes
      obtain ⟨ftr, fts⟩ := run_to eJ 50 Tryz.underlying50 hoa.see k hle
      obtain ⟨hHl⟩ : Nonempty (HDs.length = G.length) := ⟨HL.out⟩
      obtain ⟨gtr, gts⟩ := run_to eHB 60 Tryz.underlying60 hol.see k (by omega)
      rw [HHtk.out] at gts
      have HgS := hid (fun W (h : Fr w W) (h2 : Fr wr W) => HSA.out W _ (gts.fr h2) h)
      have HfS := hid fts
      clear hHl gts fts HSA hoa hol
      go_wp2_with fail
      refine (HA2.out).mono ?_
      rintro e w2 ⟨rfl, hf2⟩
      have hfw2 := hf.trans hf2
      clear HA2
      go_wp2_with fail
      refine (HI.out _).mono ?_
      rintro e w3 ⟨v1, rfl, hO1, hf3⟩
      obtain ⟨a1, c1, hv1⟩ := hO1.shape'
      rw [hl1.out] at hv1
      subst hv1
      unfold idV
      have hA : (w3.alloc (.cells #[N k, N k, .slice a1 (k * k) c1] 105)).heap[w3.heap.size]? = some (.cells #[N k, N k, .slice a1 (k * k) c1] 105 (0, 0)) := heap_new _ _ _ rfl
      have hfA : Fr w3 (w3.alloc (.cells #[N k, N k, .slice a1 (k * k) c1] 105)) := (Fr.refl w3).alloc _
      go_upto_region 16 with fail
      generalize w3.alloc (.cells #[N k, N k, .slice a1 (k * k) c1] 105) = w4 at *
      generalize w3.heap.size = q1 at *
      go_wp2_with fail
      refine (HC.out _).mono ?_
      rintro e w5 ⟨v3, rfl, hO3, hf5⟩
      obtain ⟨a3, c3, hv3⟩ := hO3.shape'
      rw [hl2.out] at hv3
      subst hv3
      unfold cauV
      have hA5 := hf5.heap hA
      have hO15 := hO1.fr (hfA.trans hf5)
      have hB : (w5.alloc (.cells #[N m, N k, .slice a3 (m * k) c3] 105)).heap[w5.heap.size]? = some (.cells #[N m, N k, .slice a3 (m * k) c3] 105 (0, 0)) := heap_new _ _ _ rfl
      have hfB : Fr w5 (w5.alloc (.cells #[N m, N k, .slice a3 (m * k) c3] 105)) := (Fr.refl w5).alloc _
      have hf25 : Fr wr w5 := ((hf2.trans hf3).trans hfA).trans hf5
      go_upto_region 17 with fail
      generalize w5.alloc (.cells #[N m, N k, .slice a3 (m * k) c3] 105) = w6 at *
      generalize w5.heap.size = q3 at *
      have e0 : w6.cell? ⟨q1, 0, none⟩ = some (N k) := by rw [cell_of_heap (hfB.heap hA5)]; rfl
      have e1 : w6.cell? ⟨q1, 1, none⟩ = some (N k) := by rw [cell_of_heap (hfB.heap hA5)]; rfl
      have e2 : w6.cell? ⟨q1, 2, none⟩ = some (.slice a1 (k * k) c1) := by rw [cell_of_heap (hfB.heap hA5)]; rfl
      have f0 : w6.cell? ⟨q3, 0, none⟩ = some (N m) := by rw [cell_of_heap hB]; rfl
      have f1 : w6.cell? ⟨q3, 1, none⟩ = some (N k) := by rw [cell_of_heap hB]; rfl
      have f2 : w6.cell? ⟨q3, 2, none⟩ = some (.slice a3 (m * k) c3) := by rw [cell_of_heap hB]; rfl
      have hf67 : Fr w6 (w6.alloc (.cells #[N k, N k, .slice a1 (k * k) c1, N m, N k, .slice a3 (m * k) c3] 105)) := (Fr.refl w6).alloc _
      have HS4 := hid (HStk.out w6.heap.size c1 c3 a1 a3 _ (heap_new w6 (.cells #[N k, N k, .slice a1 (k * k) c1, N m, N k, .slice a3 (m * k) c3] 105) _ rfl) ((hO15.fr hfB).fr hf67).see ((hO3.fr hfB).fr hf67).see)
      have hf27 := (hf25.trans hfB).trans hf67
      clear hO1 hO3 hO15 hA hA5 hB hf3 hfA hf5 hfB hf25 HI HC HStk
      go_wp2_with fail
      refine HS4.out.mono ?_
      rintro e w8 ⟨u, rfl, hO8, hf8⟩
      have hf28 := hf27.trans hf8
      clear HS4 hf27 hf8 e0 e1 e2 f0 f1 f2 hf67
      obtain ⟨a8, c8, hv8⟩ := hO8.shape'
      subst hv8
      have hC : (w8.alloc (.cells #[N n, N k, .slice a8 WL.length c8] 105)).heap[w8.heap.size]? = some (.cells #[N n, N k, .slice a8 WL.length c8] 105 (0, 0)) := heap_new _ _ _ rfl
      have hfC : Fr w8 (w8.alloc (.cells #[N n, N k, .slice a8 WL.length c8] 105)) := (Fr.refl w8).alloc _
      go_upto_region 18 with fail
      have hO9 := hO8.fr hfC
      have hf29 := hf28.trans hfC
      generalize w8.alloc (.cells #[N n, N k, .slice a8 WL.length c8] 105) = w9 at *
      generalize w8.heap.size = q8 at *
      have g0 : w9.cell? ⟨q8, 0, none⟩ = some (N n) := by rw [cell_of_heap hC]; rfl
      have g1 : w9.cell? ⟨q8, 1, none⟩ = some (N k) := by rw [cell_of_heap hC]; rfl
      have g2 : w9.cell? ⟨q8, 2, none⟩ = some (.slice a8 WL.length c8) := by rw [cell_of_heap hC]; rfl
      have HPkF := hid (fun W (h : Fr w9 W) => HPk.out W _ _ (hO9.fr h).see (HfS.out.fr (hf29.trans h)))
      have hfz : Fr w9 (w9.alloc (.cells #[.int .i64 0, .int .i64 0, .slice none 0 0] 105)) := (Fr.refl w9).alloc _
      have z0 : (w9.alloc (.cells #[.int .i64 0, .int .i64 0, .slice none 0 0] 105)).heap[w9.heap.size]? = some (.cells #[.int .i64 0, .int .i64 0, .slice none 0 0] 105 (0, 0)) := heap_new _ _ _ rfl
      have g0z := hfz.cell g0
      have g1z := hfz.cell g1
      have g2z := hfz.cell g2
      have hz8 : (w9.alloc (.cells #[.int .i64 0, .int .i64 0, .slice none 0 0] 105)).heap.size = w9.heap.size + 1 := by simp
      have KB : ∀ (W : World) (c : Value), Fr w9 W → W.heap[w9.heap.size]? = some (.cells #[.int .i64 0, .int .i64 0, .slice none 0 0] 105 (0, 0)) → Ow W (w9.heap.size + 1) eB c PK →
          (((W.setCell ⟨w9.heap.size, 0, none⟩ (N k)).setCell ⟨w9.heap.size, 1, none⟩ (N k)).setCell ⟨w9.heap.size, 2, none⟩ c).heap[w9.heap.size]? = some (.cells #[N k, N k, c] 105 (0, 0)) ∧
          Ow (((W.setCell ⟨w9.heap.size, 0, none⟩ (N k)).setCell ⟨w9.heap.size, 1, none⟩ (N k)).setCell ⟨w9.heap.size, 2, none⟩ c) w9.heap.size eB c PK ∧
          Fr w9 (((W.setCell ⟨w9.heap.size, 0, none⟩ (N k)).setCell ⟨w9.heap.size, 1, none⟩ (N k)).setCell ⟨w9.heap.size, 2, none⟩ c) := by
        intro W c h1 h2 h3
        have hC3 : Chg (fun k => k = w9.heap.size) W (((W.setCell ⟨w9.heap.size, 0, none⟩ (N k)).setCell ⟨w9.heap.size, 1, none⟩ (N k)).setCell ⟨w9.heap.size, 2, none⟩ c) := ((setCell_chg W ⟨w9.heap.size, 0, none⟩ _).trans (setCell_chg _ ⟨w9.heap.size, 1, none⟩ _) fun _ _ h => h).trans (setCell_chg _ ⟨w9.heap.size, 2, none⟩ c) fun _ _ h => h
        exact ⟨heap_setCell_own (heap_setCell_own (heap_setCell_own h2 0 _) 1 _) 2 _, (h3.chg hC3 (fun k hk e => by have := (h3.lt k hk).1; have e : k = w9.heap.size := e; omega)).rebase (by omega), Chg.below h1 hC3 h1.size (fun k e => by rw [e]; exact Nat.le_refl _)⟩
      have KB := hid KB
      clear HPk hO8 hO9 hC hfC hf28
      go_cut [19, 20] from 92 to 99 (fun pv ev wx => ∃ (qz : Nat) (u : Value), pv = .pointer (some ⟨qz, 0, none⟩) ∧ ev = .int .i64 0 ∧ wx.heap[qz]? = some (.cells #[N k, N k, u] 105 (0, 0)) ∧ Ow wx w9.heap.size eB u PK ∧ Fr w9 wx)
      case first =>
        go_region_with (first
          | (go_at_call 111
             first
              | (refine (HPkF.out _ (Fr.refl w9).drew).mono ?_; rintro e w10 ⟨u10, rfl, hO10, hf10⟩; have hf910 : Fr w9 w10 := (Fr.refl w9).drew.trans hf10)
              | (refine (HPkF.out _ hfz.drew).mono ?_; rintro e w10 ⟨u10, rfl, hO10, hf10⟩; have hf910 : Fr w9 w10 := hfz.drew.trans hf10; have hz10 := hf10.heap (show (w9.alloc _).drew.heap[w9.heap.size]? = _ from z0); have y0 : w10.cell? ⟨w9.heap.size, 0, none⟩ = some (.int .i64 0) := (cell_of_heap hz10 _).trans rfl; have y1 : w10.cell? ⟨w9.heap.size, 1, none⟩ = some (.int .i64 0) := (cell_of_heap hz10 _).trans rfl; have y2 : w10.cell? ⟨w9.heap.size, 2, none⟩ = some (.slice none 0 0) := (cell_of_heap hz10 _).trans rfl; have x0 := frozen_of_heap hz10 0; have x1 := frozen_of_heap hz10 1; have x2 := frozen_of_heap hz10 2)
             obtain ⟨a10, c10, hv10⟩ := hO10.shape'
             subst hv10
             have g0 := hf910.cell g0
             have g1 := hf910.cell g1
             have g2 := hf910.cell g2))
        all_goals go_wp2_with fail
        all_goals go_meet
        all_goals first
          | exact ⟨w10.heap.size, _, rfl, rfl, heap_new _ _ _ rfl, hO10.fr ((Fr.refl w10).alloc _), hf910.alloc _⟩
          | exact ⟨w9.heap.size, _, rfl, rfl, KB.out w10 _ hf910 hz10 (by rw [← hz8]; exact hO10)⟩
      case rest =>
        obtain ⟨qz, u, rfl, rfl, hZz, hOz, hf9c⟩ := hcut
        obtain ⟨az, cz, huz⟩ := hOz.shape'
        subst huz
        have y0 : wc.cell? ⟨qz, 0, none⟩ = some (N k) := by rw [cell_of_heap hZz]; rfl
        have y1 : wc.cell? ⟨qz, 1, none⟩ = some (N k) := by rw [cell_of_heap hZz]; rfl
        have y2 : wc.cell? ⟨qz, 2, none⟩ = some (.slice az PK.length cz) := by rw [cell_of_heap hZz]; rfl
        have HI9 := hid (HInv.out wc _ hOz.see)
        have hf2c := hf29.trans hf9c
        clear HInv hOz hZz hf9c g0 g1 g2 g0z g1z g2z hfz z0 HPkF
        go_wp2_with fail
        refine (HI9.out).mono ?_
        rintro e wi ⟨ui, rfl, hOi, hfi⟩
        obtain ⟨ai, ci, hvi⟩ := hOi.shape'
        subst hvi
        have hD : (wi.alloc (.cells #[N k, N k, .slice ai IV.length ci] 105)).heap[wi.heap.size]? = some (.cells #[N k, N k, .slice ai IV.length ci] 105 (0, 0)) := heap_new _ _ _ rfl
        have hfD : Fr wi (wi.alloc (.cells #[N k, N k, .slice ai IV.length ci] 105)) := (Fr.refl wi).alloc _
        clear HI9 y0 y1 y2
        go_upto_region 20 with fail
        have hOj := hOi.fr hfD
        have hf2j := (hf2c.trans hfi).trans hfD
        generalize wi.alloc (.cells #[N k, N k, .slice ai IV.length ci] 105) = wj at *
        generalize wi.heap.size = qi at *
        have y0 : wj.cell? ⟨qi, 0, none⟩ = some (N k) := by rw [cell_of_heap hD]; rfl
        have y1 : wj.cell? ⟨qi, 1, none⟩ = some (N k) := by rw [cell_of_heap hD]; rfl
        have y2 : wj.cell? ⟨qi, 2, none⟩ = some (.slice ai IV.length ci) := by rw [cell_of_heap hD]; rfl
        have hjd : Fr wj wj.drew := (Fr.refl wj).drew
        have HT9 := hid (HT.out wj.drew _ _ _ (hOj.fr hjd).see (HgS.out wj.drew ((hf.trans hf2j).trans hjd) (hf2j.trans hjd)))
        clear HT HgS hOi hOj hfD hD hf2c hfi
        go_still_tail 4, (by kernel_rfl)
        change wpList _ _ _ _ _ wj.drew
        generalize wj.drew = wk at *
        go_wp2_with fail
        refine (HT9.out).mono ?_
        rintro e wl ⟨ul, rfl, xl, hOl, hOsl, hfl⟩
        have hfwl := ((hf.trans hf2j).trans hjd).trans hfl
        have hSl := hOsl.sees2 hOl.see
        obtain ⟨al, cl, hvl⟩ := hOl.shape'
        subst hvl
        have HP9 := hid (HPar.out wl _ _ hSl)
        clear HT9 HPar
        go_wp2_with fail
        refine (HP9.out).mono ?_
        rintro e wm ⟨um, rfl, xm, hOm, hOsm, hfm⟩
        obtain ⟨am, cm, hvm⟩ := hOm.shape'
        subst hvm
        have hfwm := hfwl.trans hfm
        have hOl2 := hOl.fr hfm
        have hOsl2 := hOsl.fr hfm
        have hl1 : xl.length ≤ 255 := by rw [hSl.2.1, HDl2.out]; omega
        have hl2 : xm.length ≤ 255 := by rw [hOsm.1, HPRl.out]; omega
        have hszm : wk.heap.size ≤ wm.heap.size := Nat.le_trans hfl.size hfm.size
        have hwk : w.heap.size ≤ wk.heap.size := ((hf.trans hf2j).trans hjd).size
        clear HP9 hSl hOl
        go_wp2_with (at_builtin; refine wpList_app eHB rfl (.tmp 116) (.tmp 117) 60 rfl Tryz.underlying60 wk.heap.size rfl hOl2 _ _ rfl hOm.see ?c1 hszm ?_)
        case c1 => omega
        intro vz wz hap
        have hrows := owns_append (hOsl2.app hOl2 hap (by decide)) ((hOsm.app hOl2 hap (by decide)).rebase hfl.size)
        rw [← HNow.out] at hrows
        have own9 := hap.own
        have hf9 : Fr w wz := hap.below hOl2 hfwm hwk hfwm.size
        generalize xl ++ xm = xz at *
        obtain ⟨a9, c9, hv9⟩ := own9.shape'
        subst hv9
        clear hap hOl2 hOm hOsl2 hOsm
        go_wp2_with fail
        go_ret2
        exact ⟨_, rfl, xz, own9.rebase hwk, hrows.rebase hwk, hf9⟩
set_option maxRecDepth 512
end Go.Proofs.YtfhdgenlpmlajaaGreatDoor
