/- Parts of the proof of ThreeMends: R5 T4. -/
import Derived.Test.YtfhdgenlpmlajaaGreatDoorM36
import Derived.Test.YtfhdgenlpmlajaaGreatDoorM12
import Derived.Test.YtfhdgenlpmlajaaGreatDoorM26
set_option linter.unusedVariables false
set_option linter.unusedSectionVars false
set_option linter.unusedSimpArgs false
set_option maxHeartbeats 8000000
namespace Go.Proofs.YtfhdgenlpmlajaaGreatDoor
open Go.RowKit Go.Fk
theorem goods_mem (good : List Bool) : ∀ r ∈ goodsL good, r < good.length ∧ good.getD r false = true := fun r h => ⟨List.mem_range.1 (List.mem_filter.1 h).1, (List.mem_filter.1 h).2⟩
theorem goods_len (good : List Bool) : (goodsL good).length ≤ good.length := by
 have := List.length_filter_le (fun i => good.getD i false) (List.range good.length)
 rw [List.length_range] at this
 exact this
theorem goods_rise (good : List Bool) (k : Nat) : Rising ((goodsL good).take k) good.length := by
 have hp : ((goodsL good).take k).Pairwise (· < ·) := (List.pairwise_lt_range.filter _).take
 refine ⟨fun r s h1 h2 => ?_, fun r h => (goods_mem good r (List.mem_of_mem_take h)).1⟩
 rw [getD_at _ _ _ (by omega), getD_at _ _ _ h2]
 exact List.pairwise_iff_getElem.1 hp r s (by omega) h2 h1
theorem atL_len (ats : List Nat) (ps : List (List UInt8)) : (atL ats ps).length = ats.length := by simp [atL]
theorem headsAt_len (ats : List Nat) (hs : List Hd) : (headsAt ats hs).length = ats.length := by simp [headsAt]
theorem atL_all (good : List Bool) (ps : List (List UInt8)) (c : Nat) (ats : List Nat) (h : ∀ r ∈ ats, r ∈ goodsL good) (hc : ∀ r (h : r < ps.length), good.getD r false = true → ps[r].length = c) (hl : good.length = ps.length) : ∀ p ∈ atL ats ps, p.length = c := by
 intro p hp
 obtain ⟨r, hr, rfl⟩ := List.mem_map.1 hp
 obtain ⟨h1, h2⟩ := goods_mem good r (h r hr)
 rw [getD_at ps r [] (by omega)]
 exact hc r (by omega) h2
theorem sees_at {w w' : World} {pv lv : Value} {hs : List Hd} {ps : List (List UInt8)} {ats : List Nat} (h : Sees2 w eHB eB pv hs ps) (hl : See w' eHB lv (headsAt ats hs)) (hf : Fr w w') (ha : ∀ r ∈ ats, r < hs.length) : Sees2 w' eHB eB lv (headsAt ats hs) (atL ats ps) := by
 refine ⟨hl, by rw [atL_len, headsAt_len], fun i h1 h2 => ?_⟩
 have hi : i < ats.length := by rw [atL_len] at h2; exact h2
 have hr := ha _ (List.getElem_mem hi)
 have hr2 : ats[i] < ps.length := by have := h.2.1; omega
 have e1 : (headsAt ats hs)[i] = hs[ats[i]] := by simp only [headsAt, List.getElem_map]; rw [getD_at hs _ _ hr]
 have e2 : (atL ats ps)[i] = ps[ats[i]] := by simp only [atL, List.getElem_map]; rw [getD_at ps _ _ hr2]
 rw [e1, e2]
 exact (h.2.2 _ hr hr2).fr hf
section
variable {P : Program} {α β : Type} {E : Elt P α} {w w' : World} {base : Nat} {ps : List Hd} {ls : List (List α)}
theorem _root_.Go.Fk.Owns.app {F : Elt P β} {b : Nat} {l l' : List β} {v v' : Value} (h : Owns w base E ps ls) (ho : Ow w b F v l) (ha : App b F l' w v v' w') (hT : F.e ≠ E.e) : Owns w' base E ps ls := ⟨h.1, fun t h1 h2 => own_app (h.2 t h1 h2) ho ha hT⟩
theorem _root_.Go.Fk.Owns.snoc {x : Hd} {l : List α} (h : Owns w base E ps ls) (hx : Ow w base E x.v l) : Owns w base E (ps ++ [x]) (ls ++ [l]) := by
 refine ⟨by simp [h.1], fun t h1 h2 => ?_⟩
 by_cases ht : t < ps.length
 · have ht2 : t < ls.length := by rw [← h.1]; exact ht
   simp only [List.getElem_append_left ht, List.getElem_append_left ht2]
   exact h.2 t ht ht2
 · have e1 : t = ps.length := by simp at h1; omega
   subst e1
   simp only [List.getElem_append_right (Nat.le_refl _), Nat.sub_self]
   have e2 : ps.length = ls.length := h.1
   simp only [e2, List.getElem_append_right (Nat.le_refl _), Nat.sub_self]
   exact hx
end
theorem rows_app {w : World} {v1 v2 : Value} {h1 h2 : List Hd} {l1 l2 : List (List UInt8)} (s1 : Sees2 w eHB eB v1 h1 l1) (s2 : Sees2 w eHB eB v2 h2 l2) : ∀ i (ha : i < (h1 ++ h2).length) (hb : i < (l1 ++ l2).length), See w eB (h1 ++ h2)[i].v (l1 ++ l2)[i] := by
 intro i ha hb
 have e := s1.2.1
 by_cases hi : i < h1.length
 · simp only [List.getElem_append_left hi, List.getElem_append_left (show i < l1.length by omega)]
   exact s1.2.2 i hi (by omega)
 · simp only [List.getElem_append_right (show h1.length ≤ i by omega), List.getElem_append_right (show l1.length ≤ i by omega), e]
   rw [List.length_append] at ha hb
   exact s2.2.2 (i - l1.length) (by omega) (by omega)
theorem lit_seesH (w : World) (p1 p2 : Hd) (h1 h2 : List Hd) (s1 : See w eHB p1.v h1) (s2 : See w eHB p2.v h2) :
  Sees2 (w.alloc (.cells #[p1.v, p2.v] 60)) eHHB eHB (.slice (some ⟨w.heap.size, 0, none⟩) 2 2) [p1, p2] [h1, h2] :=
 ⟨see_new eHHB w [p1, p2] _ _ 2 rfl rfl (by simp [maxLen]), rfl, fun i ha hb => by
  match i, ha with
  | 0, _ => exact s1.fr ((Fr.refl w).alloc _)
  | 1, _ => exact s2.fr ((Fr.refl w).alloc _)⟩
set_option maxRecDepth 100000
theorem Mend_no (k m c : Nat) (pv gv : Value) (hs : List Hd) (ps : List (List UInt8)) (good : List Bool) (w : World) (hk : 1 ≤ k) (hkm : k + m ≤ 255) (hp : Sees2 w eHB eB pv hs ps) (hg : See w eO gv good) (hpl : hs.length = k + m) (hgl : good.length = k + m)
  (hc : ∀ r (h : r < ps.length), good.getD r false = true → ps[r].length = c) (hno : (goodsL good).length < k) :
  Calls Tryz.prog 97 #[N k, N m, pv, gv] w fun e w' => e = .returned (.tuple #[.slice none 0 0, .int .i64 12]) ∧ Fr w w' := by
 have hps := hp.2.1
 have hGl := goods_len good
 have htk : (goodsL good).take (k + m) = goodsL good := List.take_of_length_le (by omega)
 have HM := hid (rmay_any k m hk hkm)
 have HF1 := hid (fun W (h : Fr w W) => first_any (k + m) pv gv hs good W (hp.1.fr h) (hg.fr h) (by omega) (by omega))
 rw [htk] at HF1
 have HA := hid (fun W lv (hl : See W eHB lv (headsAt (goodsL good) hs)) (hf : Fr w W) => alike_any lv (headsAt (goodsL good) hs) c W hl (alike_of (sees_at hp hl hf (fun r hr => by have := (goods_mem good r hr).1; omega)) (atL_all good ps c _ (fun r h => h) hc (by omega))))
 have HL := hid (headsAt_len (goodsL good) hs)
 obtain ⟨pa, pcap, hpv, _, _, _⟩ := hp.1.shape
 obtain ⟨ga, gcap, hgv, _, _, _⟩ := hg.shape
 obtain ⟨n, hn⟩ : ∃ n, n = k + m := ⟨_, rfl⟩
 rw [hpl, ← hn] at hpv
 rw [hgl, ← hn] at hgv
 rw [← hn] at HF1
 subst hpv hgv
 have hw : IntKind.i64.wrap ((k : Int) + m) = (n : Int) := by rw [show (k : Int) + m = (n : Int) by omega]; exact wrap_i64 _ (by omega)
 clear hp hg hpl hgl hc hps hGl htk hn
 generalize goodsL good = G at *
 generalize headsAt G hs = HG at *
 have hlt : (G.length : Int) < k := by omega
 go_enter Tryz.func97, Tryz.ntmps97
 go_wp2_with fail
 refine (HM.out _).mono ?_
 rintro e w1 ⟨rfl, rfl⟩
 go_wp2_with fail
 refine (HF1.out _ (Fr.refl w)).mono ?_
 rintro e w2 ⟨va, vl, rfl, hoa, hol, hf⟩
 obtain ⟨la, lc, hlv⟩ := hol.shape'
 rw [HL.out] at hlv
 subst hlv
 have HA2 := hid (HA.out w2 _ hol.see hf)
 clear hoa hol
 go_wp2_with fail
 refine (HA2.out).mono ?_
 rintro e w3 ⟨rfl, rfl⟩
 go_wp2_with fail
 go_ret2
 exact ⟨rfl, hf⟩
theorem Mend_ok (k m c : Nat) (pv gv : Value) (hs : List Hd) (ps : List (List UInt8)) (good : List Bool) (w : World) (hk : 1 ≤ k) (hkm : k + m ≤ 255) (hc6 : c ≤ 4096) (hp : Sees2 w eHB eB pv hs ps) (hg : See w eO gv good) (hpl : hs.length = k + m) (hgl : good.length = k + m)
  (hc : ∀ r (h : r < ps.length), good.getD r false = true → ps[r].length = c) (hyes : k ≤ (goodsL good).length) :
  Calls Tryz.prog 97 #[N k, N m, pv, gv] w fun e w' => ∃ v, e = .returned (.tuple #[v, .int .i64 0]) ∧ ∃ xs, Ow w' w.heap.size eHB v xs ∧ Owns w' w.heap.size eB xs (nowL k m c ((goodsL good).take k) (atL ((goodsL good).take k) ps)) ∧ Fr w w' := by
 have hps := hp.2.1
 have hGl := goods_len good
 have htk : (goodsL good).take (k + m) = goodsL good := List.take_of_length_le (by omega)
 have HM := hid (rmay_any k m hk hkm)
 have HF1 := hid (fun W (h : Fr w W) => first_any (k + m) pv gv hs good W (hp.1.fr h) (hg.fr h) (by omega) (by omega))
 have HF2 := hid (fun W (h : Fr w W) => first_any k pv gv hs good W (hp.1.fr h) (hg.fr h) (by omega) (by omega))
 rw [htk] at HF1
 have HA := hid (fun W lv (hl : See W eHB lv (headsAt (goodsL good) hs)) (hf : Fr w W) => alike_any lv (headsAt (goodsL good) hs) c W hl (alike_of (sees_at hp hl hf (fun r hr => by have := (goods_mem good r hr).1; omega)) (atL_all good ps c _ (fun r h => h) hc (by omega))))
 have HL := hid (headsAt_len (goodsL good) hs)
 have hRise := goods_rise good k
 rw [hgl] at hRise
 have hatl : ((goodsL good).take k).length = k := by rw [List.length_take]; omega
 have HSA := hid (fun W lv (hl : See W eHB lv (headsAt ((goodsL good).take k) hs)) (hf : Fr w W) => sees_at hp hl hf (fun r hr => by have := (goods_mem good r (List.mem_of_mem_take hr)).1; omega))
 have hall := atL_all good ps c ((goodsL good).take k) (fun r h => List.mem_of_mem_take h) hc (by omega)
 have hallen : (atL ((goodsL good).take k) ps).length = k := by rw [atL_len, hatl]
 obtain ⟨pa, pcap, hpv, _, _, _⟩ := hp.1.shape
 obtain ⟨ga, gcap, hgv, _, _, _⟩ := hg.shape
 obtain ⟨n, hn⟩ : ∃ n, n = k + m := ⟨_, rfl⟩
 rw [hpl, ← hn] at hpv
 rw [hgl, ← hn] at hgv
 rw [← hn] at HF1
 have hle : k ≤ (goodsL good).length := hyes
 subst hpv hgv
 have hw : IntKind.i64.wrap ((k : Int) + m) = (n : Int) := by rw [show (k : Int) + m = (n : Int) by omega]; exact wrap_i64 _ (by omega)
 clear hp hg hpl hgl hc hps hGl htk
 generalize (goodsL good).take k = ats at *
 generalize goodsL good = G at *
 generalize atL ats ps = ds at *
 generalize headsAt G hs = HG at *
 have hnl : ¬ (G.length : Int) < k := by omega
 have HId := hid (fun he => data_id k m c ats ds hatl hallen hRise hall he)
 have hDall := data_all k m c ats ds hallen hall
 have hDlen := data_len k m c ats ds
 have hNall := nowL_all k m c ats ds hallen hall
 have hNlen := nowL_len k m c ats ds
 have HNow : Hid (nowL k m c ats ds = dataL k m c ats ds ++ parL m (dataL k m c ats ds) c) := rfl
 have HPar := hid (fun W dv hs (hd : Sees2 W eHB eB dv hs (dataL k m c ats ds)) => Parity_any m dv hs (dataL k m c ats ds) c W hd (by omega) (by omega) hDall (by omega))
 have HW := hid (whole_any k m hk hkm)
 have HPk := hid (fun W mv rv base (ho : Ow W base eB mv (wholeL k m)) (hr : See W eJ rv ats) => Pick_any (k + m) k (wholeL k m) ats mv rv base W ho (preL_len _ _ _) hr hRise.2 hk (by omega) (by omega) hkm (by omega))
 have hpkl : (pickL (wholeL k m) k ats).length = k * k := by rw [pickL_len (wholeL k m) (k + m) k (preL_len _ _ _) ats hRise.2, hatl]
 have HInv := hid (fun W v (hs : See W eB v (pickL (wholeL k m) k ats)) => Inverse_any k _ v W hs hpkl hk (by omega) (pick_goes k m hkm ats hatl hRise))
 have HT := hid (fun W mv dv hs (hM : See W eB mv (invL (pickL (wholeL k m) k ats) k)) (hd : Sees2 W eHB eB dv hs ds) => times_any _ k mv dv hs ds c W hM hd (by omega) (by omega) (by omega) (by rw [hallen]; exact preL_len _ _ _) hall (by omega))
 have hDd : timesL (invL (pickL (wholeL k m) k ats) k) ds.length k ds c = dataL k m c ats ds := by unfold dataL; rw [hallen]
 rw [hDd] at HT
 rw [hallen] at HT
 rw [hatl] at HPk
 rw [← hn] at HPk HW
 have hatk : ats.getD (k - 1) 0 = k - 1 → ∀ r, r < k → ats.getD r 0 = r := by
  intro h r hr
  exact rising_all ats _ hRise (by omega) (by rw [hatl]; exact h) r (by omega)
 have Hatk := hid hatk
 have HAl := hid hatl
 have HDl := hid hallen
 have hnb : n ≤ 1000000000 := by omega
 have hn255 : n ≤ 255 := by omega
 rw [← hn] at hNlen
 clear hDd hpkl hRise hall hallen hatl hn hatk
 generalize nowL k m c ats ds = Now at *
 generalize dataL k m c ats ds = D at *
 generalize invL (pickL (wholeL k m) k ats) k = IV at *
 generalize pickL (wholeL k m) k ats = PK at *
 generalize wholeL k m = WL at *
 generalize parL m D c = PR at *
 go_enter Tryz.func97, Tryz.ntmps97
 go_wp2_with fail
 refine (HM.out _).mono ?_
 rintro e w1 ⟨rfl, rfl⟩
 go_wp2_with fail
 refine (HF1.out _ (Fr.refl w)).mono ?_
 rintro e w2 ⟨va, vl, rfl, hoa, hol, hf⟩
 obtain ⟨la, lc, hlv⟩ := hol.shape'
 rw [HL.out] at hlv
 subst hlv
 have HA2 := hid (HA.out w2 _ hol.see hf)
 clear hoa hol HF1 HM
 go_wp2_with fail
 refine (HA2.out).mono ?_
 rintro e w3 ⟨rfl, rfl⟩
 go_wp2_with fail
 refine (HF2.out _ hf).mono ?_
 rintro e w3 ⟨va3, vl3, rfl, hoa3, hol3, hf3⟩
 have hf03 := hf.trans hf3
 have hse := HSA.out w3 vl3 hol3.see hf03
 obtain ⟨la3, lc3, hlv3⟩ := hol3.shape'
 rw [hse.2.1, HDl.out] at hlv3
 obtain ⟨aa3, ac3, hav3⟩ := hoa3.shape'
 rw [HAl.out] at hav3
 subst hlv3 hav3
 have hkk : k - 1 < ats.length := by rw [HAl.out]; omega
 obtain ⟨b1, off1, cp1, hv1, e1⟩ := hoa3.see.cell1 (fun n => N n) rfl (k - 1) hkk
 simp only [Value.slice.injEq] at hv1
 obtain ⟨rfl, hk9, rfl⟩ := hv1
 clear hk9
 rw [← getD_at ats (k - 1) 0 hkk] at e1
 have hseA := hoa3.see
 obtain ⟨k1, hk1⟩ : ∃ q, q = k - 1 := ⟨_, rfl⟩
 rw [← hk1] at e1 Hatk
 have hw1 : IntKind.i64.wrap ((k : Int) - 1) = (k1 : Int) := by rw [show (k : Int) - 1 = (k1 : Int) by omega]; exact wrap_i64 _ (by omega)
 have i1 : (0 : Int) ≤ k1 := by omega
 have i2 : (k1 : Int) < k := by omega
 clear HF2 HA HA2 HSA hkk hk1 hf3 hf
 generalize ats.getD k1 0 = ak at *
 generalize headsAt ats hs = HH at *
 go_upto_if 75 with fail
 go_cut [14] from 15 to 92 (fun dv wx => ∃ hd, Sees2 wx eHB eB dv hd D ∧ Fr w wx)
 case first =>
  by_cases hak : ak = k1
  · subst hak
    have hDe := HId.out (Hatk.out rfl)
    go_wp2_with fail
    go_meet
    exact ⟨_, by rw [hDe]; exact hse, hf03⟩
  · have hak' : ¬ (ak : Int) = k1 := by omega
    clear HId Hatk
    go_wp2_with fail
    refine (HW.out _).mono ?_
    rintro e w4 ⟨u4, rfl, ho4, hf4⟩
    have HPk4 := hid (HPk.out w4 u4 _ _ ho4 (hseA.fr hf4))
    obtain ⟨a4, c4, hv4⟩ := ho4.shape'
    subst hv4
    clear HPk
    go_wp2_with fail
    refine (HPk4.out).mono ?_
    rintro e w5 ⟨u5, rfl, ho5, hf5⟩
    obtain ⟨a5, c5, hv5⟩ := ho5.shape'
    subst hv5
    have hfA : Fr w5 (w5.alloc (.cells #[N k, N k, .slice a5 PK.length c5] 105)) := (Fr.refl w5).alloc _
    have HInv5 := hid (HInv.out _ _ (ho5.fr hfA).see)
    have hf35 := hf4.trans hf5
    clear HPk4 HInv ho4
    go_wp2_with fail
    refine (HInv5.out).mono ?_
    rintro e w6 ⟨u6, rfl, ho6, hf6⟩
    obtain ⟨a6, c6, hv6⟩ := ho6.shape'
    subst hv6
    have hfB : Fr w6 (w6.alloc (.cells #[N k, N k, .slice a6 IV.length c6] 105)) := (Fr.refl w6).alloc _
    have hf37 := ((hf35.trans hfA).trans hf6).trans hfB
    have HT7 := hid (HT.out _ _ _ _ (ho6.fr hfB).see (hse.fr hf37))
    clear HInv5 HT
    go_wp2_with fail
    refine (HT7.out).mono ?_
    rintro e w8 ⟨u8, rfl, xs8, ho8, hos8, hf8⟩
    go_wp2_with fail
    go_meet
    exact ⟨xs8, hos8.sees2 ho8.see, (hf03.trans hf37).trans hf8⟩
 case rest =>
  obtain ⟨hd, hDs, hfc⟩ := hcut
  clear HId Hatk HW HPk HInv HT hse hseA hoa3 hol3 hf03 HL e1
  obtain ⟨da, dcap, hdv, _, _, _⟩ := hDs.1.shape
  have hhd : hd.length = k := by rw [hDs.2.1, hDlen]
  rw [hhd] at hdv
  subst hdv
  have HHd := hid hhd
  have HDl2 := hid hDlen
  have HNl := hid hNlen
  clear hhd hDlen hNlen
  have HP4 := hid (HPar.out wc _ _ hDs)
  clear HPar
  go_wp2_with fail
  refine (HP4.out).mono ?_
  rintro e w4 ⟨v4, rfl, xs4, ho4, hos4, hf4⟩
  have hs4 := hos4.sees2 ho4.see
  obtain ⟨ma, mcap, hmv⟩ := ho4.shape'
  subst hmv
  have hf04 := hfc.trans hf4
  have hD4 := hDs.fr hf4
  clear HP4 hDs ho4 hos4 hf4 hfc
  go_upto_region 16 with (at_make; refine wpList_make0 eHB rfl (.const (.int .i64 0)) (.tmp 100) 60 rfl Tryz.underlying60 .i64 .i64 _ n rfl rfl rfl hnb w4.heap.size (Nat.le_refl _) ?_)
  intro w5 hown5 hgr5
  have hf45 : Fr w4 w5 := (grown_chg hgr5).fr (fun k hk e => by cases e)
  have hRow := rows_app hD4 hs4
  rw [← HNow.out] at hRow
  have hD5 := hD4.fr hf45
  have hs5 := hs4.fr hf45
  have hfL : Fr w5 (w5.alloc (.cells #[.slice da k dcap, .slice ma xs4.length mcap] 60)) := (Fr.refl w5).alloc _
  have hLit := lit_seesH w5 ⟨da, k, dcap⟩ ⟨ma, xs4.length, mcap⟩ hd xs4 hD5.1 hs5.1
  have hlen4 := hs4.2.1
  have HC := hid (HConcat_any _ _ _ _ hLit (by
   have h1 := HHd.out
   have h2 := HNl.out
   have h3 := HDl2.out
   rw [HNow.out, List.length_append] at h2
   simp
   omega))
  have HLx := hid hlen4
  clear hlen4 hLit
  have hLL : (hd ++ xs4).length = Now.length := by rw [HNow.out, List.length_append, List.length_append, hD4.2.1, hs4.2.1]
  have hf6 := hf45.trans hfL
  have ho6 := hown5.fr hfL
  clear hD5 hs5 hfL hown5 hD4 hs4 hgr5 hf45
  go_wp2_with fail
  refine (HC.out).mono ?_
  rintro e w7 ⟨v7, rfl, hc7, hf7⟩
  simp only [List.flatten_cons, List.flatten_nil, List.append_nil] at hc7
  have hap7 := apart_of ho6 hc7 (Nat.le_refl _)
  have ho7 := ho6.fr hf7
  have hf47 := hf6.trans hf7
  generalize (w5.alloc (.cells #[.slice da k dcap, .slice ma xs4.length mcap] 60)).heap.size = b7 at *
  have hALl : (hd ++ xs4).length = n := by rw [hLL]; exact HNl.out
  have HALl := hid hALl
  clear hLL
  generalize hd ++ xs4 = AL at *
  obtain ⟨a7, c7, hv7⟩ := hc7.shape'
  rw [hALl] at hv7
  subst hv7
  clear hALl HC ho6 hf7 HLx HHd HDl2 HNow hDall
  have HZ : Hid (Now.take 0 = []) := rfl
  have HS04 := hid hf04.size
  go_wp2_with fail
  go_loopw [21, 107] (fun ov iv wr => ∃ (i : Nat) (xs : List Hd), i ≤ n ∧ iv = N i ∧ Ow wr w4.heap.size eHB ov xs ∧ Owns wr w.heap.size eB xs (Now.take i) ∧ xs.length = i ∧ Fr w4 wr ∧ Ow wr b7 eHB (.slice a7 n c7) AL ∧ ((Value.slice a7 n c7).ownBlock = none ∨ (Value.slice a7 n c7).ownBlock ≠ ov.ownBlock)) (fun _ iv _ => n - (intOf iv).toNat)
  case atStart => exact ⟨0, [], Nat.zero_le _, rfl, ho7, ⟨rfl, fun t h => by simp at h⟩, rfl, hf47, hc7, hap7⟩
  case round =>
   clear ho7 hf47 hc7 hap7
   obtain ⟨i, xs, hi, rfl, hO, hOs, hxl, hf, hA, hne⟩ := hrel
   by_cases hlt : i < n
   · have hltA : i < AL.length := by have := HALl.out; omega
     have hltN : i < Now.length := by have := HNl.out; omega
     obtain ⟨b9, off9, cp9, hv9, e9⟩ := hA.see.cell1 (fun (h : Hd) => h.v) rfl i hltA
     have hrow := (hRow i hltA hltN).fr hf
     have hrl := hNall _ (List.getElem_mem hltN)
     have HCl := hid (BClone_any _ _ wr hrow (by omega))
     have HTk : Hid (Now.take (i + 1) = Now.take i ++ [Now[i]]) := by show _ = _; rw [List.take_add_one, List.getElem?_eq_getElem hltN]; rfl
     simp only [Value.slice.injEq] at hv9
     obtain ⟨rfl, hk9, rfl⟩ := hv9
     clear hk9 hrow hrl
     generalize AL[i] = h9 at *
     generalize Now[i] = row at *
     obtain ⟨oa, oc, hov⟩ := hO.shape'
     have HXl := hid hxl
     rw [hxl] at hov
     subst hov
     clear hxl
     have i1 : (0 : Int) ≤ i := by omega
     have i2 : (i : Int) < n := by omega
     have hw8 : w.heap.size ≤ wr.heap.size := by have h1 := HS04.out; have h2 := hf.size; omega
     go_wp2_with fail
     refine (HCl.out).mono ?_
     rintro e w8 ⟨v8, rfl, hO8, hf8⟩
     obtain ⟨va8, vc8, hv8⟩ := hO8.shape'
     subst hv8
     have hO9 := hO.fr hf8
     have hOs9 := hOs.fr hf8
     have hA9 := hA.fr hf8
     have hf9 := hf.trans hf8
     go_wp2_with (at_builtin; refine wpList_app1 eHB rfl (.tmp 111) (.tmp 114) 60 rfl Tryz.underlying60 w4.heap.size rfl hO9 [⟨va8, row.length, vc8⟩] _ _ _ rfl rfl rfl ?c1 hf9.size ?_)
     case c1 => rw [HXl.out]; simp; omega
     intro v' w10 hap
     obtain ⟨X2, hX2⟩ : ∃ q, q = xs ++ [(⟨va8, row.length, vc8⟩ : Hd)] := ⟨_, rfl⟩
     have own10 := hap.own
     rw [← hX2] at own10
     have hOs10 := (hOs9.app hO9 hap (by decide)).snoc (x := ⟨va8, row.length, vc8⟩) (own_app (hO8.rebase hw8) hO9 hap (by decide))
     rw [← hX2, ← HTk.out] at hOs10
     have hX2l : X2.length = i + 1 := by rw [hX2, List.length_append, HXl.out]; rfl
     have hf10 : Fr w4 w10 := hap.below hO9 hf9 (Nat.le_refl _) hf9.size
     have hA10 := hap.other hA9 hne
     have hne10 := hap.apart hA9 hne
     obtain ⟨va10, vc10, hv10⟩ := own10.shape'
     have HX2l := hid hX2l
     rw [hX2l] at hv10
     subst hv10
     clear hX2 hap hO9 hOs9 hX2l
     go_wp2_with fail
     go_roundw
     case rel => exact ⟨i + 1, X2, by omega, by go_num, own10, hOs10, HX2l.out, hf10, hA10, hne10⟩
     case measure => simp [intOf]; omega
   · obtain rfl : n = i := by omega
     rw [List.take_of_length_le (by rw [HNl.out]; exact Nat.le_refl _)] at hOs
     have hnl : ¬ ((n : Int) < n) := by omega
     obtain ⟨oa, oc, hov⟩ := hO.shape'
     rw [hxl] at hov
     subst hov
     clear hxl
     go_wp2_with fail
     go_ret2
     exact ⟨_, rfl, xs, hO.rebase HS04.out, hOs, hf04.trans hf⟩
set_option maxRecDepth 512
structure RdAt (w : World) (B base k m c : Nat) (ov : Value) (out : List UInt8) (bv : Value) (bad : List Nat) (n : Nat) : Prop where
 h : w.heap[B]? = some (.cells #[N k, N m, N c, ov, bv, N n] 98 (0, 0))
 o : Ow w base eB ov out
 b : Ow w base eJ bv bad
theorem RdAt.fr {w w' : World} {B base k m c n : Nat} {ov bv : Value} {out : List UInt8} {bad : List Nat} (h : RdAt w B base k m c ov out bv bad n) (hf : Fr w w') : RdAt w' B base k m c ov out bv bad n := ⟨hf.heap h.h, h.o.fr hf, h.b.fr hf⟩
set_option maxRecDepth 100000
theorem part_any (B base k m c n : Nat) (ov bv v : Value) (out l : List UInt8) (bad : List Nat) (w : World) (hR : RdAt w B base k m c ov out bv bad n) (hs : See w eB v l) (h4 : 4 ≤ l.length) (hl : l.length ≤ 5000) (hn : n ≤ 100000) (hbl : bad.length ≤ 100000) (hb : base ≤ w.heap.size) (ht : Crc w) :
  Calls Tryz.prog 96 #[.pointer (some ⟨B, 0, none⟩), v] w fun e w' => ∃ u, e = .returned (.tuple #[u, .bool (okCut l)]) ∧ Ow w' w.heap.size eB u (cutB l) ∧ ∃ bv', RdAt w' B base k m c ov out bv' (if okCut l then bad else bad ++ [n]) (n + 1) ∧ Chg (fun k => k = B ∨ bv.ownBlock = some k) w w' ∧ (∀ b, bv'.ownBlock = some b → bv.ownBlock = some b ∨ w.heap.size ≤ b) := by
 have HC := hid (Cut_any v l w hs (by omega) ht)
 have HE : Hid (errCut l = if okCut l then 0 else 5) := by show _ = _; unfold errCut; simp [show ¬ l.length < 4 by omega]
 rw [HE.out] at HC
 obtain ⟨h0, ho, hbad⟩ := hR
 have hBo : ov.ownBlock ≠ some B := ho.ne_cells h0 (by decide)
 have hBb : bv.ownBlock ≠ some B := hbad.ne_cells h0 (by decide)
 have hbB : bv.ownBlock = none ∨ bv.ownBlock ≠ ov.ownBlock := own_ne hbad ho (by decide)
 obtain ⟨pa, pc, hpv⟩ := hbad.shape'
 subst hpv
 clear HE
 generalize cutB l = q at *
 generalize okCut l = ok at *
 go_enter Tryz.func96, Tryz.ntmps96
 go_wp2_with fail
 refine (HC.out).mono ?_
 rintro e w1 ⟨u, rfl, hu, hf1⟩
 have h1 := hf1.heap h0
 have ho1 := ho.fr hf1
 have hb1 := hbad.fr hf1
 have hs1 : base ≤ w1.heap.size := Nat.le_trans hb hf1.size
 have c2 : w1.cell? ⟨B, 4, none⟩ = some (.slice pa bad.length pc) := by rw [cell_of_heap h1]; rfl
 have c3 : w1.cell? ⟨B, 5, none⟩ = some (N n) := by rw [cell_of_heap h1]; rfl
 have z2 := frozen_of_heap h1 4
 have hbw : ∀ i, (Value.slice pa bad.length pc).ownBlock = some i → i < w.heap.size := fun i hi => (hbad.lt i hi).2
 have hBw : B < w.heap.size := (Array.getElem?_eq_some_iff.1 h0).1
 clear HC h0 ho hbad hs ht
 go_upto_if 14 with fail
 go_cut [] from 13 to 28 (fun wx => ∃ bv', wx.heap[B]? = some (.cells #[N k, N m, N c, ov, bv', N n] 98 (0, 0)) ∧ Ow wx base eJ bv' (if ok then bad else bad ++ [n]) ∧ Chg (fun k => k = B ∨ (Value.slice pa bad.length pc).ownBlock = some k) w1 wx ∧ (∀ b, bv'.ownBlock = some b → (Value.slice pa bad.length pc).ownBlock = some b ∨ w1.heap.size ≤ b))
 case first =>
  cases ok
  · have HC1 : Hid (bad.length + [n].length ≤ 2147483648) := by show _ ≤ _; simp; omega
    have hD := hb1.drew
    have HSZ : Hid (base ≤ w1.drew.heap.size) := hs1
    have hgb : ∀ i, (Value.slice pa bad.length pc).ownBlock = some i → base ≤ i := fun i hi => (hb1.lt i hi).1
    have hfa : Fr w1 (w1.alloc (.cells #[N n] 3)) := (Fr.refl w1).alloc _
    have c2a := hfa.cell c2
    have c3a := hfa.cell c3
    clear ho1 hfa
    go_upto_region 3 with fail
    go_region_law (refine step_app1d eJ rfl (.tmp 19) (.tmp 24) 50 rfl Tryz.underlying50 base rfl hD [n] _ _ _ rfl rfl rfl HC1.out HSZ.out ?_
                   intro v' w4 hap
                   have own4 := hap.own
                   have HA4 : Hid (Chg (fun k => (Value.slice pa bad.length pc).ownBlock = some k) w1 w4) := hap.chg'
                   have HN4 : Hid (∀ b, v'.ownBlock = some b → (Value.slice pa bad.length pc).ownBlock = some b ∨ w1.heap.size ≤ b) := hap.fresh
                   have k0 := hap.chg'.heap (show w1.drew.heap[B]? = _ from h1) hBb
                   have e3 : w4.cell? ⟨B, 4, none⟩ = some (.slice pa bad.length pc) := by rw [cell_of_heap k0]; rfl
                   have e4 : w4.frozen? ⟨B, 4, none⟩ = false := frozen_of_heap k0 4
                   clear hap
                   obtain ⟨va, vc, hv'⟩ := own4.shape'
                   subst hv')
    all_goals go_wp2_with fail
    all_goals go_meet
    all_goals refine ⟨.slice va (bad.length + 1) vc, ?_, ?_, (HA4.out.mono (fun k _ h => Or.inr h)).trans (setCell_chg w4 ⟨B, 4, none⟩ _) (fun k _ h => Or.inl h), fun b hb => HN4.out b (by simpa using hb)⟩
    all_goals first
     | (have hk := heap_setCell_own k0 4 (.slice va (bad.length + 1) vc); simpa using hk)
     | (have ho9 := own4.chg (setCell_chg w4 ⟨B, 4, none⟩ (.slice va (bad.length + 1) vc)) (fun k hk e => (own4.ne_cells k0 (by decide)) (by rw [hk, show k = B from e])); simpa using ho9)
  · go_wp2_with fail
    go_meet
    exact ⟨_, h1, hb1, Chg.refl _ _, fun b h => .inl h⟩
 case rest =>
  obtain ⟨bv', h2, hb2, hc2, hn2⟩ := hcut
  have hf1s := hf1.size
  have hcw : ∀ i, (i = B ∨ (Value.slice pa bad.length pc).ownBlock = some i) → i < w.heap.size := fun i e => by
   rcases e with e | e
   · rw [e]; exact hBw
   · exact hbw i e
  have hu2 := hu.chg hc2 (fun i hi e => by have h8 := (hu.lt i hi).1; have h9 := hcw i e; omega)
  have ho2 := ho1.chg hc2 (fun i hi e => by
   rcases e with e | e
   · exact hBo (by rw [hi, e])
   · rcases hbB with h | h
     · rw [h] at e; cases e
     · exact h (e.trans hi.symm))
  obtain ⟨ua, uc, hu9⟩ := hu2.shape'
  subst hu9
  have d5 : wc.cell? ⟨B, 5, none⟩ = some (N n) := by rw [cell_of_heap h2]; rfl
  have z5 := frozen_of_heap h2 5
  have hst := setCell_chg wc ⟨B, 5, none⟩ (.int .i64 ((n : Int) + 1))
  have h3 := heap_setCell_own h2 5 (.int .i64 ((n : Int) + 1))
  have hBu : (Value.slice ua q.length uc).ownBlock ≠ some B := hu2.ne_cells h2 (by decide)
  have hBb2 : bv'.ownBlock ≠ some B := hb2.ne_cells h2 (by decide)
  have hu3 := hu2.chg hst (fun i hi e => hBu (by rw [hi, show i = B from e]))
  have ho3 := ho2.chg hst (fun i hi e => hBo (by rw [hi, show i = B from e]))
  have hb3 := hb2.chg hst (fun i hi e => hBb2 (by rw [hi, show i = B from e]))
  clear hu hu2 ho1 ho2 hb1 hb2 h1 c2 c3 z2
  cases ok
  · go_wp2_with fail
    go_ret2
    exact ⟨_, rfl, hu3, bv', ⟨h3, ho3, hb3⟩, ((hf1.chg _).trans hc2 (fun _ _ h => h)).trans hst (fun _ _ h => .inl h), fun b hb => (hn2 b hb).imp id (fun h => by omega)⟩
  · go_wp2_with fail
    go_ret2
    exact ⟨_, rfl, hu3, bv', ⟨h3, ho3, hb3⟩, ((hf1.chg _).trans hc2 (fun _ _ h => h)).trans hst (fun _ _ h => .inl h), fun b hb => (hn2 b hb).imp id (fun h => by omega)⟩
set_option maxRecDepth 512
end Go.Proofs.YtfhdgenlpmlajaaGreatDoor
