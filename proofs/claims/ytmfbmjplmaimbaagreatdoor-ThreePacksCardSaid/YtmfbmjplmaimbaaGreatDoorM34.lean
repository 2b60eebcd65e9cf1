/- Parts of the proof of ThreePacks: H3 K7. -/
import Derived.Test.YtmfbmjplmaimbaaGreatDoorM08
import Derived.Test.YtmfbmjplmaimbaaGreatDoorM33
import Derived.Test.YtmfbmjplmaimbaaGreatDoorM12
import Derived.Test.YtmfbmjplmaimbaaGreatDoorM06
import Derived.Test.YtmfbmjplmaimbaaGreatDoorM26
set_option linter.unusedVariables false
set_option linter.unusedSectionVars false
set_option linter.unusedSimpArgs false
set_option maxHeartbeats 8000000
namespace Go.Proofs.YtmfbmjplmaimbaaGreatDoor
open Go.RowKit Go.Fk
set_option maxRecDepth 100000
theorem RHNew_any (v : Value) (lens : List UInt8) (w : World) (hs : See w eB v lens) (hn : lens.length ≤ 300) (hpos : 0 < lens.length) (h15 : ∀ c ∈ lens, c.toNat ≤ 15) (hok : okK lens = true) :
  Calls Tryz.prog 158 #[v] w fun e w' => ∃ lv cv, e = .returned (.tuple #[.agg #[lv, cv], .int .i64 0]) ∧ Ow w' w.heap.size eB lv lens ∧ Ow w' w.heap.size eU cv (codesK lens) ∧ Fr w w' := by
 have HC := hid (fun W h => RCodes_any v lens W h hn hpos h15)
 have HS := hid (fun W (h : Fr w W) => hs.fr h)
 obtain ⟨a, cap, hv, hcap1, hcap2, hnone⟩ := hs.shape
 subst hv
 unfold maxLen at hcap2
 clear hs
 have hf0 : Fr w (w.alloc (.cells #[.slice none 0 0, .slice none 0 0] 208)) := (Fr.refl w).alloc _
 have hg0 : (w.alloc (.cells #[.slice none 0 0, .slice none 0 0] 208)).heap[w.heap.size]? = some (.cells #[.slice none 0 0, .slice none 0 0] 208 (0, 0)) := heap_new _ _ _ rfl
 have HC0 := hid (HC.out _ (HS.out _ hf0))
 go_enter Tryz.func158, Tryz.ntmps158
 go_wp2_with fail
 refine HC0.out.mono ?_
 rintro e w1 ⟨ht, _, hf1⟩
 obtain ⟨cv, rfl, hcv⟩ := ht hok
 have hf01 := hf0.trans hf1
 have hg1 := hf1.heap hg0
 have hal : Ow (w1.alloc (.cells #[] 5)) w1.heap.size eB (.slice (some ⟨w1.heap.size, 0, none⟩) 0 0) [] := own_lit eB w1 #[] [] 0 rfl (by simp [maxLen]) (Nat.le_refl _)
 have hsl := (HS.out w1 hf01).fr ((Fr.refl w1).alloc (.cells #[] 5))
 have hc0 : ([] : List UInt8).length + lens.length ≤ 2147483648 := by simp; omega
 clear hf0 hg0 hok
 go_wp2_with (at_builtin; refine wpList_app eB rfl (.tmp 15) (.tmp 16) 31 rfl Tryz.underlying31 w1.heap.size rfl hal _ _ rfl hsl hc0 ((Fr.refl w1).alloc _).size ?_)
 intro lv w4 hap
 have hf14 : Fr w1 w4 := hap.below hal ((Fr.refl w1).alloc _) (Nat.le_refl _) ((Fr.refl w1).alloc _).size
 have hf2 : Fr w w4 := hf01.trans hf14
 have hg4 := hf14.heap hg1
 have hcv4 := (hcv.fr hf14).rebase (show w.heap.size ≤ _ by simp)
 have hlv := hap.own.rebase hf01.size
 obtain ⟨la, lc, hlv'⟩ := hlv.shape'
 subst hlv'
 obtain ⟨ca, cc, hcv'⟩ := hcv4.shape'
 subst hcv'
 have e0 : w4.cell? ⟨w.heap.size, 0, none⟩ = some (.slice none 0 0) := by rw [cell_of_heap hg4]; rfl
 have e1 : w4.cell? ⟨w.heap.size, 1, none⟩ = some (.slice none 0 0) := by rw [cell_of_heap hg4]; rfl
 have f0 : w4.frozen? ⟨w.heap.size, 0, none⟩ = false := frozen_of_heap hg4 0
 have f1 : w4.frozen? ⟨w.heap.size, 1, none⟩ = false := frozen_of_heap hg4 1
 clear hap hal hsl hcv
 go_wp2_with fail
 rw [codesK_len]
 have h1 : ((w4.setCell ⟨w.heap.size, 0, none⟩ (.slice la lens.length lc)).setCell ⟨w.heap.size, 1, none⟩ (.slice ca lens.length cc)).heap[w.heap.size]? = some (.cells #[.slice la lens.length lc, .slice ca lens.length cc] 208 (0, 0)) :=
  heap_setCell_own (heap_setCell_own hg4 0 _) 1 _
 have hn0 := hlv.ne_cells hg4 (by decide)
 have hn1 := hcv4.ne_cells hg4 (by decide)
 have hch : Chg (fun k => k = w.heap.size) w4 ((w4.setCell ⟨w.heap.size, 0, none⟩ (.slice la lens.length lc)).setCell ⟨w.heap.size, 1, none⟩ (.slice ca lens.length cc)) :=
  (setCell_chg w4 ⟨w.heap.size, 0, none⟩ _).trans (setCell_chg _ ⟨w.heap.size, 1, none⟩ _) (fun _ _ h => h)
 rw [codesK_len] at hcv4 hn1
 have ho0 := hlv.chg hch (fun k hk e => hn0 (by rw [hk, e]))
 have ho1 := hcv4.chg hch (fun k hk e => hn1 (by rw [hk, e]))
 have hfE : Fr w _ := Chg.below hf2 hch hf2.size (fun k hk => Nat.le_of_eq hk.symm)
 exact bodyPost_ret (v := .tuple #[.agg #[.slice la lens.length lc, .slice ca lens.length cc], .int .i64 0]) (results_cell_tmp Tryz.results158 _ _ w.heap.size 208 _ (0, 0) _ _ rfl rfl h1 Tryz.underlying208 rfl (by kernel_rfl)) rfl ⟨_, _, rfl, ho0, ho1, hfE⟩
theorem RHNew_no (v : Value) (lens : List UInt8) (w : World) (hs : See w eB v lens) (hn : lens.length ≤ 300) (hpos : 0 < lens.length) (h15 : ∀ c ∈ lens, c.toNat ≤ 15) (hok : okK lens = false) :
  Calls Tryz.prog 158 #[v] w fun e w' => e = .returned (.tuple #[.agg #[.slice none 0 0, .slice none 0 0], .int .i64 7]) ∧ Fr w w' := by
 have HC := hid (fun W h => RCodes_any v lens W h hn hpos h15)
 have HS := hid (fun W (h : Fr w W) => hs.fr h)
 clear hs
 have hf0 : Fr w (w.alloc (.cells #[.slice none 0 0, .slice none 0 0] 208)) := (Fr.refl w).alloc _
 have hg0 : (w.alloc (.cells #[.slice none 0 0, .slice none 0 0] 208)).heap[w.heap.size]? = some (.cells #[.slice none 0 0, .slice none 0 0] 208 (0, 0)) := heap_new _ _ _ rfl
 have HC0 := hid (HC.out _ (HS.out _ hf0))
 go_enter Tryz.func158, Tryz.ntmps158
 go_wp2_with fail
 refine HC0.out.mono ?_
 rintro e w1 ⟨_, ht, hf1⟩
 obtain rfl := ht hok
 have hf01 := hf0.trans hf1
 have hg1 := hf1.heap hg0
 have e0 : w1.cell? ⟨w.heap.size, 0, none⟩ = some (.slice none 0 0) := by rw [cell_of_heap hg1]; rfl
 have e1 : w1.cell? ⟨w.heap.size, 1, none⟩ = some (.slice none 0 0) := by rw [cell_of_heap hg1]; rfl
 have f0 : w1.frozen? ⟨w.heap.size, 0, none⟩ = false := frozen_of_heap hg1 0
 have f1 : w1.frozen? ⟨w.heap.size, 1, none⟩ = false := frozen_of_heap hg1 1
 clear hf0 hg0 hok
 go_wp2_with fail
 have h1 : ((w1.setCell ⟨w.heap.size, 0, none⟩ (.slice none 0 0)).setCell ⟨w.heap.size, 1, none⟩ (.slice none 0 0)).heap[w.heap.size]? = some (.cells #[.slice none 0 0, .slice none 0 0] 208 (0, 0)) :=
  heap_setCell_own (heap_setCell_own hg1 0 _) 1 _
 have hch : Chg (fun k => k = w.heap.size) w1 ((w1.setCell ⟨w.heap.size, 0, none⟩ (.slice none 0 0)).setCell ⟨w.heap.size, 1, none⟩ (.slice none 0 0)) :=
  (setCell_chg w1 ⟨w.heap.size, 0, none⟩ _).trans (setCell_chg _ ⟨w.heap.size, 1, none⟩ _) (fun _ _ h => h)
 have hfE : Fr w _ := Chg.below hf01 hch hf01.size (fun k hk => Nat.le_of_eq hk.symm)
 exact bodyPost_ret (v := .tuple #[.agg #[.slice none 0 0, .slice none 0 0], .int .i64 7]) (results_cell_tmp Tryz.results158 _ _ w.heap.size 208 _ (0, 0) _ _ rfl rfl h1 Tryz.underlying208 rfl (by kernel_rfl)) rfl ⟨rfl, hfE⟩
theorem RHPut_nil (p : Value) (s : Nat) (w : World) (hs : s ≤ 1000000) :
  Calls Tryz.prog 160 #[.agg #[.slice none 0 0, .slice none 0 0], p, N s] w fun e w' => e = .returned (.int .i64 13) ∧ Fr w w' := by
 have i1 : ¬ (s : Int) < 0 := by omega
 have i2 : (0 : Int) ≤ s := by omega
 go_enter Tryz.func160, Tryz.ntmps160
 go_wp2_with fail
 go_ret
 exact ⟨rfl, (Fr.refl w).alloc _⟩
theorem RHPut_any (lens : List UInt8) (b2 b3 : Nat) (lv cv : Value) (s : Nat) (base g : Nat) (T : TypeId) (bv : Value) (l : List UInt8) (w : World) (hlv : Ow w b2 eB lv lens) (hcv : Ow w b3 eU cv (codesK lens)) (hW : WrR w base g T bv l)
  (hn : lens.length ≤ 300) (h15 : ∀ c ∈ lens, c.toNat ≤ 15) (hok : okK lens = true) (hs : s ≤ 1000000) (hl : l.length ≤ 900000000) (hsz : base ≤ w.heap.size) :
  Calls Tryz.prog 160 #[.agg #[lv, cv], .pointer (some ⟨g, 0, none⟩), N s] w fun e w' => e = .returned (.int .i64 (if symL lens s = 0 then 13 else 0)) ∧ ∃ bv', WrR w' base g T bv' (l ++ bitK lens s) ∧ WSt g bv bv' w w' := by
 have HPut := hid (fun x n hn hx bv' m W hW hm hb => Rput_any x n hn hx base g T bv' m W hW hm hb)
 obtain ⟨la, lc, rfl⟩ := hlv.shape'
 obtain ⟨ca, cc, hcv'⟩ := hcv.shape'
 rw [codesK_len] at hcv'
 subst hcv'
 have hs0 := hlv.see
 have hs1 := hcv.see
 obtain ⟨_, _, hv, hcap1, hcap2, hnone⟩ := hs0.shape
 cases hv
 unfold maxLen at hcap2
 have hfA : Fr w (w.alloc (.cells #[.slice la lens.length lc, .slice ca lens.length cc] 208)) := (Fr.refl w).alloc _
 have hgA : (w.alloc (.cells #[.slice la lens.length lc, .slice ca lens.length cc] 208)).heap[w.heap.size]? = some (.cells #[.slice la lens.length lc, .slice ca lens.length cc] 208 (0, 0)) := heap_new _ _ _ rfl
 have i1 : ¬ (s : Int) < 0 := by omega
 by_cases hlt : s < lens.length
 · obtain ⟨b, off, cap', hv', c0⟩ := bAt hs0 s hlt
   cases hv'
   have hsy := symL_at lens s hlt
   have hcl := hid (fun h0 => code_lt lens hok h15 s hlt h0)
   have hlc : s < (codesK lens).length := by rw [codesK_len]; exact hlt
   have h16 := code16 lens s hlc
   have hl15 := h15 _ (List.getElem_mem hlt)
   have hzz := hid (u8_zero lens[s])
   obtain ⟨b1, off1, cap1', hv1', c1⟩ := hs1.cell1 (fun n => Value.int .u16 (n : Int)) rfl s hlc
   rw [codesK_len] at hv1'
   cases hv1'
   have HPK : Hid (lens[s] ≠ 0 → bitK lens s = bitsL (codesK lens)[s] lens[s].toNat) := fun h0 => by
    rw [bitK_some lens s (by rw [hsy]; exact fun e => h0 (hzz.out.2 e)), codesK_get lens s hlt, hsy]
   have HPN : Hid (lens[s] = 0 → bitK lens s = []) := fun h0 => bitK_none lens s (by rw [hsy, h0]; rfl)
   rw [hsy]
   generalize lens[s] = x at *
   replace c0 : w.cell? ⟨b, off + s, none⟩ = some (.int .u8 ((x.toNat : Nat) : Int)) := c0
   generalize (codesK lens)[s] = q at *
   replace c1 : w.cell? ⟨b1, off1 + s, none⟩ = some (.int .u16 (q : Int)) := c1
   have i2 : ¬ (lens.length : Int) ≤ s := by omega
   have i3 : (s : Int) < lens.length := by omega
   have i4 : (0 : Int) ≤ s := by omega
   replace c0 := hfA.cell c0
   replace c1 := hfA.cell c1
   by_cases hx : x = 0
   · have hcn : x.toNat = 0 := by rw [hx]; rfl
     have HE := hid (HPN.out hx)
     generalize x.toNat = cn at *
     subst hcn
     rw [HE.out, List.append_nil]
     have hW2 : WrR _ base g T bv l := ⟨hfA.heap hW.1, hW.2.1.fr hfA, hW.2.2⟩
     clear hlv hcv hs0 hs1 hcl hzz HPK HPN hW hgA
     go_enter Tryz.func160, Tryz.ntmps160
     go_wp2_with fail
     go_ret
     exact ⟨by simp, bv, hW2, (WSt.refl g bv w).frR hfA⟩
   · have hcn : x.toNat ≠ 0 := fun e => hx (hzz.out.2 e)
     have HE := hid (HPK.out hx)
     have hcl1 := hcl.out hx
     rw [HE.out, if_neg hcn]
     generalize x.toNat = cn at *
     have hz' : ¬ (cn : Int) = 0 := by omega
     have hzb : ((cn : Int) == 0) = false := by simp [hcn]
     have hqw : IntKind.u64.wrap (q : Int) = (q : Int) := IntWalk.u64_in _ (by omega)
     have hcw : IntKind.i64.wrap (cn : Int) = (cn : Int) := IntWalk.i64_in _ (by omega)
     have hfA2 := hfA.drewN 1
     have HP := hid (HPut.out q cn (by omega) hcl1 bv l _ (⟨hfA2.heap hW.1, hW.2.1.fr hfA2, hW.2.2⟩ : WrR ((w.alloc (.cells #[.slice (some ⟨b, off, none⟩) lens.length lc, .slice (some ⟨b1, off1, none⟩) lens.length cc] 208)).drewN 1) base g T bv l) (by omega) (Nat.le_trans hsz hfA2.size))
     have HWS : Hid (∀ bv' w', WSt g bv bv' _ w' → WSt g bv bv' w w') := fun bv' w' h => WSt.fr hfA2 h
     clear hlv hcv hs0 hs1 hcl hzz HPK HPN hW hgA hcl1 hfA2
     go_enter Tryz.func160, Tryz.ntmps160
     go_upto_region 3 with fail
     go_region_with (go_at_call 129; refine HP.out.mono ?_; rintro e w1 ⟨rfl, bv', hW', hst⟩)
     all_goals go_wp2_with fail
     all_goals go_ret
     all_goals exact ⟨rfl, bv', hW', HWS.out _ _ hst⟩
 · rw [symL_out lens s (by omega), bitK_none lens s (symL_out lens s (by omega)), List.append_nil]
   have i2 : (lens.length : Int) ≤ s := by omega
   have hW2 : WrR _ base g T bv l := ⟨hfA.heap hW.1, hW.2.1.fr hfA, hW.2.2⟩
   clear hlv hcv hs0 hs1 hW hgA
   go_enter Tryz.func160, Tryz.ntmps160
   go_wp2_with fail
   go_ret
   exact ⟨by simp, bv, hW2, (WSt.refl g bv w).frR hfA⟩
set_option maxRecDepth 512
set_option maxRecDepth 100000
theorem RKWrite_any (v : Value) (lens : List UInt8) (b2 : Nat) (base g : Nat) (T : TypeId) (hT : T ≠ (eB : Elt Tryz.prog UInt8).e) (bv : Value) (l : List UInt8) (w : World) (h : WrR w base g T bv l)
  (hs : Ow w b2 eB v lens) (hap : v.ownBlock = none ∨ v.ownBlock ≠ bv.ownBlock) (hn : lens.length ≤ 300) (h15 : ∀ c ∈ lens, c.toNat ≤ 15) (hok : okK lens = true) (hl : l.length ≤ 900000000) (hsz : base ≤ w.heap.size) :
  Calls Tryz.prog 157 #[.pointer (some ⟨g, 0, none⟩), v] w fun e w' => e = .returned (.int .i64 0) ∧ ∃ bv', WrR w' base g T bv' (l ++ wrGo lens) ∧ WSt g bv bv' w w' := by
 obtain ⟨a, cap, hv, hcap1, hcap2, hnone⟩ := hs.see.shape
 subst hv
 unfold maxLen at hcap2
 have HCk := hid (RKCheck_any _ lens w hs.see hn h15)
 rw [hok] at HCk
 have hvg := hs.ne_cells h.1 hT
 have HSee : Hid (∀ W bv', WSt g bv bv' w W → See W eB (.slice a lens.length cap) lens) := fun W bv' hst =>
  (hs.chg hst.1 fun k hk e => by
   rcases e with e | e
   · rw [e] at hk; exact hvg hk
   · rcases hap with h1 | h1
     · rw [h1] at hk; cases hk
     · exact h1 (hk.trans e.symm)).see
 have HPut := hid (fun x n hn hx bv' m W hW hm hb => Rput_any x n hn hx base g T bv' m W hW hm hb)
 have HWl := hid (wrGo_len lens.length lens (Nat.le_refl _))
 go_enter Tryz.func157, Tryz.ntmps157
 go_wp2_with fail
 refine HCk.out.mono ?_
 rintro e w1 ⟨rfl, hf1⟩
 have HSt0 : Hid (WSt g bv bv w w1) := (WSt.refl g bv w).frR hf1
 have HW0 : Hid (WrR w1 base g T bv l) := ⟨hf1.heap h.1, h.2.1.fr hf1, h.2.2⟩
 clear h hs
 go_wp2_with fail
 go_loopw [5] (fun iv wr => ∃ (i : Nat) (bv' : Value) (m : List UInt8), i ≤ lens.length ∧ iv = N i ∧ WrR wr base g T bv' m ∧ WSt g bv bv' w wr ∧ m.length ≤ l.length + 10 * i ∧ Hid (l ++ wrGo lens = m ++ wrGo (lens.drop i))) (fun iv _ => lens.length - (intOf iv).toNat)
 case atStart => exact ⟨0, bv, l, Nat.zero_le _, rfl, HW0.out, HSt0.out, by omega, rfl⟩
 case round =>
  obtain ⟨i, bv', m, hi, rfl, hW, hst, hml, HE⟩ := hrel
  have hszr := Nat.le_trans hsz hst.1.size
  by_cases hlt : i < lens.length
  · obtain ⟨b, off, cap', hv, c0⟩ := bAt (HSee.out wr bv' hst) i hlt
    have h15i := h15 _ (List.getElem_mem hlt)
    have hz := hid (u8_zero lens[i])
    have HDr := hid (List.drop_eq_getElem_cons hlt)
    generalize hc : lens[i] = c at *
    cases hv
    replace c0 : wr.cell? ⟨b, off + i, none⟩ = some (.int .u8 ((c.toNat : Nat) : Int)) := c0
    have HEone : Hid (c ≠ 0 → l ++ wrGo lens = (m ++ bitsL c.toNat 4) ++ wrGo (lens.drop (i + 1))) := fun h0 => by rw [HE.out, HDr.out, wrGo_one _ _ h0]; simp
    have HEzero : Hid (c = 0 → l ++ wrGo lens = (m ++ bitsL 0 4) ++ (bitsL (zrun (lens.drop (i + 1)) 63) 6 ++ wrGo (lens.drop (i + (zrun (lens.drop (i + 1)) 63 + 1))))) := fun h0 => by
     rw [HE.out, HDr.out, wrGo_zero _ _ h0, List.drop_drop]; simp [Nat.add_assoc, Nat.add_comm]
    generalize hcn : c.toNat = cn at *
    have i1 : (0 : Int) ≤ i := by omega
    have i2 : (i : Int) < lens.length := by omega
    have hb4 := bitsL_len cn 4
    have HP := hid (HPut.out cn 4 (by omega) (by have : (2:Nat) ^ 4 = 16 := rfl; omega) bv' m wr hW (by omega) hszr)
    have hcw : IntKind.u64.wrap (cn : Int) = cn := IntWalk.u64_in _ (by omega)
    have hml2 : (m ++ bitsL cn 4).length ≤ l.length + 10 * i + 4 := by rw [List.length_append, hb4]; omega
    have HML := hid hml2
    clear HDr HE hml2 hb4
    go_wp2_with fail
    refine HP.out.mono ?_
    rintro e w3 ⟨rfl, bv3, hW3, hst3⟩
    have hst3' := hst.trans hst3
    have hsz3 := Nat.le_trans hszr hst3.1.size
    obtain ⟨b', off', cap3, hv', c3⟩ := bAt (HSee.out w3 bv3 hst3') i hlt
    rw [hc] at c3
    cases hv'
    replace c3 : w3.cell? ⟨b, off + i, none⟩ = some (.int .u8 ((c.toNat : Nat) : Int)) := c3
    rw [hcn] at c3
    clear c0
    by_cases hc0 : cn = 0
    · have hc0' : ¬ (0 : Int) < cn := by omega
      have HE0 := hid (HEzero.out (hz.out.2 hc0))
      clear HEone HEzero hz hcn
      subst hc0
      go_wp2_with fail
      go_loopw [5, 6] (fun jv nv wx => ∃ n : Nat, n ≤ 63 ∧ i + n + 1 ≤ lens.length ∧ jv = N (i + n) ∧ nv = N n ∧ Hid (zrun (lens.drop (i + 1)) 63 = n + zrun (lens.drop (i + n + 1)) (63 - n)) ∧ w3 = wx) (fun _ nv _ => 64 - (intOf nv).toNat)
      case atStart => exact ⟨0, by omega, by omega, rfl, rfl, by show _ = _; simp, rfl⟩
      case round =>
       obtain ⟨n, hn1, hn2, rfl, rfl, HZ, rfl⟩ := hrel
       obtain ⟨Z, hZ⟩ : ∃ Z, Z = zrun (lens.drop (i + n + 1)) (63 - n) := ⟨_, rfl⟩
       rw [← hZ] at HZ
       have HZZ := hid hZ
       clear hZ
       go_upto_region 9 with fail
       go_cut [44] from 28 to 44 (fun cv wx => cv = .bool (decide (0 < Z)) ∧ Hid (0 < Z → n < 63 ∧ i + n + 1 < lens.length ∧ Z = zrun (lens.drop (i + (n + 1) + 1)) (63 - (n + 1)) + 1) ∧ w3 = wx)
       case first =>
        by_cases hin : i + n + 1 < lens.length
        · have k2 : (i : Int) + n + 1 < lens.length := by omega
          obtain ⟨b', off', cap3, hv', c4⟩ := bAt (HSee.out w3 bv3 hst3') (i + n + 1) hin
          have hzz := hid (u8_zero lens[i + n + 1])
          have HOn := hid (zrun_on lens (i + n + 1) (62 - n) hin)
          have HOff := hid (zrun_off lens (i + n + 1) (63 - n) hin)
          generalize hc3 : lens[i + n + 1] = c' at *
          cases hv'
          replace c4 : w3.cell? ⟨b, off + (i + n + 1), none⟩ = some (.int .u8 ((c'.toNat : Nat) : Int)) := c4
          by_cases hcz : c' = 0
          · have hcn : c'.toNat = 0 := by rw [hcz]; rfl
            generalize c'.toNat = cn' at *
            subst hcn
            by_cases h64 : n < 63
            · have k1 : (n : Int) < 63 := by omega
              have HZ1 : Hid (Z = zrun (lens.drop (i + (n + 1) + 1)) (63 - (n + 1)) + 1) := by
               show _ = _
               rw [HZZ.out, show 63 - n = 62 - n + 1 by omega, HOn.out hcz, show 62 - n = 63 - (n + 1) by omega]; rfl
              have HZd : Hid (decide (0 < Z) = true) := decide_eq_true (by rw [HZ1.out]; omega)
              clear HOn HOff
              go_wp2_with fail
              go_meet
              exact ⟨by rw [HZd.out], fun _ => ⟨h64, hin, HZ1.out⟩, rfl⟩
            · have k1 : ¬ (n : Int) < 63 := by omega
              have HZ1 : Hid (Z = 0) := by show _ = _; rw [HZZ.out, show 63 - n = 0 by omega, zrun_zero]
              have HZd : Hid (decide (0 < Z) = false) := decide_eq_false (by rw [HZ1.out]; omega)
              clear HOn HOff
              go_wp2_with fail
              go_meet
              exact ⟨by rw [HZd.out], fun h => by rw [HZ1.out] at h; omega, rfl⟩
          · have hcn : c'.toNat ≠ 0 := fun e => hcz (hzz.out.2 e)
            have HZ1 : Hid (Z = 0) := by show _ = _; rw [HZZ.out, HOff.out hcz]
            have HZd : Hid (decide (0 < Z) = false) := decide_eq_false (by rw [HZ1.out]; omega)
            generalize c'.toNat = cn' at *
            have hcn2 : decide ((cn' : Int) = 0) = false := decide_eq_false (by omega)
            clear HOn HOff
            go_wp2_with fail
            go_meet
            exact ⟨by rw [HZd.out], fun h => by rw [HZ1.out] at h; omega, rfl⟩
        · have k2 : ¬ (i : Int) + n + 1 < lens.length := by omega
          have HZ1 : Hid (Z = 0) := by show _ = _; rw [HZZ.out, zrun_end _ _ _ (by omega)]
          have HZd : Hid (decide (0 < Z) = false) := decide_eq_false (by rw [HZ1.out]; omega)
          go_wp2_with fail
          go_meet
          exact ⟨by rw [HZd.out], fun h => by rw [HZ1.out] at h; omega, rfl⟩
       case rest =>
        obtain ⟨rfl, HN, rfl⟩ := hcut
        by_cases hZp : 0 < Z
        · have hZd : decide (0 < Z) = true := decide_eq_true hZp
          obtain ⟨a1, a2, a3⟩ := HN.out hZp
          simp only [hZd]
          have HZ2 : Hid (zrun (lens.drop (i + 1)) 63 = n + 1 + zrun (lens.drop (i + (n + 1) + 1)) (63 - (n + 1))) := by show _ = _; rw [HZ.out, a3]; omega
          clear a3 HZ HZZ HN
          go_wp2_with fail
          go_roundw
          case rel => exact ⟨n + 1, by omega, by omega, by go_num, by go_num, HZ2, trivial⟩
          case measure => simp [intOf]; omega
        · have hZd : decide (0 < Z) = false := decide_eq_false hZp
          obtain rfl : Z = 0 := by omega
          simp only [hZd]
          have HZn : Hid (zrun (lens.drop (i + 1)) 63 = n) := by show _ = _; have := HZ.out; omega
          have HE1 : Hid (l ++ wrGo lens = ((m ++ bitsL 0 4) ++ bitsL n 6) ++ wrGo (lens.drop (i + n + 1))) := by
           show _ = _
           rw [HE0.out, HZn.out, show i + (n + 1) = i + n + 1 by omega]; simp
          have h6 := bitsL_len n 6
          have hcw : IntKind.u64.wrap (n : Int) = (n : Int) := IntWalk.u64_in _ (by omega)
          have hml3 := HML.out
          have HP2 := hid (HPut.out n 6 (by omega) (by have : (2:Nat) ^ 6 = 64 := rfl; omega) bv3 (m ++ bitsL 0 4) w3 hW3 (by omega) hsz3)
          have HML2 : Hid ((m ++ bitsL 0 4 ++ bitsL n 6).length ≤ l.length + 10 * (i + n + 1)) := by show _ ≤ _; rw [List.length_append, h6]; omega
          clear HZ HZZ HN hZd hZp HZn HE0 hml3 h6
          go_wp2_with fail
          refine HP2.out.mono ?_
          rintro e w4 ⟨rfl, bv4, hW4, hst4⟩
          go_wp2_with fail
          go_roundw
          case rel => exact ⟨i + n + 1, bv4, _, by omega, by go_num, hW4, hst3'.trans hst4, HML2.out, HE1⟩
          case measure => simp [intOf]; omega
    · have hc0' : (0 : Int) < cn := by omega
      have HE1 := hid (HEone.out (fun e => hc0 (hz.out.1 e)))
      have HML2 : Hid ((m ++ bitsL cn 4).length ≤ l.length + 10 * (i + 1)) := by have := HML.out; show _ ≤ _; omega
      clear HEone HEzero hz
      go_wp2_with fail
      go_roundw
      case rel => exact ⟨i + 1, bv3, _, by omega, by go_num, hW3, hst3', HML2.out, HE1⟩
      case measure => simp [intOf]; omega
  · obtain rfl : i = lens.length := by omega
    have hnl : ¬ (lens.length : Int) < lens.length := by omega
    have HE2 : Hid (l ++ wrGo lens = m) := by show _ = _; rw [HE.out, List.drop_length, wrGo_nil, List.append_nil]
    go_wp2_with fail
    go_ret
    exact ⟨rfl, bv', by rw [HE2.out]; exact hW, hst⟩
theorem RKWrite_no (v : Value) (lens : List UInt8) (g : Nat) (w : World) (hs : See w eB v lens) (hn : lens.length ≤ 300) (h15 : ∀ c ∈ lens, c.toNat ≤ 15) (hok : okK lens = false) :
  Calls Tryz.prog 157 #[.pointer (some ⟨g, 0, none⟩), v] w fun e w' => e = .returned (.int .i64 7) ∧ Fr w w' := by
 have HCk := hid (RKCheck_any _ lens w hs hn h15)
 rw [hok] at HCk
 clear hs
 go_enter Tryz.func157, Tryz.ntmps157
 go_wp2_with fail
 refine HCk.out.mono ?_
 rintro e w1 ⟨rfl, hf1⟩
 go_wp2_with fail
 go_ret
 exact ⟨rfl, hf1⟩
set_option maxRecDepth 512
end Go.Proofs.YtmfbmjplmaimbaaGreatDoor
