/- Parts of the proof of ThreePacks: L6 Q3 Q4 Q5 Q6. -/
import Derived.Test.YtmfbmjplmaimbaaGreatDoorM15
import Derived.Test.YtmfbmjplmaimbaaGreatDoorM01
set_option linter.unusedVariables false
set_option linter.unusedSectionVars false
set_option linter.unusedSimpArgs false
set_option maxHeartbeats 8000000
namespace Go.Proofs.YtmfbmjplmaimbaaGreatDoor
open Go.RowKit Go.Fk
structure ItM where
 it : It
 hd : Hd
def eRI : Elt Tryz.prog ItM := ⟨245, 2, 32, ⟨⟨0, false, []⟩, ⟨none, 0, 0⟩⟩, .agg #[.int .u64 0, .slice none 0 0], fun x => [.int .u64 (x.it.w.toNat : Int), x.hd.v], by kernel_rfl, by decide, by decide, by simp [Value.cells], fun _ => rfl, by intro x u hu; simp at hu; rcases hu with rfl | rfl <;> rfl⟩
def ValM (w : World) (ms : List ItM) : Prop := ∀ m ∈ ms, See w eJ m.hd.v m.it.syms
theorem riAt {w : World} {v : Value} {l : List ItM} (h : See w eRI v l) (k : Nat) (hk : k < l.length) :
  ∃ b off cap, v = .slice (some ⟨b, off, none⟩) l.length cap ∧ w.cell? ⟨b, off + k * 2, none⟩ = some (.int .u64 (l[k].it.w.toNat : Int)) ∧ w.cell? ⟨b, off + k * 2 + 1, none⟩ = some l[k].hd.v := by
 obtain ⟨b, off, cap, rfl, h1, h2, h3⟩ := h.cells (by intro e; simp [e] at hk)
 have e0 := h3 k hk 0 (by decide) _ rfl
 have e1 := h3 k hk 1 (by decide) _ rfl
 exact ⟨b, off, cap, rfl, by simpa [eRI] using e0, by simpa [eRI, Nat.add_assoc] using e1⟩
set_option maxRecDepth 100000
theorem RLmerge_any (va vb : Value) (ls ks : List ItM) (w : World) (ha : See w eRI va ls) (hb : See w eRI vb ks) (hn : ls.length ≤ 1000000) (hm : ks.length ≤ 2000000) :
  Calls Tryz.prog 185 #[va, vb] w fun e w' => ∃ v, e = .returned v ∧ ∃ ms, Ow w' w.heap.size eRI v ms ∧ ms.map (·.it) = mergeI (ls.map (·.it)) (ks.map (·.it)) ∧ (∀ m ∈ ms, m ∈ ls ∨ m ∈ ks) ∧ Fr w w' := by
 obtain ⟨a, cap, hv, hcap1, hcap2, hnone⟩ := ha.shape
 subst hv
 obtain ⟨a', cap', hv, hcap1', hcap2', hnone'⟩ := hb.shape
 subst hv
 unfold maxLen at hcap2 hcap2'
 have HE0 : Hid (mergeI (ls.map (·.it)) (ks.map (·.it)) = ([] : List ItM).map (·.it) ++ mergeI ((ls.drop 0).map (·.it)) ((ks.drop 0).map (·.it))) := by show _ = _; simp
 generalize mergeI (ls.map (·.it)) (ks.map (·.it)) = R at *
 go_enter Tryz.func185, Tryz.ntmps185
 go_wp2_with fail
 go_loopw [5, 6, 7] (fun ov iv kv wr => ∃ (i k : Nat) (m : List ItM), i ≤ ls.length ∧ k ≤ ks.length ∧ iv = N i ∧ kv = N k ∧ m.length ≤ i + k ∧ Ow wr w.heap.size eRI ov m ∧ Hid (R = m.map (·.it) ++ mergeI ((ls.drop i).map (·.it)) ((ks.drop k).map (·.it))) ∧ Hid (∀ x ∈ m, x ∈ ls ∨ x ∈ ks) ∧ Fr w wr) (fun _ iv kv _ => ls.length - (intOf iv).toNat + (ks.length - (intOf kv).toNat))
 case atStart => exact ⟨0, 0, [], Nat.zero_le _, Nat.zero_le _, rfl, rfl, by simp, Ow.nil, HE0, hid (fun x h => by simp at h), Fr.refl w⟩
 case round =>
  obtain ⟨i, k, m, hi, hk, rfl, rfl, hml, hO, HE, HM, hf⟩ := hrel
  have j1 : (0 : Int) ≤ i := by omega
  have j2 : (0 : Int) ≤ k := by omega
  by_cases hi1 : i < ls.length
  · have hi1' : (i : Int) < ls.length := by omega
    obtain ⟨b, off, cp, hv, c0, c1⟩ := riAt (ha.fr hf) i hi1
    have HL := hid (List.drop_eq_getElem_cons hi1)
    have HMx := hid (List.getElem_mem hi1)
    generalize ls[i] = x at *
    cases hv
    have hxb := UInt64.toNat_lt x.it.w
    have HMa : Hid (∀ y ∈ m ++ [x], y ∈ ls ∨ y ∈ ks) := fun y hy => by
     rcases List.mem_append.1 hy with h | h
     · exact HM.out y h
     · rw [List.mem_singleton.1 h]; exact .inl HMx.out
    by_cases hk1 : k < ks.length
    · have hk1' : (k : Int) < ks.length := by omega
      have hkn : ((k : Int) == ks.length) = false := by simp; omega
      have hkn2 : k ≠ ks.length := by omega
      obtain ⟨b2, off2, cp2, hv2, d0, d1⟩ := riAt (hb.fr hf) k hk1
      have HL2 := hid (List.drop_eq_getElem_cons hk1)
      have HMy := hid (List.getElem_mem hk1)
      generalize ks[k] = y at *
      cases hv2
      have hyb := UInt64.toNat_lt y.it.w
      have HU := hid (u64_le x.it.w y.it.w)
      have HMb : Hid (∀ z ∈ m ++ [y], z ∈ ls ∨ z ∈ ks) := fun z hz => by
       rcases List.mem_append.1 hz with h | h
       · exact HM.out z h
       · rw [List.mem_singleton.1 h]; exact .inr HMy.out
      by_cases hle : x.it.w ≤ y.it.w
      · have hle' : (x.it.w.toNat : Int) ≤ y.it.w.toNat := HU.out.1 hle
        have HE2 : Hid (R = (m ++ [x]).map (·.it) ++ mergeI ((ls.drop (i + 1)).map (·.it)) ((ks.drop k).map (·.it))) := by
         show _ = _; rw [HE.out, HL.out, HL2.out, List.map_cons, List.map_cons, mergeI, if_pos hle]; simp
        clear HE HL HL2 HU hle HM HMb
        go_upto_region 4 with fail
        go_quiet (fail)
        have hO2 := hO.fr ((Fr.refl wr).drewN nq)
        have hf2 := hf.trans ((Fr.refl wr).drewN nq)
        replace c0 := ((Fr.refl wr).drewN nq).cell c0
        replace c1 := ((Fr.refl wr).drewN nq).cell c1
        clear hO hf d0 d1
        generalize wr.drewN nq = w5 at *
        go_wp2_with (at_builtin; refine wpList_app1 eRI rfl (.tmp 41) (.tmp 46) 243 rfl Tryz.underlying243 w.heap.size rfl hO2 [x] _ _ _ rfl rfl rfl (by simp; omega) hf2.size ?_)
        intro v' w4 hap
        go_wp2_with fail
        go_roundw
        case rel => exact ⟨i + 1, k, m ++ [x], by omega, hk, by go_num, rfl, by simp; omega, hap.own, HE2, HMa, hap.below hO2 hf2 (Nat.le_refl _) hf2.size⟩
        case measure => simp [intOf]; omega
      · have hle' : ¬ (x.it.w.toNat : Int) ≤ y.it.w.toNat := fun e => hle (HU.out.2 e)
        have HE2 : Hid (R = (m ++ [y]).map (·.it) ++ mergeI ((ls.drop i).map (·.it)) ((ks.drop (k + 1)).map (·.it))) := by
         show _ = _; rw [HE.out, HL.out, HL2.out, List.map_cons, List.map_cons, mergeI, if_neg hle]; simp
        clear HE HL HL2 HU hle HM HMa
        go_upto_region 4 with fail
        go_quiet (fail)
        have hO2 := hO.fr ((Fr.refl wr).drewN nq)
        have hf2 := hf.trans ((Fr.refl wr).drewN nq)
        replace d0 := ((Fr.refl wr).drewN nq).cell d0
        replace d1 := ((Fr.refl wr).drewN nq).cell d1
        clear hO hf c0 c1
        generalize wr.drewN nq = w5 at *
        go_wp2_with (at_builtin; refine wpList_app1 eRI rfl (.tmp 50) (.tmp 55) 243 rfl Tryz.underlying243 w.heap.size rfl hO2 [y] _ _ _ rfl rfl rfl (by simp; omega) hf2.size ?_)
        intro v' w4 hap
        go_wp2_with fail
        go_roundw
        case rel => exact ⟨i, k + 1, m ++ [y], hi, by omega, rfl, by go_num, by simp; omega, hap.own, HE2, HMb, hap.below hO2 hf2 (Nat.le_refl _) hf2.size⟩
        case measure => simp [intOf]; omega
    · obtain rfl : k = ks.length := by omega
      have hk1' : ¬ (ks.length : Int) < ks.length := by omega
      have hkn : ((ks.length : Int) == ks.length) = true := by simp
      have HE2 : Hid (R = (m ++ [x]).map (·.it) ++ mergeI ((ls.drop (i + 1)).map (·.it)) ((ks.drop ks.length).map (·.it))) := by
       show _ = _; rw [HE.out, HL.out, List.drop_length, List.map_nil, mergeI_nil, mergeI_nil]; simp
      clear HE HL HM
      go_upto_region 4 with fail
      go_quiet (fail)
      have hO2 := hO.fr ((Fr.refl wr).drewN nq)
      have hf2 := hf.trans ((Fr.refl wr).drewN nq)
      replace c0 := ((Fr.refl wr).drewN nq).cell c0
      replace c1 := ((Fr.refl wr).drewN nq).cell c1
      clear hO hf
      generalize wr.drewN nq = w5 at *
      go_wp2_with (at_builtin; refine wpList_app1 eRI rfl (.tmp 41) (.tmp 46) 243 rfl Tryz.underlying243 w.heap.size rfl hO2 [x] _ _ _ rfl rfl rfl (by simp; omega) hf2.size ?_)
      intro v' w4 hap
      go_wp2_with fail
      go_roundw
      case rel => exact ⟨i + 1, ks.length, m ++ [x], by omega, Nat.le_refl _, by go_num, rfl, by simp; omega, hap.own, HE2, HMa, hap.below hO2 hf2 (Nat.le_refl _) hf2.size⟩
      case measure => simp [intOf]; omega
  · obtain rfl : i = ls.length := by omega
    have hi1' : ¬ (ls.length : Int) < ls.length := by omega
    by_cases hk1 : k < ks.length
    · have hk1' : (k : Int) < ks.length := by omega
      have hkn : ((k : Int) == ks.length) = false := by simp; omega
      have hkn2 : k ≠ ks.length := by omega
      obtain ⟨b2, off2, cp2, hv2, d0, d1⟩ := riAt (hb.fr hf) k hk1
      have HL2 := hid (List.drop_eq_getElem_cons hk1)
      have HMy := hid (List.getElem_mem hk1)
      generalize ks[k] = y at *
      cases hv2
      have hyb := UInt64.toNat_lt y.it.w
      have HMb : Hid (∀ z ∈ m ++ [y], z ∈ ls ∨ z ∈ ks) := fun z hz => by
       rcases List.mem_append.1 hz with h | h
       · exact HM.out z h
       · rw [List.mem_singleton.1 h]; exact .inr HMy.out
      have HE2 : Hid (R = (m ++ [y]).map (·.it) ++ mergeI ((ls.drop ls.length).map (·.it)) ((ks.drop (k + 1)).map (·.it))) := by
       show _ = _; rw [HE.out, HL2.out, List.drop_length, List.map_nil, nil_mergeI, nil_mergeI]; simp
      clear HE HL2 HM
      go_upto_region 4 with fail
      go_quiet (fail)
      have hO2 := hO.fr ((Fr.refl wr).drewN nq)
      have hf2 := hf.trans ((Fr.refl wr).drewN nq)
      replace d0 := ((Fr.refl wr).drewN nq).cell d0
      replace d1 := ((Fr.refl wr).drewN nq).cell d1
      clear hO hf
      generalize wr.drewN nq = w5 at *
      go_wp2_with (at_builtin; refine wpList_app1 eRI rfl (.tmp 50) (.tmp 55) 243 rfl Tryz.underlying243 w.heap.size rfl hO2 [y] _ _ _ rfl rfl rfl (by simp; omega) hf2.size ?_)
      intro v' w4 hap
      go_wp2_with fail
      go_roundw
      case rel => exact ⟨ls.length, k + 1, m ++ [y], Nat.le_refl _, by omega, rfl, by go_num, by simp; omega, hap.own, HE2, HMb, hap.below hO2 hf2 (Nat.le_refl _) hf2.size⟩
      case measure => simp [intOf]; omega
    · obtain rfl : k = ks.length := by omega
      have hk1' : ¬ (ks.length : Int) < ks.length := by omega
      have HE2 : Hid (R = m.map (·.it)) := by
       show _ = _; rw [HE.out, List.drop_length, List.drop_length, List.map_nil, mergeI_nil, List.append_nil]
      clear HE
      go_wp2_with fail
      go_ret
      exact ⟨_, rfl, m, hO, HE2.out.symm, HM.out, hf⟩
set_option maxRecDepth 512
def bytesB (b : Bool) (l : List Rec) : List UInt8 := (l.map (oneB b)).flatten
theorem bytesB_snoc (b : Bool) (l : List Rec) (k : Nat) (h : k < l.length) : bytesB b (l.take (k + 1)) = bytesB b (l.take k) ++ oneB b l[k] := flat_map_snoc _ l k h
theorem bytesB_take (b : Bool) (l : List Rec) (k : Nat) : (bytesB b (l.take k)).length ≤ (bytesB b l).length := by
 unfold bytesB; rw [flat_len, flat_len]; exact wtS_take_le _ l k
set_option maxRecDepth 100000
theorem Bytes_any (v : Value) (l : List Rec) (w : World) (hs : See w eR v l) (hl : (bytesB false l).length ≤ 1000000) (hb : ∀ r ∈ l, r.source.length ≤ 100000 ∧ r.text.length ≤ 100000) :
  Calls Tryz.prog 28 #[.bool false, v] w fun e w' => ∃ v, e = .returned v ∧ Ow w' w.heap.size eB v (bytesB false l) ∧ Fr w w' := by
 obtain ⟨a, cap, hv, hcap1, hcap2, hnone⟩ := hs.shape
 subst hv
 unfold maxLen at hcap2
 have HB := hid hb
 clear hb
 go_enter Tryz.func28, Tryz.ntmps28
 go_wp2_with fail
 go_loopw [5, 10] (fun ov iv wr => ∃ k : Nat, k ≤ l.length ∧ iv = N k ∧ Ow wr w.heap.size eB ov (bytesB false (l.take k)) ∧ Fr w wr) (fun _ iv _ => l.length - (intOf iv).toNat)
 case atStart => exact ⟨0, Nat.zero_le _, rfl, Ow.nil, Fr.refl w⟩
 case round =>
  obtain ⟨k, hk, rfl, hout, hf⟩ := hrel
  by_cases hlt : k < l.length
  · obtain ⟨b, off, cap', hv, c0, c1, c2, c3⟩ := recAt (hs.fr hf) k hlt
    have HN := hid (bytesB_snoc false l k hlt)
    have hle := bytesB_take false l (k + 1)
    rw [HN.out, List.length_append] at hle
    have hbk := HB.out _ (List.getElem_mem hlt)
    have HO := hid (fun W => one_any l[k] W hbk.1 hbk.2)
    generalize l[k] = r at *
    cases hv
    have i1 : (0 : Int) ≤ k := by omega
    have i2 : (k : Int) < l.length := by omega
    go_wp2_with fail
    refine (HO.out _).mono ?_
    rintro e w1 ⟨v1, rfl, hown1, hf1⟩
    have hf0 := hf.alloc (.cells #[.int .u64 r.time.toNat, Fk.u8 r.level, S r.source, S r.text] 40)
    have hout1 := (hout.fr ((Fr.refl wr).alloc (.cells #[.int .u64 r.time.toNat, Fk.u8 r.level, S r.source, S r.text] 40))).fr hf1
    go_wp2_with (at_builtin; refine wpList_app eB rfl (.tmp 14) (.tmp 17) 31 rfl Tryz.underlying31 w.heap.size rfl hout1 _ _ rfl hown1.see (by omega) (hf0.trans hf1).size ?_)
    intro v' w4 hap
    go_wp2_with fail
    exact ⟨⟨k + 1, by omega, by go_num, by rw [HN.out]; exact hap.own, hap.below hout1 (hf0.trans hf1) (Nat.le_refl _) (hf0.trans hf1).size⟩, by simp [intOf]; omega⟩
  · obtain rfl : k = l.length := by omega
    have hnl : ¬ ((l.length : Int) < l.length) := by omega
    rw [List.take_length] at hout
    go_wp2_with fail
    go_ret
    exact ⟨_, rfl, hout, hf⟩
theorem RBytes_any (wh : Bool) (v : Value) (l : List Rec) (w : World) (hs : See w eR v l) (hl : (bytesB wh l).length ≤ 1000000) (hb : ∀ r ∈ l, r.source.length ≤ 100000 ∧ r.text.length ≤ 100000) :
  Calls Tryz.prog 81 #[.bool wh, v] w fun e w' => ∃ v, e = .returned v ∧ Ow w' w.heap.size eB v (bytesB wh l) ∧ Fr w w' := by
 obtain ⟨a, cap, hv, hcap1, hcap2, hnone⟩ := hs.shape
 subst hv
 unfold maxLen at hcap2
 have HB := hid hb
 clear hb
 go_enter Tryz.func81, Tryz.ntmps81
 go_wp2_with fail
 go_loopw [5, 6] (fun ov iv wr => ∃ k : Nat, k ≤ l.length ∧ iv = N k ∧ Ow wr w.heap.size eB ov (bytesB wh (l.take k)) ∧ Fr w wr) (fun _ iv _ => l.length - (intOf iv).toNat)
 case atStart => exact ⟨0, Nat.zero_le _, rfl, Ow.nil, Fr.refl w⟩
 case round =>
  obtain ⟨k, hk, rfl, hout, hf⟩ := hrel
  by_cases hlt : k < l.length
  · obtain ⟨b, off, cap', hv, c0, c1, c2, c3⟩ := recAt (hs.fr hf) k hlt
    have HN := hid (bytesB_snoc wh l k hlt)
    have hle := bytesB_take wh l (k + 1)
    rw [HN.out, List.length_append] at hle
    have hbk := HB.out _ (List.getElem_mem hlt)
    have HO := hid (fun W => ROne_any wh l[k] W hbk.1 hbk.2)
    generalize l[k] = r at *
    cases hv
    have i1 : (0 : Int) ≤ k := by omega
    have i2 : (k : Int) < l.length := by omega
    go_wp2_with fail
    refine (HO.out _).mono ?_
    rintro e w1 ⟨v1, rfl, hown1, hf1⟩
    have hout1 := hout.fr hf1
    go_wp2_with (at_builtin; refine wpList_app eB rfl (.tmp 13) (.tmp 19) 31 rfl Tryz.underlying31 w.heap.size rfl hout1 _ _ rfl hown1.see (by omega) (hf.trans hf1).size ?_)
    intro v' w4 hap
    go_wp2_with fail
    exact ⟨⟨k + 1, by omega, by go_num, by rw [HN.out]; exact hap.own, hap.below hout1 (hf.trans hf1) (Nat.le_refl _) (hf.trans hf1).size⟩, by simp [intOf]; omega⟩
  · obtain rfl : k = l.length := by omega
    have hnl : ¬ ((l.length : Int) < l.length) := by omega
    rw [List.take_length] at hout
    go_wp2_with fail
    go_ret
    exact ⟨_, rfl, hout, hf⟩
set_option maxRecDepth 512
def lenR (b : Bool) (r : Rec) : Nat := (oneB b r).length
theorem set_last (m : List Nat) (x y : Nat) : (m ++ [x]).set m.length y = m ++ [y] := by
 rw [List.set_append_right _ _ (Nat.le_refl _), Nat.sub_self]; rfl
set_option maxRecDepth 100000
theorem Groups_any (sz : Nat) (hsz : 2 ≤ sz) (hsz2 : sz ≤ 1000000) (v : Value) (l : List Rec) (w : World) (hs : See w eR v l) (hl : l.length ≤ 1000000) (hb : ∀ r ∈ l, r.source.length ≤ 100000 ∧ r.text.length ≤ 100000) :
  Calls Tryz.prog 26 #[N sz, .bool false, v] w fun e w' => ∃ v, e = .returned v ∧ Ow w' w.heap.size eJ v (groupsL sz (lenR false) l) ∧ Fr w w' := by
 obtain ⟨a, cap, hv, hcap1, hcap2, hnone⟩ := hs.shape
 subst hv
 unfold maxLen at hcap2
 have HB := hid hb
 clear hb
 have hs1 : (1 : Int) < sz := by omega
 go_enter Tryz.func26, Tryz.ntmps26
 go_wp2_with fail
 go_loopw [7, 8, 14] (fun ov hv iv wr => ∃ (k h : Nat) (m : List Nat), k ≤ l.length ∧ iv = N k ∧ hv = N h ∧ h ≤ 1000000 + 300000 ∧ m.length ≤ k ∧ Ow wr w.heap.size eJ ov m ∧ Hid ((k = 0 ∧ m = [] ∧ h = 0) ∨ ∃ c d, m = d ++ [c] ∧ c ≤ k ∧ groupsL sz (lenR false) l = d ++ grpGo sz (lenR false) c h (l.drop k)) ∧ Fr w wr) (fun _ _ iv _ => l.length - (intOf iv).toNat)
 case atStart => exact ⟨0, 0, [], Nat.zero_le _, rfl, rfl, by omega, Nat.le_refl _, Ow.nil, .inl ⟨rfl, rfl, rfl⟩, Fr.refl w⟩
 case round =>
  obtain ⟨k, h, m, hk, rfl, rfl, hh, hmk, hout, HI, hf⟩ := hrel
  by_cases hlt : k < l.length
  · obtain ⟨b, off, cap', hv, c0, c1, c2, c3⟩ := recAt (hs.fr hf) k hlt
    have hbk := HB.out _ (List.getElem_mem hlt)
    have HO := hid (fun W => one_any l[k] W hbk.1 hbk.2)
    have hol : lenR false l[k] ≤ 200031 := by have := oneB_len false l[k] hbk.1 hbk.2; unfold lenR; omega
    have HDr := hid (List.drop_eq_getElem_cons hlt)
    have HG0 : Hid (k = 0 → groupsL sz (lenR false) l = grpGo sz (lenR false) 1 (lenR false l[k]) (l.drop (k + 1))) := by
     intro h0; subst h0
     cases l with
     | nil => simp at hlt
     | cons r l => rfl
    have HLn : Hid (lenR false l[k] = (oneB false l[k]).length) := rfl
    generalize hnr : lenR false l[k] = n at *
    generalize l[k] = r at *
    have HNr := hid hnr
    clear hnr
    cases hv
    have i1 : (0 : Int) ≤ k := by omega
    have i2 : (k : Int) < l.length := by omega
    have hf0 := hf.alloc (.cells #[.int .u64 r.time.toNat, Fk.u8 r.level, S r.source, S r.text] 40)
    have hout0 := hout.fr ((Fr.refl wr).alloc (.cells #[.int .u64 r.time.toNat, Fk.u8 r.level, S r.source, S r.text] 40))
    have hwh : IntKind.i64.wrap ((h : Int) + n) = (h : Int) + n := IntWalk.i64_in _ (by omega)
    go_wp2_with fail
    refine (HO.out _).mono ?_
    rintro e w1 ⟨v1, rfl, hown1, hf1⟩
    obtain ⟨v1a, v1c, hv1⟩ := hown1.shape'
    rw [← HLn.out] at hv1
    subst hv1
    have hout1 := hout0.fr hf1
    have hf01 := hf0.trans hf1
    clear hout hout0 hown1 HLn
    by_cases hk0 : k = 0
    · have hI0 : m = [] ∧ h = 0 := by
        rcases HI.out with ⟨_, h1, h2⟩ | ⟨c, d, h1, _⟩
        · exact ⟨h1, h2⟩
        · rw [h1] at hmk; simp at hmk; omega
      obtain ⟨rfl, rfl⟩ := hI0
      have HE := hid (HG0.out hk0)
      clear HI HG0 HDr
      obtain ⟨oa, oc, hov⟩ := hout1.shape'
      rw [List.length_nil] at hov
      subst hov
      go_wp2_with (at_builtin; refine wpList_app1 eJ rfl (.tmp 33) (.tmp 34) 54 rfl Tryz.underlying54 w.heap.size rfl hout1 [0] _ _ _ rfl rfl rfl (by simp) hf01.size ?_)
      intro v' w4 hap
      have hown4 := hap.own
      have hf4 := hap.below hout1 hf01 (Nat.le_refl _) hf01.size
      try rw [List.nil_append] at hown4
      obtain ⟨g, gc, hvg, hg1, hg2, _, _⟩ := hown4.atHead (by simp)
      rw [show ([(0 : Nat)]).length = 1 from by simp] at hvg
      subst hvg
      obtain ⟨z1, z2⟩ := hown4.cellAt (fun n => N n) rfl 0 (by simp)
      have hs4 := hown4.set (fun n => N n) rfl 0 (by simp) 1 (.int .i64 1) rfl
      rw [show ([(0 : Nat)])[0]'(by simp) = 0 from by simp] at z1
      rw [show ([(0 : Nat)]).set 0 1 = [1] from rfl] at hs4
      have hf5 := set_below (i := 0) (u := .int .i64 1) hf4 hg1 (Fr.size hf4)
      have HS4 := hid hs4
      have HF5 := hid hf5
      clear hown4 hs4 hf5 hf4
      go_wp2_with fail
      exact ⟨⟨k + 1, 0 + n, [1], by omega, by go_num, by go_num, by omega, by simp, HS4.out, (by subst hk0; exact .inr ⟨1, [], rfl, by omega, by rw [HE.out]; simp⟩), HF5.out⟩, by simp [intOf]; omega⟩
    · obtain ⟨c, d, rfl, hck, HG⟩ : ∃ c d, m = d ++ [c] ∧ c ≤ k ∧ groupsL sz (lenR false) l = d ++ grpGo sz (lenR false) c h (l.drop k) := by
        rcases HI.out with ⟨h0, _⟩ | h1
        · exact absurd h0 hk0
        · exact h1
      rw [HDr.out, grpGo, HNr.out] at HG
      have HGh := hid HG
      clear HI HG0 HG HDr
      obtain ⟨oa, oc, hov⟩ := hout1.shape'
      rw [show (d ++ [c]).length = d.length + 1 from by simp] at hov hmk
      subst hov
      have hm0 : ((d.length : Int) + 1 == 0) = false := by simp; omega
      by_cases hgt : h + n ≤ sz
      · have hgt' : decide ((sz : Int) < (h : Int) + n) = false := by simp; omega
        have hown4 := hout1
        have hf4 := hf01
        rw [if_pos hgt] at HGh
        have hcb : (c : Int) ≤ 1000000 := by omega
        have hcb0 : (0 : Int) ≤ c := by omega
        obtain ⟨g, gc, hvg, hg1, hg2, _, _⟩ := hown4.atHead (by simp)
        rw [show (d ++ [c]).length = d.length + 1 from by simp] at hvg
        cases hvg
        obtain ⟨z1, z2⟩ := hown4.cellAt (fun n => N n) rfl d.length (by simp)
        have hs4 := hown4.set (fun n => N n) rfl d.length (by simp) (c + 1) (.int .i64 ((c : Int) + 1)) rfl
        rw [show (d ++ [c])[d.length]'(by simp) = c from by simp] at z1
        rw [show (d ++ [c]).set d.length (c + 1) = (d ++ [c + 1]) from set_last d c (c + 1)] at hs4
        have hf5 := set_below (i := d.length) (u := .int .i64 ((c : Int) + 1)) hf4 hg1 (Fr.size hf4)
        have HS4 := hid hs4
        have HF5 := hid hf5
        clear hown4 hs4 hf5 hf4
        go_wp2_with fail
        exact ⟨⟨k + 1, h + n, (d ++ [c + 1]), by omega, by go_num, by go_num, by omega, by simp; omega, by simpa using HS4.out, .inr ⟨c + 1, d, rfl, by omega, HGh.out⟩, HF5.out⟩, by simp [intOf]; omega⟩
      · have hgt' : decide ((sz : Int) < (h : Int) + n) = true := by simp; omega
        have hgt2 : (sz : Int) < (h : Int) + n := by omega
        have hgt3 : ¬ (h : Int) + n ≤ sz := by omega
        rw [if_neg hgt] at HGh
        go_wp2_with (at_builtin; refine wpList_app1 eJ rfl (.tmp 33) (.tmp 34) 54 rfl Tryz.underlying54 w.heap.size rfl hout1 [0] _ _ _ rfl rfl rfl (by simp; omega) hf01.size ?_)
        intro v' w4 hap
        have hown4 := hap.own
        have hf4 := hap.below hout1 hf01 (Nat.le_refl _) hf01.size
        have hls : (d ++ [c] ++ [0] : List Nat).length = d.length + 1 + 1 := by simp
        have hown4 : Ow w4 w.heap.size eJ v' (d ++ [c] ++ [0]) := by simpa using hown4
        clear hap
        obtain ⟨g, gc, hvg, hg1, hg2, _, _⟩ := hown4.atHead (by simp)
        rw [show (d ++ [c] ++ [0] : List Nat).length = d.length + 1 + 1 from by simp] at hvg
        subst hvg
        obtain ⟨z1, z2⟩ := hown4.cellAt (fun n => N n) rfl (d.length + 1) (by simp)
        have hs4 := hown4.set (fun n => N n) rfl (d.length + 1) (by simp) 1 (.int .i64 1) rfl
        rw [show (d ++ [c] ++ [0] : List Nat)[(d.length + 1)]'(by simp) = 0 from by simp] at z1
        rw [show (d ++ [c] ++ [0] : List Nat).set (d.length + 1) 1 = (d ++ [c] ++ [1]) from by simp] at hs4
        have hf5 := set_below (i := (d.length + 1)) (u := .int .i64 1) hf4 hg1 (Fr.size hf4)
        have HS4 := hid hs4
        have HF5 := hid hf5
        clear hown4 hs4 hf5 hf4
        go_wp2_with fail
        exact ⟨⟨k + 1, n, (d ++ [c] ++ [1]), by omega, by go_num, by go_num, by omega, by simp; omega, by simpa using HS4.out, .inr ⟨1, d ++ [c], rfl, by omega, by rw [HGh.out]; simp⟩, HF5.out⟩, by simp [intOf]; omega⟩
  · obtain rfl : k = l.length := by omega
    have hnl : ¬ ((l.length : Int) < l.length) := by omega
    have HE : Hid (m = groupsL sz (lenR false) l) := by
     show _ = _
     rcases HI.out with ⟨h0, rfl, _⟩ | ⟨c, d, h1, _, h2⟩
     · have : l = [] := List.eq_nil_of_length_eq_zero h0
       subst this; rfl
     · rw [h1, h2, List.drop_length, grpGo]
    go_wp2_with fail
    go_ret
    exact ⟨_, rfl, by rw [← HE.out]; exact hout, hf⟩
set_option maxRecDepth 512
theorem groupsL_cons {α : Type} (S : Nat) (f : α → Nat) (l : List α) (k : Nat) (h : k < l.length) : groupsL S f (l.drop k) = grpGo S f 1 (f l[k]) (l.drop (k + 1)) := by
 rw [List.drop_eq_getElem_cons h]; rfl
theorem grpGo_on {α : Type} (S : Nat) (f : α → Nat) (c h : Nat) (l : List α) (k : Nat) (hk : k < l.length) (hs : h + f l[k] ≤ S) : grpGo S f c h (l.drop k) = grpGo S f (c + 1) (h + f l[k]) (l.drop (k + 1)) := by
 rw [List.drop_eq_getElem_cons hk, grpGo, if_pos hs]
theorem grpGo_off {α : Type} (S : Nat) (f : α → Nat) (c h : Nat) (l : List α) (k : Nat) (hk : k < l.length) (hs : ¬ h + f l[k] ≤ S) : grpGo S f c h (l.drop k) = c :: groupsL S f (l.drop k) := by
 rw [List.drop_eq_getElem_cons hk, grpGo, if_neg hs]; rfl
set_option maxRecDepth 100000
theorem RGroups_any (wh : Bool) (sz : Nat) (hsz : 1 ≤ sz) (hsz2 : sz ≤ 1000000) (v : Value) (l : List Rec) (w : World) (hs : See w eR v l) (hl : l.length ≤ 1000000) (hb : ∀ r ∈ l, r.source.length ≤ 100000 ∧ r.text.length ≤ 100000) :
  Calls Tryz.prog 79 #[N sz, .bool wh, v] w fun e w' => ∃ v, e = .returned v ∧ Ow w' w.heap.size eJ v (groupsL sz (lenR wh) l) ∧ Fr w w' := by
 obtain ⟨a, cap, hv, hcap1, hcap2, hnone⟩ := hs.shape
 subst hv
 unfold maxLen at hcap2
 have HB := hid hb
 have HOl : Hid (∀ r ∈ l, lenR wh r ≤ 200031) := fun r hr => by have h1 := hb r hr; have := oneB_len wh r h1.1 h1.2; unfold lenR; omega
 clear hb
 have hs1 : ¬ (sz : Int) < 1 := by omega
 go_enter Tryz.func79, Tryz.ntmps79
 go_wp2_with fail
 go_loopw [7, 8] (fun ov iv wr => ∃ (k : Nat) (m : List Nat), k ≤ l.length ∧ iv = N k ∧ m.length ≤ k ∧ Ow wr w.heap.size eJ ov m ∧ Hid (groupsL sz (lenR wh) l = m ++ groupsL sz (lenR wh) (l.drop k)) ∧ Fr w wr) (fun _ iv _ => l.length - (intOf iv).toNat)
 case atStart => exact ⟨0, [], Nat.zero_le _, rfl, Nat.le_refl _, Ow.nil, rfl, Fr.refl w⟩
 case round =>
  obtain ⟨k, m, hk, rfl, hmk, hout, HG, hf⟩ := hrel
  by_cases hlt : k < l.length
  · obtain ⟨b, off, cap', hv, c0, c1, c2, c3⟩ := recAt (hs.fr hf) k hlt
    have hbk := HB.out _ (List.getElem_mem hlt)
    have HO := hid (fun W => ROne_any wh l[k] W hbk.1 hbk.2)
    have hol := HOl.out _ (List.getElem_mem hlt)
    have HG2 : Hid (groupsL sz (lenR wh) l = m ++ grpGo sz (lenR wh) 1 (lenR wh l[k]) (l.drop (k + 1))) := by show _ = _; rw [HG.out, groupsL_cons sz _ l k hlt]
    have HLn : Hid (lenR wh l[k] = (oneB wh l[k]).length) := rfl
    generalize lenR wh l[k] = n0 at *
    generalize l[k] = r at *
    cases hv
    have i1 : (0 : Int) ≤ k := by omega
    have i2 : (k : Int) < l.length := by omega
    go_wp2_with fail
    refine (HO.out _).mono ?_
    rintro e w1 ⟨v1, rfl, hown1, hf1⟩
    obtain ⟨v1a, v1c, hv1⟩ := hown1.shape'
    rw [← HLn.out] at hv1
    subst hv1
    have hout1 := hout.fr hf1
    have hf01 := hf.trans hf1
    clear hout hown1 HLn hf c0 c1 c2 c3 HO HG hf1
    go_wp2_with fail
    go_loopw [9, 10] (fun nv hv wr => ∃ n h : Nat, 1 ≤ n ∧ k + n ≤ l.length ∧ nv = N n ∧ hv = N h ∧ h ≤ 1300000 ∧ Hid (groupsL sz (lenR wh) l = m ++ grpGo sz (lenR wh) n h (l.drop (k + n))) ∧ Fr w1 wr) (fun nv _ _ => l.length - (intOf nv).toNat)
    case atStart => exact ⟨1, n0, Nat.le_refl _, by omega, rfl, rfl, by omega, HG2.out, Fr.refl w1⟩
    case round =>
     obtain ⟨n, h, hn1, hkn, rfl, rfl, hh, HI, hfq⟩ := hrel
     have hwk : IntKind.i64.wrap ((k : Int) + n) = (k : Int) + n := IntWalk.i64_in _ (by omega)
     by_cases hin : k + n < l.length
     · have hin' : (k : Int) + n < l.length := by omega
       obtain ⟨b, off, cap', hv, c0, c1, c2, c3⟩ := recAt (hs.fr (hf01.trans hfq)) (k + n) hin
       have hbk := HB.out _ (List.getElem_mem hin)
       have HO := hid (fun W => ROne_any wh l[k + n] W hbk.1 hbk.2)
       have hol2 := HOl.out _ (List.getElem_mem hin)
       have HOn : Hid (h + lenR wh l[k + n] ≤ sz → groupsL sz (lenR wh) l = m ++ grpGo sz (lenR wh) (n + 1) (h + lenR wh l[k + n]) (l.drop (k + (n + 1)))) := fun hh => by rw [HI.out, grpGo_on sz _ n h l (k + n) hin hh, Nat.add_assoc]
       have HOff : Hid (¬ h + lenR wh l[k + n] ≤ sz → groupsL sz (lenR wh) l = (m ++ [n]) ++ groupsL sz (lenR wh) (l.drop (k + n))) := fun hh => by rw [HI.out, grpGo_off sz _ n h l (k + n) hin hh]; simp
       have HLn : Hid (lenR wh l[k + n] = (oneB wh l[k + n]).length) := rfl
       generalize lenR wh l[k + n] = n2 at *
       generalize l[k + n] = r2 at *
       cases hv
       have j1 : (0 : Int) ≤ (k : Int) + n := by omega
       have j2 : ((k : Int) + n).toNat = k + n := by omega
       have hwh : IntKind.i64.wrap ((h : Int) + n2) = (h : Int) + n2 := IntWalk.i64_in _ (by omega)
       by_cases hle : h + n2 ≤ sz
       · have hle' : (h : Int) + n2 ≤ sz := by omega
         have HE := hid (HOn.out hle)
         clear HOn HOff HI
         go_wp2_with fail
         refine (HO.out _).mono ?_
         rintro e w3 ⟨v3, rfl, hown3, hf3⟩
         obtain ⟨v3a, v3c, hv3⟩ := hown3.shape'
         rw [← HLn.out] at hv3
         subst hv3
         have e0 := hf3.cell c0
         have e1 := hf3.cell c1
         have e2 := hf3.cell c2
         have e3 := hf3.cell c3
         clear hown3
         go_wp2_with fail
         refine (HO.out _).mono ?_
         rintro e w4 ⟨v4, rfl, hown4, hf4⟩
         obtain ⟨v4a, v4c, hv4⟩ := hown4.shape'
         rw [← HLn.out] at hv4
         subst hv4
         clear hown4
         go_wp2_with fail
         go_roundw
         case rel => exact ⟨n + 1, h + n2, by omega, by omega, by go_num, by go_num, by omega, HE.out, (hfq.trans hf3).trans hf4⟩
         case measure => simp [intOf]; omega
       · have hle' : ¬ (h : Int) + n2 ≤ sz := by omega
         have HE := hid (HOff.out hle)
         clear HOn HOff HI
         go_wp2_with fail
         refine (HO.out _).mono ?_
         rintro e w3 ⟨v3, rfl, hown3, hf3⟩
         obtain ⟨v3a, v3c, hv3⟩ := hown3.shape'
         rw [← HLn.out] at hv3
         subst hv3
         clear hown3
         have hf13 := hfq.trans hf3
         have houtq := hout1.fr hf13
         go_wp2_with (at_builtin; refine wpList_app1 eJ rfl (.tmp 58) (.tmp 60) 54 rfl Tryz.underlying54 w.heap.size rfl houtq [n] _ _ _ rfl rfl rfl (by simp; omega) (hf01.trans hf13).size ?_)
         intro v' w5 hap
         go_wp2_with fail
         go_roundw
         case rel => exact ⟨k + n, m ++ [n], by omega, by go_num, by simp; omega, hap.own, HE.out, hap.below houtq (hf01.trans hf13) (Nat.le_refl _) (hf01.trans hf13).size⟩
         case measure => simp [intOf]; omega
     · have hin' : ¬ (k : Int) + n < l.length := by omega
       have hkn2 : k + n = l.length := by omega
       have HE : Hid (groupsL sz (lenR wh) l = (m ++ [n]) ++ groupsL sz (lenR wh) (l.drop (k + n))) := by
        show _ = _; rw [HI.out, hkn2, List.drop_length]; simp [grpGo, groupsL]
       clear hkn2 HI
       have houtq := hout1.fr hfq
       go_wp2_with (at_builtin; refine wpList_app1 eJ rfl (.tmp 58) (.tmp 60) 54 rfl Tryz.underlying54 w.heap.size rfl houtq [n] _ _ _ rfl rfl rfl (by simp; omega) (hf01.trans hfq).size ?_)
       intro v' w5 hap
       go_wp2_with fail
       go_roundw
       case rel => exact ⟨k + n, m ++ [n], by omega, by go_num, by simp; omega, hap.own, HE.out, hap.below houtq (hf01.trans hfq) (Nat.le_refl _) (hf01.trans hfq).size⟩
       case measure => simp [intOf]; omega
  · obtain rfl : k = l.length := by omega
    have hnl : ¬ ((l.length : Int) < l.length) := by omega
    have HE : Hid (groupsL sz (lenR wh) l = m) := by show _ = _; rw [HG.out, List.drop_length, groupsL, List.append_nil]
    go_wp2_with fail
    go_ret
    exact ⟨_, rfl, by rw [HE.out]; exact hout, hf⟩
set_option maxRecDepth 512
def columnsL (l : List Rec) : List UInt8 := timesGo 0 (l.map fun r => r.time.toNat) ++ levelsL (l.map (·.level))
theorem timesGo_drop (was : Nat) (l : List Rec) (k : Nat) (h : k < l.length) : timesGo was ((l.drop k).map fun r => r.time.toNat) = numB (zigN (dif64 l[k].time.toNat was)) ++ timesGo l[k].time.toNat ((l.drop (k + 1)).map fun r => r.time.toNat) := by
 rw [List.drop_eq_getElem_cons h, List.map_cons, timesGo]
theorem dif64_wrap (t was : Nat) (ht : t < 18446744073709551616) (hw : was < 18446744073709551616) : IntKind.u64.wrap ((t : Int) - was) = ((dif64 t was : Nat) : Int) := by
 rw [IntKind.wrap_u64]; unfold dif64; omega
theorem zigN_lt (d : Nat) (hd : d < 18446744073709551616) : zigN d < 18446744073709551616 := by unfold zigN; split <;> omega
abbrev slen : Value → Nat
 | .slice _ n _ => n
 | _ => 0
set_option maxRecDepth 100000
theorem Columns_any (v : Value) (l : List Rec) (w : World) (hs : See w eR v l) (hl : l.length ≤ 20000) :
  Calls Tryz.prog 30 #[v] w fun e w' => ∃ v, e = .returned v ∧ Ow w' w.heap.size eB v (columnsL l) ∧ Fr w w' := by
 obtain ⟨a, cap, hv, hcap1, hcap2, hnone⟩ := hs.shape
 subst hv
 unfold maxLen at hcap2
 have HZ := hid Zig_any
 have HN := hid Num_any
 go_enter Tryz.func30, Tryz.ntmps30
 go_wp2_with fail
 go_loopw [3, 4, 10] (fun ov tv iv wr => ∃ (k was : Nat) (m : List UInt8), k ≤ l.length ∧ iv = N k ∧ tv = .int .u64 (was : Int) ∧ Hid (was < 18446744073709551616) ∧ m.length ≤ k * 10 ∧ Ow wr w.heap.size eB ov m ∧ Hid (timesGo 0 (l.map fun r => r.time.toNat) = m ++ timesGo was ((l.drop k).map fun r => r.time.toNat)) ∧ Fr w wr) (fun _ _ iv _ => l.length - (intOf iv).toNat)
 case atStart => exact ⟨0, 0, [], Nat.zero_le _, rfl, rfl, hid (by decide), by simp, Ow.nil, rfl, Fr.refl w⟩
 case round =>
  obtain ⟨k, was, m, hk, rfl, rfl, HW, hml, hout, HM, hf⟩ := hrel
  by_cases hlt : k < l.length
  · obtain ⟨b, off, cap', hv, c0, c1, c2, c3⟩ := recAt (hs.fr hf) k hlt
    have HM2 : Hid (timesGo 0 (l.map fun r => r.time.toNat) = (m ++ numB (zigN (dif64 l[k].time.toNat was))) ++ timesGo l[k].time.toNat ((l.drop (k + 1)).map fun r => r.time.toNat)) := by
     show _ = _; rw [HM.out, timesGo_drop was l k hlt]; simp
    clear HM
    have HT := hid (UInt64.toNat_lt l[k].time)
    generalize l[k] = r at *
    have hwr := dif64_wrap r.time.toNat was HT.out HW.out
    have HD := hid (dif64_lt r.time.toNat was)
    generalize dif64 r.time.toNat was = d at *
    have HZd := hid (HZ.out d HD.out)
    have HZl := hid (zigN_lt d HD.out)
    have hnl := numB_le (zigN d) HZl.out
    have HNd := hid (HN.out (zigN d) HZl.out)
    generalize zigN d = z at *
    generalize numB z = nb at *
    cases hv
    have i1 : (0 : Int) ≤ k := by omega
    have i2 : (k : Int) < l.length := by omega
    go_wp2_with fail
    refine HZd.out _ |>.mono ?_
    rintro e w0 ⟨rfl, rfl⟩
    go_wp2_with fail
    refine (HNd.out _).mono ?_
    rintro e w1 ⟨v1, rfl, hown1, hf1⟩
    have hf0 := hf.alloc (.cells #[.int .u64 r.time.toNat, Fk.u8 r.level, S r.source, S r.text] 40)
    have hout1 := (hout.fr ((Fr.refl wr).alloc (.cells #[.int .u64 r.time.toNat, Fk.u8 r.level, S r.source, S r.text] 40))).fr hf1
    go_wp2_with (at_builtin; refine wpList_app eB rfl (.tmp 14) (.tmp 20) 31 rfl Tryz.underlying31 w.heap.size rfl hout1 _ _ rfl hown1.see (by omega) (hf0.trans hf1).size ?_)
    intro v' w4 hap
    have hcw : w4.cell? ⟨wr.heap.size, 0, none⟩ = some (.int .u64 r.time.toNat) := by
     rw [World.cell?_of_block (hap.chg.block wr.heap.size (by have := hf1.size; simp at this; omega) (fun e => by have := (hout.lt _ e.symm).2; omega))]
     exact hf1.cell (by rw [World.cell?_alloc_at _ _ _ _ rfl]; rfl)
    go_wp2_with fail
    exact ⟨⟨k + 1, r.time.toNat, m ++ nb, by omega, by go_num, rfl, HT.out, by rw [List.length_append]; omega, hap.own, HM2.out, hap.below hout1 (hf0.trans hf1) (Nat.le_refl _) (hf0.trans hf1).size⟩, by simp [intOf]; omega⟩
  · obtain rfl : k = l.length := by omega
    have hnl : ¬ ((l.length : Int) < l.length) := by omega
    have HM2 : Hid (columnsL l = m ++ levelsL (l.map (·.level))) := by
     have h := HM.out
     rw [List.drop_length, List.map_nil, timesGo, List.append_nil] at h
     show _ = _; unfold columnsL; rw [h]
    clear HM
    go_wp2_with fail
    go_loopw [0, 3] (fun sv ov wr2 => ∃ (d : List Rec) (a : Option Addr) (c : Nat) (m : List UInt8), d.length ≤ l.length ∧ sv = .slice a d.length c ∧ See w eR (.slice a d.length c) d ∧ m.length + d.length * 11 ≤ l.length * 21 ∧ Ow wr2 w.heap.size eB ov m ∧ Hid (columnsL l = m ++ levelsL (d.map (·.level))) ∧ Fr w wr2) (fun sv _ _ => slen sv)
    case atStart => exact ⟨l, a, cap, m, Nat.le_refl _, rfl, hs, by omega, hout, HM2.out, hf⟩
    case round =>
     generalize wr = wr2 at *
     obtain ⟨d, a2, c2, m2, hdl, rfl, hs2, hml2, hout2, HC, hf2⟩ := hrel
     clear hout hf HM2
     by_cases hd0 : 0 < d.length
     · obtain ⟨b, off, cap', hv, x0, x1, x2, x3⟩ := recAt (hs2.fr hf2) 0 hd0
       have hdc := hid (levels_cons (d.map (·.level)) 0 (by simpa using hd0))
       have HC2 : Hid (columnsL l = m2 ++ lvGo d[0].level 1 ((d.map (·.level)).drop 1)) := by
        show _ = _; rw [HC.out]; have := hdc.out; simp at this; rw [this]; simp
       clear HC hdc
       have HQ : Hid (∀ (n : Nat) (hn : n < d.length), (d[n].level = d[0].level → lvGo d[0].level n ((d.map (·.level)).drop n) = lvGo d[0].level (n + 1) ((d.map (·.level)).drop (n + 1))) ∧ (d[n].level ≠ d[0].level → lvGo d[0].level n ((d.map (·.level)).drop n) = (d[0].level :: numB n) ++ levelsL ((d.drop n).map (·.level)))) := by
        intro n hn
        refine ⟨fun h => lvGo_on _ _ _ n (by simpa using hn) (by simpa using h), fun h => ?_⟩
        rw [lvGo_off _ _ _ n (by simpa using hn) (by simpa using h), List.map_drop]
       have HQ2 : Hid (lvGo d[0].level d.length ((d.map (·.level)).drop d.length) = (d[0].level :: numB d.length) ++ levelsL ((d.drop d.length).map (·.level))) := by
        show _ = _; rw [lvGo_end _ _ _ _ (by simp), List.map_drop]
       obtain ⟨r0, hr0⟩ : ∃ r0, d[0] = r0 := ⟨_, rfl⟩
       rw [hr0] at x0 x1 x2 x3 HC2 HQ HQ2
       have HR0 := hid hr0
       clear hr0
       cases hv
       have hd0' : (0 : Int) < d.length := by omega
       go_wp2_with fail
       go_loopw [7] (fun nv wr3 => ∃ n : Nat, 1 ≤ n ∧ n ≤ d.length ∧ nv = N n ∧ Fr wr2 wr3 ∧ Hid (columnsL l = m2 ++ lvGo r0.level n ((d.map (·.level)).drop n))) (fun nv _ => d.length - (intOf nv).toNat)
       case atStart => exact ⟨1, Nat.le_refl _, by omega, rfl, Fr.refl _, HC2.out⟩
       case round =>
        obtain ⟨n, hn1, hnd, rfl, hfq, HI⟩ := hrel
        have z1 := hfq.cell x1
        by_cases hnl : n < d.length
        · obtain ⟨b', off', cap2, hv2, y0, y1, y2, y3⟩ := recAt (hs2.fr (hf2.trans hfq)) n hnl
          cases hv2
          have hq := HQ.out n hnl
          obtain ⟨r1, hr1⟩ : ∃ r1, d[n] = r1 := ⟨_, rfl⟩
          rw [hr1] at y0 y1 y2 y3 hq
          clear hr1
          have i1 : (0 : Int) ≤ n := by omega
          have i2 : (n : Int) < d.length := by omega
          by_cases hlv : r1.level = r0.level
          · have HE := hid (hq.1 hlv)
            have hlv' : ((r1.level.toNat : Int) == r0.level.toNat) = true := by rw [hlv]; simp
            clear hq
            go_upto_region 11 with fail
            go_quiet (fail)
            go_wp2_with fail
            exact ⟨⟨n + 1, by omega, by omega, by go_num, hfq.drewN _, by show _ = _; rw [HI.out, HE.out]⟩, by simp [intOf]; omega⟩
          · have HE := hid (hq.2 hlv)
            have hlv' : ((r1.level.toNat : Int) == r0.level.toNat) = false := by
             rw [beq_eq_false_iff_ne]; intro h; exact hlv (UInt8.toNat_inj.1 (by omega))
            clear hq
            go_upto_region 11 with fail
            go_quiet (fail)
            go_upto_region 13 with fail
            have HE : Hid (columnsL l = m2 ++ ((r0.level :: numB n) ++ levelsL ((d.drop n).map (·.level)))) := by show _ = _; rw [HI.out, HE.out]
            clear HI HQ HQ2
            generalize hWW : wr.drewN nq = WW at *
            obtain ⟨off2, cap2, hfrom, hfsee⟩ := run_from_blk eR 24 Tryz.underlying24 hs2 n hnd
            have hF0 : Fr wr2 WW := by rw [← hWW]; exact hfq.drewN _
            have x1' := hF0.cell x1
            clear hWW x0 x1 x2 x3
            have hout3 := hout2.fr hF0
            have hf3 := hf2.trans hF0
            have hnb := numB_le n (by omega)
            have HNn := hid (HN.out n (by omega))
            have HC3 : Hid (columnsL l = (m2 ++ r0.level :: numB n) ++ levelsL ((d.drop n).map (·.level))) := by
             show _ = _; rw [HE.out]; simp
            generalize numB n = nb at *
            go_wp2_with (at_builtin; refine wpList_app1 eB rfl (.tmp 46) (.tmp 51) 31 rfl Tryz.underlying31 w.heap.size rfl hout3 [r0.level] _ _ _ rfl rfl rfl (by simp; omega) hf3.size ?_)
            intro v4 w4 hap
            have hown4 := hap.own
            have hf4 := hap.below hout3 hf3 (Nat.le_refl _) hf3.size
            go_wp2_with fail
            refine (HNn.out _).mono ?_
            rintro e w5 ⟨v5, rfl, hown5, hf5⟩
            have hown4 := hown4.fr hf5
            have hf5' := Fr.below hf4 (Fr.size hf4) hf5
            go_wp2_with (at_builtin; refine wpList_app eB rfl (.tmp 52) (.tmp 55) 31 rfl Tryz.underlying31 w.heap.size rfl hown4 _ _ rfl hown5.see (by simp; omega) (Fr.size hf5') ?_)
            intro v6 w6 hap6
            go_wp2_with fail
            have hml4 : m2.length + nb.length + 1 + (d.length - n) * 11 ≤ l.length * 21 := by omega
            refine ⟨⟨d.drop n, some ⟨b, off2, none⟩, cap2, m2 ++ r0.level :: nb, by rw [List.length_drop]; omega, by rw [List.length_drop], by rw [List.length_drop]; exact hfsee, by rw [List.length_drop]; simp; omega, hap6.own, HC3.out, hap6.below hown4 hf5' (Nat.le_refl _) (Fr.size hf5')⟩, by show d.length - n < d.length; omega⟩
        · obtain rfl : n = d.length := by omega
          have hq2 := HQ2.out
          have HE : Hid (columnsL l = m2 ++ ((r0.level :: numB d.length) ++ levelsL ((d.drop d.length).map (·.level)))) := by show _ = _; rw [HI.out, hq2]
          clear HI HQ HQ2 hq2
          have hnn : ¬ ((d.length : Int) < d.length) := by omega
          go_upto_region 11 with fail
          go_quiet (fail)
          go_upto_region 13 with fail
          generalize hWW : wr.drewN nq = WW at *
          obtain ⟨off2, cap2, hfrom, hfsee⟩ := run_from_blk eR 24 Tryz.underlying24 hs2 d.length hnd
          have hF0 : Fr wr2 WW := by rw [← hWW]; exact hfq.drewN _
          have x1' := hF0.cell x1
          clear hWW x0 x1 x2 x3
          have hout3 := hout2.fr hF0
          have hf3 := hf2.trans hF0
          have hnb := numB_le d.length (by omega)
          have HNn := hid (HN.out d.length (by omega))
          have HC3 : Hid (columnsL l = (m2 ++ r0.level :: numB d.length) ++ levelsL ((d.drop d.length).map (·.level))) := by
           show _ = _; rw [HE.out]; simp
          generalize numB d.length = nb at *
          go_wp2_with (at_builtin; refine wpList_app1 eB rfl (.tmp 46) (.tmp 51) 31 rfl Tryz.underlying31 w.heap.size rfl hout3 [r0.level] _ _ _ rfl rfl rfl (by simp; omega) hf3.size ?_)
          intro v4 w4 hap
          have hown4 := hap.own
          have hf4 := hap.below hout3 hf3 (Nat.le_refl _) hf3.size
          go_wp2_with fail
          refine (HNn.out _).mono ?_
          rintro e w5 ⟨v5, rfl, hown5, hf5⟩
          have hown4 := hown4.fr hf5
          have hf5' := Fr.below hf4 (Fr.size hf4) hf5
          go_wp2_with (at_builtin; refine wpList_app eB rfl (.tmp 52) (.tmp 55) 31 rfl Tryz.underlying31 w.heap.size rfl hown4 _ _ rfl hown5.see (by simp; omega) (Fr.size hf5') ?_)
          intro v6 w6 hap6
          go_wp2_with fail
          have hml4 : m2.length + nb.length + 1 + (d.length - d.length) * 11 ≤ l.length * 21 := by omega
          refine ⟨⟨d.drop d.length, some ⟨b, off2, none⟩, cap2, m2 ++ r0.level :: nb, by rw [List.length_drop]; omega, by rw [List.length_drop, Nat.sub_self], by rw [List.length_drop, Nat.sub_self] at *; exact hfsee, by rw [List.length_drop]; simp; omega, hap6.own, HC3.out, hap6.below hown4 hf5' (Nat.le_refl _) (Fr.size hf5')⟩, by show 0 < d.length; omega⟩
     · have hd0' : ¬ ((0 : Int) < d.length) := by omega
       have HE : Hid (columnsL l = m2) := by
        have : d = [] := List.eq_nil_of_length_eq_zero (by omega)
        show _ = _; rw [HC.out, this]; simp [levelsL]
       go_wp2_with fail
       go_ret
       exact ⟨_, rfl, by rw [HE.out]; exact hout2, hf2⟩
set_option maxRecDepth 512
theorem levAt {w : World} {b off n cap : Nat} {l : List Rec} (hs : See w eR (.slice (some ⟨b, off, none⟩) n cap) l) (k : Nat) (hk : k < l.length) : ∃ x, Hid ((l.map (·.level))[k]? = some x) ∧ w.cell? ⟨b, off + k * 4 + 1, none⟩ = some (u8 x) := by
 obtain ⟨b', off', cap', hv, x0, x1, x2, x3⟩ := recAt hs k hk
 cases hv
 exact ⟨l[k].level, by show _ = _; simp [hk], x1⟩
def RunTo (lv : List UInt8) (i e : Nat) : Prop := e ≤ lv.length ∧ (∀ j, i ≤ j → j < e → 0 < j ∧ lv[j]? = lv[j - 1]?) ∧ (e < lv.length → e = 0 ∨ lv[e]? ≠ lv[e - 1]?)
theorem runTo_mk (lv : List UInt8) (k n : Nat) (x : UInt8) (hn : 1 ≤ n) (hl : k + n ≤ lv.length) (hx : lv[k]? = some x) (ha : ∀ j, k < j → j < k + n → lv[j]? = some x) (he : k + n < lv.length → lv[k + n]? ≠ some x) : RunTo lv (k + 1) (k + n) := by
 have hall : ∀ j, k ≤ j → j < k + n → lv[j]? = some x := fun j h1 h2 => by
  by_cases h : j = k
  · rw [h]; exact hx
  · exact ha j (by omega) h2
 refine ⟨hl, fun j h1 h2 => ⟨by omega, by rw [hall j (by omega) h2, hall (j - 1) (by omega) (by omega)]⟩, fun h => .inr ?_⟩
 rw [hall (k + n - 1) (by omega) (by omega)]; exact he h
set_option maxRecDepth 100000
theorem RColumns_any (v : Value) (l : List Rec) (w : World) (hs : See w eR v l) (hl : l.length ≤ 20000) :
  Calls Tryz.prog 48 #[v] w fun e w' => ∃ v, e = .returned v ∧ Ow w' w.heap.size eB v (columnsL l) ∧ Fr w w' := by
 obtain ⟨a, cap, hv, hcap1, hcap2, hnone⟩ := hs.shape
 subst hv
 unfold maxLen at hcap2
 have HZ := hid RZig_any
 have HN := hid RNum_any
 go_enter Tryz.func48, Tryz.ntmps48
 go_wp2_with fail
 go_loopw [3, 4, 5] (fun ov tv iv wr => ∃ (k was : Nat) (m : List UInt8), k ≤ l.length ∧ iv = N k ∧ tv = .int .u64 (was : Int) ∧ Hid (was < 18446744073709551616) ∧ m.length ≤ k * 10 ∧ Ow wr w.heap.size eB ov m ∧ Hid (timesGo 0 (l.map fun r => r.time.toNat) = m ++ timesGo was ((l.drop k).map fun r => r.time.toNat)) ∧ Fr w wr) (fun _ _ iv _ => l.length - (intOf iv).toNat)
 case atStart => exact ⟨0, 0, [], Nat.zero_le _, rfl, rfl, hid (by decide), by simp, Ow.nil, rfl, Fr.refl w⟩
 case round =>
  obtain ⟨k, was, m, hk, rfl, rfl, HW, hml, hout, HM, hf⟩ := hrel
  by_cases hlt : k < l.length
  · obtain ⟨b, off, cap', hv, c0, c1, c2, c3⟩ := recAt (hs.fr hf) k hlt
    have HM2 : Hid (timesGo 0 (l.map fun r => r.time.toNat) = (m ++ numB (zigN (dif64 l[k].time.toNat was))) ++ timesGo l[k].time.toNat ((l.drop (k + 1)).map fun r => r.time.toNat)) := by
     show _ = _; rw [HM.out, timesGo_drop was l k hlt]; simp
    clear HM
    have HT := hid (UInt64.toNat_lt l[k].time)
    obtain ⟨r, hr0⟩ : ∃ r, l[k] = r := ⟨_, rfl⟩
    rw [hr0] at c0 c1 c2 c3 HM2 HT
    have HR0 := hid hr0
    clear hr0
    have hwr := dif64_wrap r.time.toNat was HT.out HW.out
    have HD := hid (dif64_lt r.time.toNat was)
    generalize dif64 r.time.toNat was = d at *
    have HZd := hid (HZ.out d HD.out)
    have HZl := hid (zigN_lt d HD.out)
    have hnl := numB_le (zigN d) HZl.out
    have HNd := hid (HN.out (zigN d) HZl.out)
    generalize zigN d = z at *
    generalize numB z = nb at *
    cases hv
    have i1 : (0 : Int) ≤ k := by omega
    have i2 : (k : Int) < l.length := by omega
    go_wp2_with fail
    refine HZd.out _ |>.mono ?_
    rintro e w0 ⟨rfl, rfl⟩
    go_wp2_with fail
    refine (HNd.out _).mono ?_
    rintro e w1 ⟨v1, rfl, hown1, hf1⟩
    have hout1 := hout.fr hf1
    have hf01 := hf.trans hf1
    have z0 := hf1.cell c0
    go_wp2_with (at_builtin; refine wpList_app eB rfl (.tmp 14) (.tmp 23) 31 rfl Tryz.underlying31 w.heap.size rfl hout1 _ _ rfl hown1.see (by omega) hf01.size ?_)
    intro v' w4 hap
    have hf4 := hap.below hout1 hf01 (Nat.le_refl _) hf01.size
    obtain ⟨b4, off4, cap4, hv4, d0, d1, d2, d3⟩ := recAt (hs.fr hf4) k hlt
    rw [HR0.out] at d0
    cases hv4
    go_wp2_with fail
    exact ⟨⟨k + 1, r.time.toNat, m ++ nb, by omega, by go_num, rfl, HT.out, by rw [List.length_append]; omega, hap.own, HM2.out, hf4⟩, by simp [intOf]; omega⟩
  · obtain rfl : k = l.length := by omega
    have hnl : ¬ ((l.length : Int) < l.length) := by omega
    have HM2 : Hid (columnsL l = m ++ levelsL (l.map (·.level))) := by
     have h := HM.out
     rw [List.drop_length, List.map_nil, timesGo, List.append_nil] at h
     show _ = _; unfold columnsL; rw [h]
    clear HM
    go_wp2_with fail
    go_loopw [3, 6] (fun ov iv wr2 => ∃ (k e : Nat) (m : List UInt8), k ≤ l.length ∧ k ≤ e ∧ iv = N k ∧ m.length ≤ l.length * 10 + e * 11 ∧ e ≤ l.length ∧ Hid (RunTo (l.map (·.level)) k e) ∧ Ow wr2 w.heap.size eB ov m ∧ Hid (columnsL l = m ++ levelsL ((l.map (·.level)).drop e)) ∧ Fr w wr2) (fun _ iv _ => l.length - (intOf iv).toNat)
    case atStart => exact ⟨0, 0, m, Nat.zero_le _, Nat.le_refl _, rfl, by omega, Nat.zero_le _, ⟨Nat.zero_le _, fun j h1 h2 => by omega, fun _ => .inl rfl⟩, hout, HM2.out, hf⟩
    case round =>
     generalize wr = wr2 at *
     clear hout hf HM2
     obtain ⟨k, e, m2, hkl, hke, rfl, hml2, hel, HT, hout2, HC, hf2⟩ := hrel
     by_cases hlt : k < l.length
     · obtain ⟨b, off, cap', hv, x0, x1, x2, x3⟩ := recAt (hs.fr hf2) k hlt
       clear x0 x1 x2 x3
       cases hv
       have i1 : (0 : Int) ≤ k := by omega
       have i2 : (k : Int) < l.length := by omega
       obtain ⟨x, HX, hx⟩ := levAt (hs.fr hf2) k hlt
       by_cases hlt2 : k < e
       · have hk0 : 0 < k := (HT.out.2.1 k (Nat.le_refl _) hlt2).1
         obtain ⟨y, HY, hy⟩ := levAt (hs.fr hf2) (k - 1) (by omega)
         obtain rfl : x = y := by
          have := (HT.out.2.1 k (Nat.le_refl _) hlt2).2
          rw [HX.out, HY.out] at this; exact Option.some.inj this
         have HT2 : Hid (RunTo (l.map (·.level)) (k + 1) e) := ⟨HT.out.1, fun j h1 h2 => HT.out.2.1 j (by omega) h2, HT.out.2.2⟩
         have hkp : (0 : Int) < k := by omega
         have hk1 : IntKind.i64.wrap ((k : Int) - 1) = ((k - 1 : Nat) : Int) := by rw [IntWalk.i64_in _ (by omega)]; omega
         have hkk : k - 1 < l.length := by omega
         generalize k - 1 = k1 at *
         have j1 : (0 : Int) ≤ (k1 : Nat) := by omega
         have j2 : ((k1 : Nat) : Int) < l.length := by omega
         go_upto_region 11 with fail
         go_quiet (fail)
         go_wp2_with fail
         exact ⟨⟨k + 1, e, m2, by omega, by omega, by go_num, by omega, hel, HT2.out, hout2.fr ((Fr.refl _).drewN _), HC.out, hf2.drewN _⟩, by simp [intOf]; omega⟩
       · obtain rfl : k = e := by omega
         have HT1 : Hid (k = 0 ∨ (l.map (·.level))[k]? ≠ (l.map (·.level))[k - 1]?) := HT.out.2.2 (by simpa using hlt)
         have HC2 : Hid (columnsL l = m2 ++ lvGo x 1 ((l.map (·.level)).drop (k + 1))) := by
          show _ = _; rw [HC.out, levels_cons _ k (by simpa using hlt)]
          have := HX.out
          rw [List.getElem?_eq_getElem (by simpa using hlt)] at this
          rw [Option.some.inj this]
         clear HT HC
         by_cases hk0 : k = 0
         · have hkp : decide ((0 : Int) < k) = false := by simp; omega
           have hkp2 : decide (0 < k) = false := by simp; omega
           clear hk0 HT1
           go_upto_region 11 with fail
           go_quiet (fail)
           generalize hWW : wr2.drewN nq = WW at *
           have hF00 : Fr wr2 WW := by rw [← hWW]; exact (Fr.refl _).drewN _
           have hF0 : Fr w WW := hf2.trans hF00
           clear hWW
           have hx0 := hF00.cell hx
           go_wp2_with fail
           go_loopw [7] (fun nv wr3 => ∃ n : Nat, 1 ≤ n ∧ k + n ≤ l.length ∧ nv = N n ∧ Fr WW wr3 ∧ Hid (columnsL l = m2 ++ lvGo x n ((l.map (·.level)).drop (k + n))) ∧ Hid (∀ j, k < j → j < k + n → (l.map (·.level))[j]? = some x)) (fun nv _ => l.length - (intOf nv).toNat)
           case atStart => exact ⟨1, Nat.le_refl _, by omega, rfl, Fr.refl _, HC2.out, fun j h1 h2 => by omega⟩
           case round =>
            obtain ⟨n, hn1, hnd, rfl, hfq, HI, HA⟩ := hrel
            have z1 := hfq.cell hx0
            have hwk : IntKind.i64.wrap ((k : Int) + n) = (k : Int) + n := IntWalk.i64_in _ (by omega)
            by_cases hnl : k + n < l.length
            · obtain ⟨y, HY, hy⟩ := levAt (hs.fr (hF0.trans hfq)) (k + n) hnl
              have HYg : Hid (∃ h, (l.map (·.level))[k + n]'h = y) := by
               have := HY.out
               rw [List.getElem?_eq_getElem (by simpa using hnl)] at this
               exact ⟨by simpa using hnl, Option.some.inj this⟩
              have hin' : (k : Int) + n < l.length := by omega
              have j1 : (0 : Int) ≤ (k : Int) + n := by omega
              have j2 : ((k : Int) + n).toNat = k + n := by omega
              by_cases hlv : y = x
              · subst hlv
                have HI2 : Hid (columnsL l = m2 ++ lvGo y (n + 1) ((l.map (·.level)).drop (k + (n + 1)))) := by
                 obtain ⟨h1, h2⟩ := HYg.out
                 show _ = _; rw [HI.out, lvGo_on y n _ (k + n) h1 h2, Nat.add_assoc]
                go_upto_region 13 with fail
                go_quiet (fail)
                go_wp2_with fail
                refine ⟨⟨n + 1, by omega, by omega, by go_num, hfq.drewN _, HI2.out, ?_⟩, by simp [intOf]; omega⟩
                intro j h1 h2
                by_cases hj : j = k + n
                · rw [hj]; exact HY.out
                · exact HA.out j h1 (by omega)
              · have HE : Hid (columnsL l = m2 ++ ((x :: numB n) ++ levelsL ((l.map (·.level)).drop (k + n)))) := by
                  obtain ⟨h1, h2⟩ := HYg.out
                  show _ = _; rw [HI.out, lvGo_off x n _ (k + n) h1 (by rw [h2]; exact hlv)]
                have HT3 : Hid (RunTo (l.map (·.level)) (k + 1) (k + n)) := runTo_mk _ k n x hn1 (by simp; omega) HX.out HA.out (fun _ h => by rw [HY.out] at h; exact hlv (Option.some.inj h))
                have hlv' : ((y.toNat : Int) == x.toNat) = false := by
                 rw [beq_eq_false_iff_ne]; intro h; exact hlv (UInt8.toNat_inj.1 (by omega))
                clear HI HA HY HYg
                go_upto_region 13 with fail
                go_quiet (fail)
                go_upto_region 15 with fail
                generalize hWV : wr.drewN nq = WV at *
                have hF1 : Fr w WV := by rw [← hWV]; exact (hF0.trans hfq).drewN _
                have hF2 : Fr wr2 WV := by rw [← hWV]; exact (hF00.trans hfq).drewN _
                have hxc := (levAt (hs.fr hF1) k hlt)
                obtain ⟨x', HX', hx'⟩ := hxc
                obtain rfl : x = x' := by have := HX'.out; rw [HX.out] at this; exact Option.some.inj this
                clear hWV hx hx0
                have hout3 := hout2.fr hF2
                have hnb := numB_le n (by omega)
                have HNn := hid (HN.out n (by omega))
                have HC3 : Hid (columnsL l = (m2 ++ x :: numB n) ++ levelsL ((l.map (·.level)).drop (k + n))) := by
                 show _ = _; rw [HE.out]; simp
                generalize numB n = nb at *
                go_wp2_with (at_builtin; refine wpList_app1 eB rfl (.tmp 75) (.tmp 81) 31 rfl Tryz.underlying31 w.heap.size rfl hout3 [x] _ _ _ rfl rfl rfl (by simp; omega) hF1.size ?_)
                intro v4 w4 hap
                have hown4 := hap.own
                have hf4 := hap.below hout3 hF1 (Nat.le_refl _) hF1.size
                go_wp2_with fail
                refine (HNn.out _).mono ?_
                rintro e w5 ⟨v5, rfl, hown5, hf5⟩
                have hown4 := hown4.fr hf5
                have hf5' := Fr.below hf4 (Fr.size hf4) hf5
                go_wp2_with (at_builtin; refine wpList_app eB rfl (.tmp 83) (.tmp 86) 31 rfl Tryz.underlying31 w.heap.size rfl hown4 _ _ rfl hown5.see (by simp; omega) (Fr.size hf5') ?_)
                intro v6 w6 hap6
                go_wp2_with fail
                exact ⟨⟨k + 1, k + n, m2 ++ x :: nb, by omega, by omega, by go_num, by simp; omega, by omega, HT3.out, hap6.own, HC3.out, hap6.below hown4 hf5' (Nat.le_refl _) (Fr.size hf5')⟩, by simp [intOf]; omega⟩
            · have HE : Hid (columnsL l = m2 ++ ((x :: numB n) ++ levelsL ((l.map (·.level)).drop (k + n)))) := by
                show _ = _; rw [HI.out, lvGo_end x n _ (k + n) (by simp; omega)]
              have HT3 : Hid (RunTo (l.map (·.level)) (k + 1) (k + n)) := runTo_mk _ k n x hn1 (by simp; omega) HX.out HA.out (fun h => by simp at h; omega)
              clear HI HA
              have hnn : decide ((k : Int) + n < l.length) = false := by simp; omega
              have hnn2 : decide (k + n < l.length) = false := by simp; omega
              go_upto_region 13 with fail
              go_quiet (fail)
              go_upto_region 15 with fail
              generalize hWV : wr.drewN nq = WV at *
              have hF1 : Fr w WV := by rw [← hWV]; exact (hF0.trans hfq).drewN _
              have hF2 : Fr wr2 WV := by rw [← hWV]; exact (hF00.trans hfq).drewN _
              have hxc := (levAt (hs.fr hF1) k hlt)
              obtain ⟨x', HX', hx'⟩ := hxc
              obtain rfl : x = x' := by have := HX'.out; rw [HX.out] at this; exact Option.some.inj this
              clear hWV hx hx0
              have hout3 := hout2.fr hF2
              have hnb := numB_le n (by omega)
              have HNn := hid (HN.out n (by omega))
              have HC3 : Hid (columnsL l = (m2 ++ x :: numB n) ++ levelsL ((l.map (·.level)).drop (k + n))) := by
               show _ = _; rw [HE.out]; simp
              generalize numB n = nb at *
              go_wp2_with (at_builtin; refine wpList_app1 eB rfl (.tmp 75) (.tmp 81) 31 rfl Tryz.underlying31 w.heap.size rfl hout3 [x] _ _ _ rfl rfl rfl (by simp; omega) hF1.size ?_)
              intro v4 w4 hap
              have hown4 := hap.own
              have hf4 := hap.below hout3 hF1 (Nat.le_refl _) hF1.size
              go_wp2_with fail
              refine (HNn.out _).mono ?_
              rintro e w5 ⟨v5, rfl, hown5, hf5⟩
              have hown4 := hown4.fr hf5
              have hf5' := Fr.below hf4 (Fr.size hf4) hf5
              go_wp2_with (at_builtin; refine wpList_app eB rfl (.tmp 83) (.tmp 86) 31 rfl Tryz.underlying31 w.heap.size rfl hown4 _ _ rfl hown5.see (by simp; omega) (Fr.size hf5') ?_)
              intro v6 w6 hap6
              go_wp2_with fail
              exact ⟨⟨k + 1, k + n, m2 ++ x :: nb, by omega, by omega, by go_num, by simp; omega, by omega, HT3.out, hap6.own, HC3.out, hap6.below hown4 hf5' (Nat.le_refl _) (Fr.size hf5')⟩, by simp [intOf]; omega⟩
         · obtain ⟨y0, HY0, hy0⟩ := levAt (hs.fr hf2) (k - 1) (by omega)
           have hxy : x ≠ y0 := by
            intro h
            rcases HT1.out with h1 | h1
            · exact hk0 h1
            · rw [HX.out, HY0.out, h] at h1; exact h1 rfl
           have hxy' : ((x.toNat : Int) == y0.toNat) = false := by
            rw [beq_eq_false_iff_ne]; intro h; exact hxy (UInt8.toNat_inj.1 (by omega))
           have hkp : (0 : Int) < k := by omega
           have hkp2 : 0 < k := by omega
           have hk1 : IntKind.i64.wrap ((k : Int) - 1) = ((k - 1 : Nat) : Int) := by rw [IntWalk.i64_in _ (by omega)]; omega
           have hkk : k - 1 < l.length := by omega
           clear HY0
           generalize k - 1 = k1 at *
           have g1 : (0 : Int) ≤ (k1 : Nat) := by omega
           have g2 : ((k1 : Nat) : Int) < l.length := by omega
           go_upto_region 11 with fail
           go_quiet (fail)
           generalize hWW : wr2.drewN nq = WW at *
           have hF00 : Fr wr2 WW := by rw [← hWW]; exact (Fr.refl _).drewN _
           have hF0 : Fr w WW := hf2.trans hF00
           clear hWW
           have hx0 := hF00.cell hx
           go_wp2_with fail
           go_loopw [7] (fun nv wr3 => ∃ n : Nat, 1 ≤ n ∧ k + n ≤ l.length ∧ nv = N n ∧ Fr WW wr3 ∧ Hid (columnsL l = m2 ++ lvGo x n ((l.map (·.level)).drop (k + n))) ∧ Hid (∀ j, k < j → j < k + n → (l.map (·.level))[j]? = some x)) (fun nv _ => l.length - (intOf nv).toNat)
           case atStart => exact ⟨1, Nat.le_refl _, by omega, rfl, Fr.refl _, HC2.out, fun j h1 h2 => by omega⟩
           case round =>
            obtain ⟨n, hn1, hnd, rfl, hfq, HI, HA⟩ := hrel
            have z1 := hfq.cell hx0
            have hwk : IntKind.i64.wrap ((k : Int) + n) = (k : Int) + n := IntWalk.i64_in _ (by omega)
            by_cases hnl : k + n < l.length
            · obtain ⟨y, HY, hy⟩ := levAt (hs.fr (hF0.trans hfq)) (k + n) hnl
              have HYg : Hid (∃ h, (l.map (·.level))[k + n]'h = y) := by
               have := HY.out
               rw [List.getElem?_eq_getElem (by simpa using hnl)] at this
               exact ⟨by simpa using hnl, Option.some.inj this⟩
              have hin' : (k : Int) + n < l.length := by omega
              have j1 : (0 : Int) ≤ (k : Int) + n := by omega
              have j2 : ((k : Int) + n).toNat = k + n := by omega
              by_cases hlv : y = x
              · subst hlv
                have HI2 : Hid (columnsL l = m2 ++ lvGo y (n + 1) ((l.map (·.level)).drop (k + (n + 1)))) := by
                 obtain ⟨h1, h2⟩ := HYg.out
                 show _ = _; rw [HI.out, lvGo_on y n _ (k + n) h1 h2, Nat.add_assoc]
                go_upto_region 13 with fail
                go_quiet (fail)
                go_wp2_with fail
                refine ⟨⟨n + 1, by omega, by omega, by go_num, hfq.drewN _, HI2.out, ?_⟩, by simp [intOf]; omega⟩
                intro j h1 h2
                by_cases hj : j = k + n
                · rw [hj]; exact HY.out
                · exact HA.out j h1 (by omega)
              · have HE : Hid (columnsL l = m2 ++ ((x :: numB n) ++ levelsL ((l.map (·.level)).drop (k + n)))) := by
                  obtain ⟨h1, h2⟩ := HYg.out
                  show _ = _; rw [HI.out, lvGo_off x n _ (k + n) h1 (by rw [h2]; exact hlv)]
                have HT3 : Hid (RunTo (l.map (·.level)) (k + 1) (k + n)) := runTo_mk _ k n x hn1 (by simp; omega) HX.out HA.out (fun _ h => by rw [HY.out] at h; exact hlv (Option.some.inj h))
                have hlv' : ((y.toNat : Int) == x.toNat) = false := by
                 rw [beq_eq_false_iff_ne]; intro h; exact hlv (UInt8.toNat_inj.1 (by omega))
                clear HI HA HY HYg
                go_upto_region 13 with fail
                go_quiet (fail)
                go_upto_region 15 with fail
                generalize hWV : wr.drewN nq = WV at *
                have hF1 : Fr w WV := by rw [← hWV]; exact (hF0.trans hfq).drewN _
                have hF2 : Fr wr2 WV := by rw [← hWV]; exact (hF00.trans hfq).drewN _
                have hxc := (levAt (hs.fr hF1) k hlt)
                obtain ⟨x', HX', hx'⟩ := hxc
                obtain rfl : x = x' := by have := HX'.out; rw [HX.out] at this; exact Option.some.inj this
                clear hWV hx hx0
                have hout3 := hout2.fr hF2
                have hnb := numB_le n (by omega)
                have HNn := hid (HN.out n (by omega))
                have HC3 : Hid (columnsL l = (m2 ++ x :: numB n) ++ levelsL ((l.map (·.level)).drop (k + n))) := by
                 show _ = _; rw [HE.out]; simp
                generalize numB n = nb at *
                go_wp2_with (at_builtin; refine wpList_app1 eB rfl (.tmp 75) (.tmp 81) 31 rfl Tryz.underlying31 w.heap.size rfl hout3 [x] _ _ _ rfl rfl rfl (by simp; omega) hF1.size ?_)
                intro v4 w4 hap
                have hown4 := hap.own
                have hf4 := hap.below hout3 hF1 (Nat.le_refl _) hF1.size
                go_wp2_with fail
                refine (HNn.out _).mono ?_
                rintro e w5 ⟨v5, rfl, hown5, hf5⟩
                have hown4 := hown4.fr hf5
                have hf5' := Fr.below hf4 (Fr.size hf4) hf5
                go_wp2_with (at_builtin; refine wpList_app eB rfl (.tmp 83) (.tmp 86) 31 rfl Tryz.underlying31 w.heap.size rfl hown4 _ _ rfl hown5.see (by simp; omega) (Fr.size hf5') ?_)
                intro v6 w6 hap6
                go_wp2_with fail
                exact ⟨⟨k + 1, k + n, m2 ++ x :: nb, by omega, by omega, by go_num, by simp; omega, by omega, HT3.out, hap6.own, HC3.out, hap6.below hown4 hf5' (Nat.le_refl _) (Fr.size hf5')⟩, by simp [intOf]; omega⟩
            · have HE : Hid (columnsL l = m2 ++ ((x :: numB n) ++ levelsL ((l.map (·.level)).drop (k + n)))) := by
                show _ = _; rw [HI.out, lvGo_end x n _ (k + n) (by simp; omega)]
              have HT3 : Hid (RunTo (l.map (·.level)) (k + 1) (k + n)) := runTo_mk _ k n x hn1 (by simp; omega) HX.out HA.out (fun h => by simp at h; omega)
              clear HI HA
              have hnn : decide ((k : Int) + n < l.length) = false := by simp; omega
              have hnn2 : decide (k + n < l.length) = false := by simp; omega
              go_upto_region 13 with fail
              go_quiet (fail)
              go_upto_region 15 with fail
              generalize hWV : wr.drewN nq = WV at *
              have hF1 : Fr w WV := by rw [← hWV]; exact (hF0.trans hfq).drewN _
              have hF2 : Fr wr2 WV := by rw [← hWV]; exact (hF00.trans hfq).drewN _
              have hxc := (levAt (hs.fr hF1) k hlt)
              obtain ⟨x', HX', hx'⟩ := hxc
              obtain rfl : x = x' := by have := HX'.out; rw [HX.out] at this; exact Option.some.inj this
              clear hWV hx hx0
              have hout3 := hout2.fr hF2
              have hnb := numB_le n (by omega)
              have HNn := hid (HN.out n (by omega))
              have HC3 : Hid (columnsL l = (m2 ++ x :: numB n) ++ levelsL ((l.map (·.level)).drop (k + n))) := by
               show _ = _; rw [HE.out]; simp
              generalize numB n = nb at *
              go_wp2_with (at_builtin; refine wpList_app1 eB rfl (.tmp 75) (.tmp 81) 31 rfl Tryz.underlying31 w.heap.size rfl hout3 [x] _ _ _ rfl rfl rfl (by simp; omega) hF1.size ?_)
              intro v4 w4 hap
              have hown4 := hap.own
              have hf4 := hap.below hout3 hF1 (Nat.le_refl _) hF1.size
              go_wp2_with fail
              refine (HNn.out _).mono ?_
              rintro e w5 ⟨v5, rfl, hown5, hf5⟩
              have hown4 := hown4.fr hf5
              have hf5' := Fr.below hf4 (Fr.size hf4) hf5
              go_wp2_with (at_builtin; refine wpList_app eB rfl (.tmp 83) (.tmp 86) 31 rfl Tryz.underlying31 w.heap.size rfl hown4 _ _ rfl hown5.see (by simp; omega) (Fr.size hf5') ?_)
              intro v6 w6 hap6
              go_wp2_with fail
              exact ⟨⟨k + 1, k + n, m2 ++ x :: nb, by omega, by omega, by go_num, by simp; omega, by omega, HT3.out, hap6.own, HC3.out, hap6.below hown4 hf5' (Nat.le_refl _) (Fr.size hf5')⟩, by simp [intOf]; omega⟩
     · obtain rfl : k = l.length := by omega
       obtain rfl : e = l.length := by omega
       have hnn : ¬ ((l.length : Int) < l.length) := by omega
       have HE : Hid (columnsL l = m2) := by
        show _ = _; rw [HC.out, List.drop_of_length_le (by simp)]; simp [levelsL]
       go_wp2_with fail
       go_ret
       exact ⟨_, rfl, by rw [HE.out]; exact hout2, hf2⟩
set_option maxRecDepth 512
end Go.Proofs.YtmfbmjplmaimbaaGreatDoor
