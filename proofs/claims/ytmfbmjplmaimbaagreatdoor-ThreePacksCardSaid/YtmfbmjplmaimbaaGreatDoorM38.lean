/- Parts of the proof of ThreePacks: L7. -/
import Derived.Test.YtmfbmjplmaimbaaGreatDoorM16
import Derived.Test.YtmfbmjplmaimbaaGreatDoorM37
set_option linter.unusedVariables false
set_option linter.unusedSectionVars false
set_option linter.unusedSimpArgs false
set_option maxHeartbeats 8000000
namespace Go.Proofs.YtmfbmjplmaimbaaGreatDoor
open Go.RowKit Go.Fk
def ValO (w : World) (base : Nat) (ms : List ItM) : Prop := ∀ m ∈ ms, Ow w base eJ m.hd.v m.it.syms
theorem ValO.fr {w w' : World} {base : Nat} {ms : List ItM} (h : ValO w base ms) (hf : Fr w w') : ValO w' base ms := fun m hm => (h m hm).fr hf
theorem ValO.app {w w' : World} {base b : Nat} {ms l l' : List ItM} {v v' : Value} (h : ValO w base ms) (ho : Ow w b eRI v l) (ha : App b eRI l' w v v' w') : ValO w' base ms := fun m hm => own_app (h m hm) ho ha (by decide)
theorem ValO.snoc {w : World} {base : Nat} {ms : List ItM} {x : ItM} (h : ValO w base ms) (hx : Ow w base eJ x.hd.v x.it.syms) : ValO w base (ms ++ [x]) := fun m hm => by
 rcases List.mem_append.1 hm with hm | hm
 · exact h m hm
 · rw [List.mem_singleton.1 hm]; exact hx
def usedTo (often : List Nat) (k : Nat) : List Nat := (symsTo often k).foldl (putK fun s => often.getD s 0) []
theorem usedTo_all (often : List Nat) : usedTo often often.length = usedL often := rfl
theorem usedTo_succ (often : List Nat) (k : Nat) (h : k < often.length) : usedTo often (k + 1) = if 0 < often[k] then putK (fun s => often.getD s 0) (usedTo often k) k else usedTo often k := by
 unfold usedTo
 rw [symsTo_succ often k h]
 split
 · rw [List.foldl_append]; rfl
 · rfl
theorem putK_len (key : Nat → Nat) (l : List Nat) (x : Nat) : (putK key l x).length = l.length + 1 := by rw [(putK_perm key l x).length_eq]; rfl
theorem usedTo_len (often : List Nat) (k : Nat) : (usedTo often k).length ≤ k := by
 unfold usedTo
 have : ∀ (l acc : List Nat), (l.foldl (putK fun s => often.getD s 0) acc).length = acc.length + l.length := by
  intro l
  induction l with
  | nil => intro acc; rfl
  | cons x l ih => intro acc; rw [List.foldl_cons, ih, putK_len, List.length_cons]; omega
 rw [this]; have := symsTo_len often k; simpa using this
theorem putK_mem (key : Nat → Nat) (l : List Nat) (x y : Nat) : y ∈ putK key l x ↔ y = x ∨ y ∈ l := by rw [(putK_perm key l x).mem_iff, List.mem_cons]
theorem usedTo_lt (often : List Nat) (k : Nat) : ∀ s ∈ usedTo often k, s < k := by
 unfold usedTo
 have : ∀ (l acc : List Nat), (∀ s ∈ acc, s < k) → (∀ s ∈ l, s < k) → ∀ s ∈ l.foldl (putK fun s => often.getD s 0) acc, s < k := by
  intro l
  induction l with
  | nil => intro acc h _; exact h
  | cons x l ih =>
   intro acc h1 h2
   refine ih _ (fun s hs => ?_) fun s hs => h2 s (by simp [hs])
   rcases (putK_mem _ _ _ _).1 hs with rfl | hs
   · exact h2 s (by simp)
   · exact h1 s hs
 exact this _ [] (by simp) fun s hs => List.mem_range.1 (List.mem_filter.1 hs).1
theorem drop_map_end (rs : List ItM) (i : Nat) (h : rs.length ≤ i + 1) : pairsI ((rs.drop i).map (·.it)) = [] := by
 have hl : (rs.drop i).length ≤ 1 := by rw [List.length_drop]; omega
 generalize rs.drop i = r at *
 match r, hl with
 | [], _ => rfl
 | [_], _ => rfl
set_option maxRecDepth 100000
theorem RLens_any (v : Value) (often : List Nat) (w : World) (hs : See w eV v often) (hn : often.length ≤ 300) (h32 : ∀ x ∈ often, x < 4294967296) :
  Calls Tryz.prog 156 #[v, N 15] w fun e w' => ∃ v, e = .returned (.tuple #[v, .int .i64 0]) ∧ Ow w' w.heap.size eB v (lensB often) ∧ Fr w w' := by
 obtain ⟨a, cap, hv, hcap1, hcap2, hnone⟩ := hs.shape
 subst hv
 unfold maxLen at hcap2
 have hL1 : ¬ (300 : Int) < often.length := by omega
 have HB : Hid (lensB often = cntB often.length (lenN often)) := rfl
 have HLN : Hid (∀ s, lenN often s = if (usedL often).length = 0 then 0
  else if (usedL often).length = 1 then (if s = (usedL often).getD 0 0 then 1 else 0)
  else (symsI ((rowI (leavesL often (usedL often)) 14).take (2 * (usedL often).length - 2))).count s) := fun _ => rfl
 generalize lensB often = RB at *
 generalize lenN often = ln at *
 go_enter Tryz.func156, Tryz.ntmps156
 go_wp2_with fail
 go_loopw [6, 7] (fun lv iv wr => ∃ (k : Nat) (ms : List ItM), k ≤ often.length ∧ iv = N k ∧ Ow wr w.heap.size eRI lv ms ∧ Hid (ms.map (·.it) = leavesL often (usedTo often k)) ∧ Hid (ValO wr w.heap.size ms) ∧ Fr w wr) (fun _ iv _ => often.length - (intOf iv).toNat)
 case atStart => exact ⟨0, [], Nat.zero_le _, rfl, Ow.nil, rfl, hid (fun m h => by simp at h), Fr.refl w⟩
 case round =>
  obtain ⟨k, ms, hk, rfl, hLv, HMs, HVal, hf⟩ := hrel
  obtain ⟨la, lc, hlv⟩ := hLv.shape'
  have hmsl : ms.length = (usedTo often k).length := by have := congrArg List.length HMs.out; rw [List.length_map, leavesL_len] at this; exact this
  have hul := usedTo_len often k
  have hms3 : ms.length ≤ 300 := by omega
  have HMSL := hid hmsl
  clear hmsl hul
  by_cases hlt : k < often.length
  · obtain ⟨b, off, cp, hv2, c0⟩ := vAt (hs.fr hf) k hlt
    have HSu := hid (usedTo_succ often k hlt)
    have h32' := h32 _ (List.getElem_mem hlt)
    have hgk : often.getD k 0 = often[k] := by rw [List.getD_eq_getElem?_getD, List.getElem?_eq_getElem hlt]; rfl
    generalize often[k] = x at *
    cases hv2
    have i1 : (0 : Int) ≤ k := by omega
    have i2 : (k : Int) < often.length := by omega
    by_cases hx : 0 < x
    · have hx0 : ((x : Int) == 0) = false := by simp; omega
      have hx1 : x ≠ 0 := by omega
      have HSu2 : Hid (usedTo often (k + 1) = putK (fun s => often.getD s 0) (usedTo often k) k) := by show _ = _; rw [HSu.out, if_pos hx]
      have hxw : IntKind.u64.wrap (x : Int) = x := IntWalk.u64_in _ (by omega)
      have HAt : Hid (∀ q (h : q < ms.length), ((ms[q].it.w.toNat : Int) = (often.getD ((usedTo often k).getD q 0) 0 : Nat)) ∧ often.getD ((usedTo often k).getD q 0) 0 < 4294967296) := fun q h => by
       have h1 := congrArg (fun l => l[q]?) HMs.out
       simp only [List.getElem?_map, List.getElem?_eq_getElem h, Option.map_some] at h1
       have hq : q < (usedTo often k).length := by have := HMSL.out; omega
       rw [leavesL_at often _ q hq] at h1
       have h2 := Option.some.inj h1
       have hlt3 := usedTo_lt often k _ (List.getElem_mem hq)
       have e1 : (usedTo often k).getD q 0 = (usedTo often k)[q] := by rw [List.getD_eq_getElem?_getD, List.getElem?_eq_getElem hq]; rfl
       have hb2 : often.getD ((usedTo often k)[q]) 0 < 4294967296 := by
        rw [List.getD_eq_getElem?_getD, List.getElem?_eq_getElem (by omega)]; exact h32 _ (List.getElem_mem _)
       rw [e1, h2]
       refine ⟨?_, hb2⟩
       show ((UInt64.ofNat (often.getD (usedTo often k)[q] 0)).toNat : Int) = _
       rw [UInt64.toNat_ofNat']; omega
      clear HSu
      generalize hfd : (fun i => decide ((fun s => often.getD s 0) k < (fun s => often.getD s 0) ((usedTo often k).getD i 0))) = fd at *
      have HFd := hid hfd
      clear hfd
      generalize wr = wo at *
      subst hlv
      go_wp2_with fail
      go_loopw [8] (fun av wr => ∃ (q : Nat), av = N q ∧ q ≤ ms.length ∧ Hid (downTo fd ms.length = downTo fd q) ∧ ∃ r, wr = wo.drewN r) (fun av _ => (intOf av).toNat)
      case atStart => exact ⟨ms.length, rfl, Nat.le_refl _, rfl, 0, rfl⟩
      case round =>
       obtain ⟨q, rfl, hq, HD, r, rfl⟩ := hrel
       have hfr := (Fr.refl wo).drewN r
       have hO1 := hLv.fr hfr
       have hF1 := hf.trans hfr
       have HV1 := hid (HVal.out.fr hfr)
       replace c0 := hfr.cell c0
       have HEnd : Hid (downTo fd ms.length = q → leavesL often (usedTo often (k + 1)) = (ms.take q).map (·.it) ++ ⟨UInt64.ofNat x, true, [k]⟩ :: (ms.drop q).map (·.it)) := fun e => by
        rw [HSu2.out]
        unfold putK
        rw [← HMSL.out, HFd.out, e, List.map_take, List.map_drop, HMs.out]
        unfold leavesL
        rw [List.map_append, List.map_take, List.map_cons, List.map_drop, hgk]
       obtain ⟨hrT, hsT⟩ := run_to eRI 243 Tryz.underlying243 hO1.see q hq
       obtain ⟨fa, fc, hrF, hsF⟩ := run_from eRI 243 Tryz.underlying243 hO1.see q hq
       have HRT := hid hrT
       have HRF := hid hrF
       have HST := hid hsT
       have HSF := hid hsF
       have hlT : (ms.take q).length = q := by rw [List.length_take]; omega
       have hlF : (ms.drop q).length = ms.length - q := List.length_drop
       have HLT := hid hlT
       have HLF := hid hlF
       clear hrT hrF hsT hsF hlT hlF hfr
       rcases Nat.eq_zero_or_pos q with h0 | hp
       · have h0' : ¬ (0 : Int) < q := by omega
         have h0a : decide ((0 : Int) < q) = false := decide_eq_false (by omega)
         have h0b : decide (0 < q) = false := decide_eq_false (by omega)
         have h0c : ¬ 0 < q := by omega
         have HDq : Hid (downTo fd q = q) := by show _ = _; rw [h0]; rfl
         clear HAt h0
         generalize wo.drewN r = W5 at *
         go_upto_region 9 with fail
         go_quiet (fail)
         have hfr2 := (Fr.refl W5).drewN nq
         replace c0 := hfr2.cell c0
         replace hO1 := hO1.fr hfr2
         replace hF1 := hF1.trans hfr2
         replace HV1 := hid (HV1.out.fr hfr2)
         replace HST := hid (HST.out.fr hfr2)
         replace HSF := hid (HSF.out.fr hfr2)
         have HEq := hid (HEnd.out (by rw [HD.out]; exact HDq.out))
         clear HEnd HD
         generalize hWq : W5.drewN nq = W at *
         clear hWq
         have hrT := HRT.out
         go_wp2_with (at_builtin; refine wpList_app eRI rfl (.tmp 64) (.tmp 67) 243 rfl Tryz.underlying243 W.heap.size rfl Ow.nil _ (ms.take (q)) rfl HST.out (by have := HLT.out; simp only [List.length_nil]; omega) (Nat.le_refl _) ?_)
         intro v1 w1 hap1
         have hFa : Fr W w1 := hap1.below Ow.nil (Fr.refl W) (Nat.le_refl _) (Nat.le_refl _)
         replace c0 := hFa.cell c0
         have hx64 : ((UInt64.ofNat x).toNat : Int) = x := by rw [UInt64.toNat_ofNat']; omega
         have HX64 := hid hx64
         have HXo := hid (own_lit (base := W.heap.size) eJ w1 #[N k] [k] 1 rfl (by simp [maxLen]) hFa.size rfl)
         have hAl : Fr w1 (w1.alloc (.cells #[N k] 3)) := (Fr.refl w1).alloc _
         rw [show (eJ : Elt Tryz.prog Nat).e = 3 from rfl] at HXo
         clear hx64
         have hO1a := hap1.own
         obtain ⟨y1, n1, z1, hv1⟩ := hO1a.shape
         subst hv1
         go_wp2_with (at_builtin; refine wpList_app1 eRI rfl (.tmp 69) (.tmp 78) 243 rfl Tryz.underlying243 W.heap.size rfl (hO1a.fr hAl) [⟨⟨UInt64.ofNat x, true, [k]⟩, ⟨some ⟨w1.heap.size, 0, none⟩, 1, 1⟩⟩] _ _ _ ?hc1 rfl ?hc0 ?hc2 ?hc3 ?_)
         case hc0 => rw [size_alloc]; rfl
         case hc1 => show _ = [Value.int .u64 ((UInt64.ofNat x).toNat : Int), _]; rw [HX64.out]; first | done | rfl
         case hc2 => have := HLT.out; simp only [List.length_append, List.length_nil, List.length_cons]; omega
         case hc3 => exact Nat.le_trans hFa.size hAl.size
         intro v2 w2 hap2
         have hFb : Fr W w2 := hap2.below (hO1a.fr hAl) (hFa.trans hAl) (Nat.le_refl _) (Nat.le_trans hFa.size hAl.size)
         have HXo2 := hid (own_app HXo.out (hO1a.fr hAl) hap2 (by decide))
         have hO2a := hap2.own
         obtain ⟨y2, n2, z2, hv2⟩ := hO2a.shape
         subst hv2
         have hrF2 := HRF.out
         have hsF2 := HSF.out.fr hFb
         go_wp2_with (at_builtin; refine wpList_app eRI rfl (.tmp 80) (.tmp 83) 243 rfl Tryz.underlying243 W.heap.size rfl hO2a _ (ms.drop (q)) rfl hsF2 ?hc4 hFb.size ?_)
         case hc4 => have h1 := HLT.out; have h2 := HLF.out; simp only [List.length_append, List.length_nil, List.length_cons]; omega
         intro v3 w3 hap3
         have hFc : Fr W w3 := hap3.below hO2a hFb (Nat.le_refl _) hFb.size
         have HXo3 := hid (own_app HXo2.out hO2a hap3 (by decide))
         go_wp2_with fail
         go_roundw
         case rel => exact ⟨k + 1, ms.take q ++ ⟨⟨UInt64.ofNat x, true, [k]⟩, ⟨some ⟨w1.heap.size, 0, none⟩, 1, 1⟩⟩ :: ms.drop q, by omega, by go_num, by simpa using hap3.own.rebase hF1.size, by show _ = _; rw [HEq.out]; simp, fun m hm => by
          rcases List.mem_append.1 hm with hm | hm
          · exact (HV1.out m (List.mem_of_mem_take hm)).fr hFc
          · rcases List.mem_cons.1 hm with hm | hm
            · rw [hm]; exact HXo3.out.rebase hF1.size
            · exact (HV1.out m (List.mem_of_mem_drop hm)).fr hFc, hF1.trans hFc⟩
         case measure => simp [intOf]; omega
       · obtain ⟨q1, hq1⟩ : ∃ q1, q = q1 + 1 := ⟨q - 1, by omega⟩
         obtain ⟨b3, off3, cp3, hv3, d0, d1⟩ := riAt hO1.see q1 (by omega)
         obtain ⟨e1, e2⟩ := HAt.out q1 (by omega)
         have HDf : Hid (downTo fd q = if fd q1 then downTo fd q1 else q) := by show _ = _; rw [hq1]; rfl
         have HFq : Hid (fd q1 = decide (x < often.getD ((usedTo often k).getD q1 0) 0)) := by show _ = _; rw [← HFd.out]; simp only [hgk]
         have hq1w : IntKind.i64.wrap ((q : Int) - 1) = (q1 : Int) := by rw [IntWalk.i64_in _ (by omega)]; omega
         rw [e1] at d0
         generalize often.getD ((usedTo often k).getD q1 0) 0 = kq at *
         generalize ms[q1].hd = hq at *
         cases hv3
         have i3 : (0 : Int) < (q : Int) := by omega
         have i3a : decide ((0 : Int) < q) = true := decide_eq_true (by omega)
         have i3b : decide (0 < q) = true := decide_eq_true (by omega)
         have i4 : (0 : Int) ≤ (q1 : Int) := by omega
         have i5 : (q1 : Int) < ms.length := by omega
         have hqq : q1 < q := by omega
         clear e1 HAt hq1
         generalize hWr : wo.drewN r = W5 at *
         have HWr := hid hWr
         clear hWr
         by_cases hg : x < kq
         · have hg' : (x : Int) < kq := by omega
           have hgd : decide ((x : Int) < kq) = true := decide_eq_true hg'
           have HD2 : Hid (downTo fd ms.length = downTo fd q1) := by show _ = _; rw [HD.out, HDf.out, HFq.out, decide_eq_true hg]; rfl
           clear HDf HFq HEnd HST HSF HRT HRF
           go_upto_region 9 with fail
           go_quiet (fail)
           go_wp2_with fail
           go_roundw
           case rel => exact ⟨q1, by first | rfl | go_num, by omega, HD2, r + nq, by rw [← HWr.out, World.drewN_drewN]⟩
           case measure => simp [intOf]; omega
         · have hg' : ¬ (x : Int) < kq := by omega
           have hgd : decide ((x : Int) < kq) = false := decide_eq_false hg'
           have HDf2 : Hid (downTo fd q = q) := by show _ = _; rw [HDf.out, HFq.out, decide_eq_false hg]; rfl
           clear HDf HFq
           go_upto_region 9 with fail
           go_quiet (fail)
           have hfr2 := (Fr.refl W5).drewN nq
           replace c0 := hfr2.cell c0
           replace hO1 := hO1.fr hfr2
           replace hF1 := hF1.trans hfr2
           replace HV1 := hid (HV1.out.fr hfr2)
           replace HST := hid (HST.out.fr hfr2)
           replace HSF := hid (HSF.out.fr hfr2)
           have HEq := hid (HEnd.out (by rw [HD.out]; exact HDf2.out))
           clear HEnd HD
           generalize hWq : W5.drewN nq = W at *
           clear hWq
           have hrT := HRT.out
           go_wp2_with (at_builtin; refine wpList_app eRI rfl (.tmp 64) (.tmp 67) 243 rfl Tryz.underlying243 W.heap.size rfl Ow.nil _ (ms.take (q)) rfl HST.out (by have := HLT.out; simp only [List.length_nil]; omega) (Nat.le_refl _) ?_)
           intro v1 w1 hap1
           have hFa : Fr W w1 := hap1.below Ow.nil (Fr.refl W) (Nat.le_refl _) (Nat.le_refl _)
           replace c0 := hFa.cell c0
           have hx64 : ((UInt64.ofNat x).toNat : Int) = x := by rw [UInt64.toNat_ofNat']; omega
           have HX64 := hid hx64
           have HXo := hid (own_lit (base := W.heap.size) eJ w1 #[N k] [k] 1 rfl (by simp [maxLen]) hFa.size rfl)
           have hAl : Fr w1 (w1.alloc (.cells #[N k] 3)) := (Fr.refl w1).alloc _
           rw [show (eJ : Elt Tryz.prog Nat).e = 3 from rfl] at HXo
           clear hx64
           have hO1a := hap1.own
           obtain ⟨y1, n1, z1, hv1⟩ := hO1a.shape
           subst hv1
           go_wp2_with (at_builtin; refine wpList_app1 eRI rfl (.tmp 69) (.tmp 78) 243 rfl Tryz.underlying243 W.heap.size rfl (hO1a.fr hAl) [⟨⟨UInt64.ofNat x, true, [k]⟩, ⟨some ⟨w1.heap.size, 0, none⟩, 1, 1⟩⟩] _ _ _ ?hc1 rfl ?hc0 ?hc2 ?hc3 ?_)
           case hc0 => rw [size_alloc]; rfl
           case hc1 => show _ = [Value.int .u64 ((UInt64.ofNat x).toNat : Int), _]; rw [HX64.out]; first | done | rfl
           case hc2 => have := HLT.out; simp only [List.length_append, List.length_nil, List.length_cons]; omega
           case hc3 => exact Nat.le_trans hFa.size hAl.size
           intro v2 w2 hap2
           have hFb : Fr W w2 := hap2.below (hO1a.fr hAl) (hFa.trans hAl) (Nat.le_refl _) (Nat.le_trans hFa.size hAl.size)
           have HXo2 := hid (own_app HXo.out (hO1a.fr hAl) hap2 (by decide))
           have hO2a := hap2.own
           obtain ⟨y2, n2, z2, hv2⟩ := hO2a.shape
           subst hv2
           have hrF2 := HRF.out
           have hsF2 := HSF.out.fr hFb
           go_wp2_with (at_builtin; refine wpList_app eRI rfl (.tmp 80) (.tmp 83) 243 rfl Tryz.underlying243 W.heap.size rfl hO2a _ (ms.drop (q)) rfl hsF2 ?hc4 hFb.size ?_)
           case hc4 => have h1 := HLT.out; have h2 := HLF.out; simp only [List.length_append, List.length_nil, List.length_cons]; omega
           intro v3 w3 hap3
           have hFc : Fr W w3 := hap3.below hO2a hFb (Nat.le_refl _) hFb.size
           have HXo3 := hid (own_app HXo2.out hO2a hap3 (by decide))
           go_wp2_with fail
           go_roundw
           case rel => exact ⟨k + 1, ms.take q ++ ⟨⟨UInt64.ofNat x, true, [k]⟩, ⟨some ⟨w1.heap.size, 0, none⟩, 1, 1⟩⟩ :: ms.drop q, by omega, by go_num, by simpa using hap3.own.rebase hF1.size, by show _ = _; rw [HEq.out]; simp, fun m hm => by
            rcases List.mem_append.1 hm with hm | hm
            · exact (HV1.out m (List.mem_of_mem_take hm)).fr hFc
            · rcases List.mem_cons.1 hm with hm | hm
              · rw [hm]; exact HXo3.out.rebase hF1.size
              · exact (HV1.out m (List.mem_of_mem_drop hm)).fr hFc, hF1.trans hFc⟩
           case measure => simp [intOf]; omega
    · have hx0 : ((x : Int) == 0) = true := by simp; omega
      have hx1 : x = 0 := by omega
      subst hx1
      have HSu2 : Hid (usedTo often (k + 1) = usedTo often k) := by show _ = _; rw [HSu.out]; rfl
      clear HSu
      go_wp2_with fail
      go_roundw
      case rel => exact ⟨k + 1, ms, by omega, by go_num, hLv, by rw [HSu2.out]; exact HMs.out, HVal, hf⟩
      case measure => simp [intOf]; omega
  · obtain rfl : k = often.length := by omega
    have hnl : ¬ (often.length : Int) < often.length := by omega
    rw [usedTo_all] at HMs HMSL
    have hum : ∀ s ∈ usedL often, s < often.length := fun s h => symsU_lt often s ((usedK_perm _ _ (symsU_up often)).mem_iff.1 h)
    have HUM := hid hum
    clear hum
    generalize usedL often = us at *
    have hlv := leavesL_len often us
    have HEn := hid (fun h => rowI_enough (leavesL often us) 14 h)
    have HRl := hid (fun r => rowI_len (leavesL often us) r)
    have HLAt := hid (leavesL_at often us)
    have HMS2 := hid hlv
    clear hlv
    generalize leavesL often us = lv at *
    subst hlv
    generalize wr = wo at *
    go_wp2_with fail
    go_loopw [11, 12] (fun mv iv wr => ∃ (i p : Nat), i ≤ 15 ∧ iv = N i ∧ mv = N p ∧ p ≤ 32768 ∧ Hid (p = 2 ^ i) ∧ wo = wr) (fun _ iv _ => 15 - (intOf iv).toNat)
    case atStart => exact ⟨0, 1, by omega, rfl, rfl, by omega, rfl, by first | rfl | trivial⟩
    case round =>
     obtain ⟨i, p, hi, rfl, rfl, hp, HP, rfl⟩ := hrel
     by_cases hi1 : i < 15
     · have hi1' : (i : Int) < 15 := by omega
       have HP2 : Hid (2 * p = 2 ^ (i + 1)) := by show _ = _; rw [HP.out, Nat.pow_succ]; omega
       have hp2 : 2 * p ≤ 32768 := by
        have h1 : (2 : Nat) ^ (i + 1) ≤ 2 ^ 15 := Nat.pow_le_pow_right (by omega) (by omega)
        rw [← HP2.out] at h1; omega
       go_wp2_with fail
       go_roundw
       case rel => exact ⟨i + 1, 2 * p, by omega, by go_num, by go_num, hp2, HP2.out, by first | rfl | trivial⟩
       case measure => simp [intOf]; omega
     · obtain rfl : i = 15 := by omega
       have hpe : p = 32768 := HP.out
       subst hpe
       clear HP hp
       have hm2 : ¬ (32768 : Int) < ms.length := by omega
       have hms : ms.length ≤ 300 := hms3
       go_wp2_with fail
       go_loopw [13, 14] (fun ov iv wr => ∃ k : Nat, k ≤ often.length ∧ iv = N k ∧ Ow wr wo.heap.size eB ov (List.replicate k (0 : UInt8)) ∧ Fr wo wr) (fun _ iv _ => often.length - (intOf iv).toNat)
       case atStart => exact ⟨0, Nat.zero_le _, rfl, Ow.nil, Fr.refl _⟩
       case round =>
        obtain ⟨k, hk, rfl, hO, hf2⟩ := hrel
        have hfw := hf.trans hf2
        by_cases hkl : k < often.length
        · have hkl' : (k : Int) < often.length := by omega
          go_wp2_with (at_builtin; refine wpList_app1 eB rfl (.tmp 103) (.tmp 104) 31 rfl Tryz.underlying31 wo.heap.size rfl hO [0] _ _ _ rfl rfl rfl (by simp; omega) hf2.size ?_)
          intro v' w4 hap
          have hO4 : Ow w4 wo.heap.size eB v' (List.replicate (k + 1) (0 : UInt8)) := by rw [List.replicate_succ']; exact hap.own
          have hf4 : Fr wo w4 := hap.below hO hf2 (Nat.le_refl _) hf2.size
          go_wp2_with fail
          go_roundw
          case rel => exact ⟨k + 1, by omega, by go_num, hO4, hf4⟩
          case measure => simp [intOf]; omega
        · obtain rfl : k = often.length := by omega
          have hkl' : ¬ (often.length : Int) < often.length := by omega
          have hOw := hO.rebase hf.size
          have HO := hid hOw
          have HLv := hid (hLv.fr hf2)
          have HV := hid (HVal.out.fr hf2)
          clear hO hOw hLv HVal hf hf2
          generalize wr = w1 at *
          rcases Nat.lt_trichotomy ms.length 1 with h0 | h1 | h2
          · have hu0 : us = [] := List.eq_nil_of_length_eq_zero (by have := HMSL.out; omega)
            have hm0 : ms = [] := List.eq_nil_of_length_eq_zero (by omega)
            have HR : Hid (RB = List.replicate often.length (0 : UInt8)) := by
             show _ = _; rw [HB.out, ← cntB_zero]; exact cntB_congr _ _ _ fun s => by rw [HLN.out, hu0]; rfl
            subst hm0
            clear HB HLN
            go_wp2_with fail
            go_ret2
            exact ⟨_, rfl, by rw [HR.out]; exact HO.out, hfw⟩
          · obtain ⟨u0, hu⟩ : ∃ u0, us = [u0] := List.length_eq_one_iff.1 (by have := HMSL.out; omega)
            obtain ⟨m0, hm⟩ : ∃ m0, ms = [m0] := List.length_eq_one_iff.1 h1
            subst hm
            have hu0 := HUM.out u0 (by rw [hu]; simp)
            have hsy : m0.it.syms = [u0] := by
             have h3 := HLAt.out 0 (by rw [hu]; simp)
             rw [← HMs.out] at h3
             simp only [List.map_cons, List.map_nil, List.getElem?_cons_zero, Option.some.injEq] at h3
             rw [h3]; simp [hu]
            have HR : Hid (RB = (List.replicate often.length (0 : UInt8)).set u0 1) := by
             show _ = _
             rw [HB.out, ← cntB_zero]
             have := cntB_set often.length (fun _ => 0) u0 1
             rw [show (1 : UInt8) = UInt8.ofNat 1 from rfl, this]
             exact cntB_congr _ _ _ fun s => by rw [HLN.out, hu]; rfl
            obtain ⟨b, off, cp, hv2, c0, c1⟩ := riAt HLv.out.see 0 (by simp)
            have hV0 := (HV.out m0 (by simp)).see
            rw [hsy] at hV0
            obtain ⟨b2, off2, cp2, hv3, d0⟩ := jAt hV0 0 (by simp)
            have hO1 := HO.out
            obtain ⟨g, oc, hov, hg1, hg2, hoc1, hoc2⟩ := hO1.atHead (by intro e; rw [List.replicate_eq_nil_iff] at e; omega)
            rw [List.length_replicate] at hov
            subst hov
            obtain ⟨e1, e2⟩ := hO1.cellAt (fun c => Fk.u8 c) rfl u0 (by simpa using hu0)
            have HS := hid (hO1.set (fun c => Fk.u8 c) rfl u0 (by simpa using hu0) 1 (.int .u8 1) rfl)
            cases hv2
            simp only [List.getElem_cons_zero, Nat.add_zero, Nat.zero_mul, Nat.zero_add] at c1 d0
            rw [hv3] at c1
            simp only [List.length_cons, List.length_nil, Nat.zero_add] at *
            have i1 : (0 : Int) ≤ u0 := by omega
            have i2 : (u0 : Int) < often.length := by omega
            clear HB HLN hO1 HO HLv HV hV0 c0
            go_wp2_with fail
            go_ret2
            exact ⟨_, rfl, by rw [HR.out]; exact HS.out, set_below hfw hg1 hfw.size⟩
          · have h2a : ((ms.length : Int) == 1) = false := by simp; omega
            have h2b : ¬ (ms.length : Int) < 2 := by omega
            have h2c : ¬ ms.length = 1 := by omega
            have HLn2 : Hid (∀ s, ln s = (symsI ((rowI lv 14).take (2 * ms.length - 2))).count s) := fun s => by
             rw [HLN.out, if_neg (by have := HMSL.out; omega), if_neg (by have := HMSL.out; omega), HMSL.out]
            have hen : 2 * ms.length - 2 ≤ (rowI lv 14).length := by
             have := HEn.out (by have h1 := HMS2.out; have h2 := HMSL.out; omega)
             rw [HMS2.out, ← HMSL.out] at this; exact this
            have HEN := hid hen
            have HSym : Hid (∀ r, ∀ x ∈ rowI lv r, x.syms.length ≤ 2 ^ r ∧ ∀ s ∈ x.syms, s < often.length) := rowI_syms lv often.length fun x hx => by
             obtain ⟨j, hj, rfl⟩ := List.getElem_of_mem hx
             have hju : j < us.length := by rw [← HMS2.out]; exact hj
             have h3 := HLAt.out j hju
             rw [List.getElem?_eq_getElem hj] at h3
             rw [Option.some.inj h3]
             exact ⟨by simp, fun s hs => by rw [List.mem_singleton.1 hs]; exact HUM.out _ (List.getElem_mem hju)⟩
            clear HLN hen hkl' hnl HEn
            go_wp2_with fail
            go_loopw [15, 16] (fun rv iv wr => ∃ (r : Nat) (rs : List ItM), 1 ≤ r ∧ r ≤ 15 ∧ iv = N r ∧ Ow wr w.heap.size eRI rv rs ∧ Hid (rs.map (·.it) = rowI lv (r - 1)) ∧ Hid (ValO wr w.heap.size rs) ∧ Fr w1 wr) (fun _ iv _ => 15 - (intOf iv).toNat)
            case atStart => exact ⟨1, ms, Nat.le_refl _, by omega, rfl, HLv.out, HMs.out, HV.out, Fr.refl _⟩
            case round =>
             obtain ⟨r, rs, hr1, hr2, rfl, hRs, HRs, HVr, hfr⟩ := hrel
             obtain ⟨ra, rc, hrv⟩ := hRs.shape'
             have hrl : rs.length ≤ 600 := by
              have h1 := congrArg List.length HRs.out
              rw [List.length_map] at h1
              have h2 := HRl.out (r - 1); have h3 := HMS2.out; have h4 := HMSL.out; omega
             subst hrv
             by_cases hrr : r < 15
             · have hrr' : (r : Int) < 15 := by omega
               have hfw2 := hfw.trans hfr
               have HSyl : Hid (∀ m ∈ rs, m.it.syms.length ≤ 16384) := fun m hm => by
                have h1 : m.it ∈ rowI lv (r - 1) := by rw [← HRs.out]; exact List.mem_map.2 ⟨m, hm, rfl⟩
                have h2 := (HSym.out (r - 1) _ h1).1
                have h14 : (2 : Nat) ^ (r - 1) ≤ 16384 := Nat.le_trans (Nat.pow_le_pow_right (by omega) (show r - 1 ≤ 14 by omega)) (by decide)
                omega
               generalize wr = w2 at *
               go_wp2_with fail
               go_loopw [17, 18] (fun pv iv wr => ∃ (i : Nat) (ps : List ItM), i ≤ rs.length ∧ iv = N i ∧ ps.length ≤ i ∧ Ow wr w2.heap.size eRI pv ps ∧ Hid (pairsI (rs.map (·.it)) = ps.map (·.it) ++ pairsI ((rs.drop i).map (·.it))) ∧ Hid (ValO wr w2.heap.size ps) ∧ Fr w2 wr) (fun _ iv _ => rs.length - (intOf iv).toNat)
               case atStart => exact ⟨0, [], Nat.zero_le _, rfl, by simp, Ow.nil, rfl, hid (fun m h => by simp at h), Fr.refl _⟩
               case round =>
                obtain ⟨i, ps, hi, rfl, hpl, hP, HPs, HVp, hfp⟩ := hrel
                have hwi : IntKind.i64.wrap ((i : Int) + 1) = ((i + 1 : Nat) : Int) := by rw [IntWalk.i64_in _ (by omega)]; omega
                by_cases hil : i + 1 < rs.length
                · have hil' : ((i + 1 : Nat) : Int) < rs.length := by omega
                  obtain ⟨b, off, cp, hv2, c0, c1⟩ := riAt ((hRs.fr hfp).see) i (by omega)
                  obtain ⟨b', off', cp', hv3, d0, d1⟩ := riAt ((hRs.fr hfp).see) (i + 1) hil
                  rw [hv2] at hv3
                  cases hv3
                  have hSx := (HVr.out _ (List.getElem_mem (show i < rs.length by omega))).fr hfp
                  have hSy := (HVr.out _ (List.getElem_mem hil)).fr hfp
                  have hlx := HSyl.out _ (List.getElem_mem (show i < rs.length by omega))
                  have hly := HSyl.out _ (List.getElem_mem hil)
                  have HPr : Hid (pairsI ((rs.drop i).map (·.it)) = ⟨rs[i].it.w + rs[i + 1].it.w, false, rs[i].it.syms ++ rs[i + 1].it.syms⟩ :: pairsI ((rs.drop (i + 2)).map (·.it))) := by
                   show _ = _
                   rw [List.drop_eq_getElem_cons (by omega), List.drop_eq_getElem_cons hil, List.map_cons, List.map_cons, pairsI]
                  generalize rs[i] = x at *
                  generalize rs[i + 1] = y at *
                  cases hv2
                  have hsm := u64_add x.it.w y.it.w
                  have HSxS := hid hSx.see
                  have HSyS := hid hSy.see
                  have HHw := hid hfp.size
                  clear hSx hSy
                  have hPfr := hP
                  have i0 : (0 : Int) ≤ i := by omega
                  have i1 : (i : Int) < rs.length := by omega
                  have i2 : (0 : Int) ≤ ((i + 1 : Nat) : Int) := by omega
                  have i3 : i < rs.length := by omega
                  have i4 : (0 : Int) ≤ (i : Int) + 1 := by omega
                  have i5 : (i : Int) + 1 < rs.length := by omega
                  have HIl : Hid (i + 2 ≤ rs.length) := by show _ ≤ _; omega
                  generalize hxh : x.hd = xh at *
                  generalize hyh : y.hd = yh at *
                  have HXH := hid hxh
                  have HYH := hid hyh
                  clear hxh hyh
                  go_wp2_with (at_builtin; refine wpList_app eJ rfl (.tmp 132) (.tmp 137) 54 rfl Tryz.underlying54 wr.heap.size rfl Ow.nil _ x.it.syms rfl HSxS.out ?hc1 (Nat.le_refl _) ?_)
                  case hc1 => first | omega | (simp; omega)
                  intro s1 w3 hap1
                  have hF3 : Fr wr w3 := hap1.below Ow.nil (Fr.refl wr) (Nat.le_refl _) (Nat.le_refl _)
                  have c0a := hF3.cell c0
                  have d0a := hF3.cell d0
                  have d1a := hF3.cell d1
                  have hs1 := hap1.own
                  obtain ⟨q1, n1, z1, hs1v⟩ := hs1.shape
                  subst hs1v
                  go_wp2_with (at_builtin; refine wpList_app eJ rfl (.tmp 139) (.tmp 145) 54 rfl Tryz.underlying54 wr.heap.size rfl hs1 _ y.it.syms rfl (HSyS.out.fr hF3) ?hc2 hF3.size ?_)
                  case hc2 => first | omega | (simp; omega)
                  intro s2 w4 hap2
                  have hF4 : Fr wr w4 := hap2.below hs1 hF3 (Nat.le_refl _) hF3.size
                  have c0b := hF4.cell c0
                  have d0b := hF4.cell d0
                  have hs2 := hap2.own
                  obtain ⟨q2, z2, hs2v⟩ := hs2.shape'
                  subst hs2v
                  have hP4 := hP.fr hF4
                  have HVp4 := hid (HVp.out.fr hF4)
                  have hfp4 := hfp.trans hF4
                  clear c0 c1 d0 d1 c0a d0a d1a hap1 hap2 hs1 hF3 hP hPfr hfp HVp
                  have hs2' : Ow w4 wr.heap.size eJ (.slice q2 (x.it.syms ++ y.it.syms).length z2) (x.it.syms ++ y.it.syms) := by simpa using hs2
                  have HS2 := hid (hs2'.rebase HHw.out)
                  clear hs2 hs2'
                  obtain ⟨z, hz⟩ : ∃ z : ItM, z = ⟨⟨x.it.w + y.it.w, false, x.it.syms ++ y.it.syms⟩, ⟨q2, (x.it.syms ++ y.it.syms).length, z2⟩⟩ := ⟨_, rfl⟩
                  have HZ1 : Hid (eRI.cells [z] = [.int .u64 ((x.it.w + y.it.w).toNat : Int), .slice q2 (x.it.syms ++ y.it.syms).length z2]) := by subst hz; rfl
                  have HZ2 : Hid (z.it = ⟨x.it.w + y.it.w, false, x.it.syms ++ y.it.syms⟩) := by subst hz; rfl
                  have HZ3 : Hid (Ow w4 w2.heap.size eJ z.hd.v z.it.syms) := by subst hz; exact HS2.out
                  have HPr2 : Hid (pairsI (rs.map (·.it)) = (ps ++ [z]).map (·.it) ++ pairsI ((rs.drop (i + 2)).map (·.it))) := by
                   show _ = _; rw [HPs.out, HPr.out, ← HZ2.out]; simp
                  have hwi2 : IntKind.i64.wrap ((i : Int) + 2) = ((i + 2 : Nat) : Int) := by rw [IntWalk.i64_in _ (by omega)]; omega
                  clear hz HS2 HPr HPs HZ2
                  have hsb := UInt64.toNat_lt (x.it.w + y.it.w)
                  have hxb := UInt64.toNat_lt x.it.w
                  have hyb := UInt64.toNat_lt y.it.w
                  generalize (x.it.w + y.it.w).toNat = sv at *
                  generalize x.it.w.toNat = xw at *
                  generalize y.it.w.toNat = yw at *
                  generalize (x.it.syms ++ y.it.syms).length = nl at *
                  have hfa : Fr w4 (w4.alloc (.cells #[.int .u64 (sv : Int), .slice q2 nl z2] 245)) := (Fr.refl w4).alloc _
                  have c0c := hfa.cell c0b
                  have d0c := hfa.cell d0b
                  clear hfa
                  have hsz4 : w2.heap.size ≤ w4.heap.size := hfp4.size
                  have HSZ4 := hid hsz4
                  have hpl1 : ps.length + 1 ≤ 2147483648 := by omega
                  have HPl1 := hid hpl1
                  go_upto_region 42 with fail
                  go_region_law (refine step_app1d eRI rfl (.tmp 147) (.tmp 162) 243 rfl Tryz.underlying243 w2.heap.size rfl hP4 [z] _ _ _ (by rw [HZ1.out]) rfl rfl (by simpa using HPl1.out) HSZ4.out ?_
                                 intro v' w5 hap)
                  all_goals
                   go_wp2_with fail
                   go_roundw
                   case rel => exact ⟨i + 2, ps ++ [z], HIl.out, by go_num, by simp; omega, hap.own, HPr2, (HVp4.out.app hP4 hap).snoc (own_app HZ3.out hP4 hap (by decide)), hap.below hP4 hfp4 (Nat.le_refl _) hfp4.size⟩
                   case measure => simp [intOf]; omega
                · have hil' : ¬ ((i + 1 : Nat) : Int) < rs.length := by omega
                  have HEp : Hid (ps.map (·.it) = pairsI (rowI lv (r - 1))) := by
                   show _ = _
                   rw [← HRs.out, HPs.out, drop_map_end rs i (by omega), List.append_nil]
                  have hpl6 : ps.length ≤ 600 := by omega
                  have hLv2 := HLv.out.fr (hfr.trans hfp)
                  have HMg := hid (RLmerge_any (.slice la ms.length lc) _ ms ps wr hLv2.see hP.see (by omega) (by omega))
                  obtain ⟨pa, pc, hpv⟩ := hP.shape'
                  subst hpv
                  have HRn : Hid (mergeI (ms.map (·.it)) (ps.map (·.it)) = rowI lv r) := by
                   show _ = _
                   obtain ⟨r1, rfl⟩ : ∃ r1, r = r1 + 1 := ⟨r - 1, by omega⟩
                   rw [HEp.out, HMs.out]; rfl
                  rw [HRn.out] at HMg
                  have hszw := hfp.size
                  go_wp2_with fail
                  refine HMg.out.mono ?_
                  rintro e w5 ⟨nv, rfl, ns, hN5, hNs, hNm, hf5⟩
                  have hfwA := hfw2.trans hfp
                  go_wp2_with fail
                  go_roundw
                  case rel => exact ⟨r + 1, ns, by omega, by omega, by go_num, hN5.rebase hfwA.size, hNs, fun m hm => by
                   rcases hNm m hm with h | h
                   · exact (HV.out m h).fr ((hfr.trans hfp).trans hf5)
                   · exact ((HVp.out m h).fr hf5).rebase hfw2.size, (hfr.trans hfp).trans hf5⟩
                  case measure => simp [intOf]; omega
             · obtain rfl : r = 15 := by omega
               have hrr' : ¬ (15 : Int) < 15 := by omega
               have hfw3 := hfw.trans hfr
               have HO3 := hid (HO.out.fr hfr)
               have hmr : (rs.map (·.it)).length = rs.length := by simp
               have hRl14 : (rowI lv 14).length = rs.length := by rw [← hmr, HRs.out]
               have hbb : 2 * ms.length - 2 ≤ rs.length := by rw [← hRl14]; exact HEN.out
               generalize wr = w3 at *
               obtain ⟨g, oc, hov, hg1, hg2, hoc1, hoc2⟩ := HO3.out.atHead (by intro e; rw [List.replicate_eq_nil_iff] at e; have h1 := HMSL.out; have h2 := HUM.out (us[0]'(by omega)) (List.getElem_mem _); omega)
               rw [List.length_replicate] at hov
               subst hov
               have hO0 := HO3.out
               rw [← cntB_zero] at hO0
               have HStR : Hid (∀ W, Chg (fun k => k = g) w3 W → See W eRI (.slice ra rs.length rc) rs) := fun W hc =>
                (hRs.chg hc fun k hk e => by
                 rw [e] at hk
                 rcases own_ne hRs HO3.out (by decide) with h1 | h1
                 · rw [h1] at hk; cases hk
                 · exact h1 hk).see
               have HStS : Hid (∀ W, Chg (fun k => k = g) w3 W → ∀ m ∈ rs, See W eJ m.hd.v m.it.syms) := fun W hc m hm =>
                ((HVr.out m hm).chg hc fun k hk e => by
                 rw [e] at hk
                 rcases own_ne (HVr.out m hm) HO3.out (by decide) with h1 | h1
                 · rw [h1] at hk; cases hk
                 · exact h1 hk).see
               have hw2u : IntKind.i64.wrap (2 * (ms.length : Int)) = ((2 * ms.length : Nat) : Int) := by rw [IntWalk.i64_in _ (by omega)]; omega
               have hw2m : IntKind.i64.wrap (((2 * ms.length : Nat) : Int) - 2) = ((2 * ms.length - 2 : Nat) : Int) := by rw [IntWalk.i64_in _ (by omega)]; omega
               clear hmr hRl14 HO HLv HV HMs
               generalize 2 * ms.length - 2 = t0 at *
               generalize 2 * ms.length = t1 at *
               go_wp2_with fail
               go_loopw [20] (fun iv wr => ∃ (i : Nat) (cF : Nat → Nat), i ≤ t0 ∧ iv = N i ∧ Ow wr w.heap.size eB (.slice (some ⟨g, 0, none⟩) often.length oc) (cntB often.length cF) ∧ Hid (∀ s, cF s = (symsI ((rs.map (·.it)).take i)).count s) ∧ Chg (fun k => k = g) w3 wr) (fun iv _ => t0 - (intOf iv).toNat)
               case atStart => exact ⟨0, fun _ => 0, Nat.zero_le _, rfl, hO0, fun s => by simp [symsI], Chg.refl _ _⟩
               case round =>
                clear hO0
                obtain ⟨i, cF, hi, rfl, hO, HF, hc⟩ := hrel
                have hwt : IntKind.i64.wrap ((i : Int) + 1) = ((i + 1 : Nat) : Int) := by rw [IntWalk.i64_in _ (by omega)]; omega
                by_cases hit : i < t0
                · have hit' : (i : Int) < (t0 : Int) := by omega
                  have hir : i < rs.length := by omega
                  have hir' : (i : Int) < rs.length := by omega
                  have i0 : (0 : Int) ≤ (i : Int) := by omega
                  have HSn : Hid (∀ s, (symsI ((rs.map (·.it)).take (i + 1))).count s = (symsI ((rs.map (·.it)).take i)).count s + (rs[i].it.syms).count s) := fun s => by
                   rw [List.take_succ_eq_append_getElem (by simpa using hir), symsI_app, List.count_append]
                   simp [symsI]
                  have HMm := hid (List.getElem_mem hir)
                  have HRA := hid (fun W hc => riAt (HStR.out W hc) i hir)
                  have hsyl : rs[i].it.syms.length ≤ 16384 ∧ ∀ s ∈ rs[i].it.syms, s < often.length := by
                   have h1 : rs[i].it ∈ rowI lv 14 := by have := HRs.out; rw [← this]; exact List.mem_map.2 ⟨_, HMm.out, rfl⟩
                   exact HSym.out 14 _ h1
                  obtain ⟨hsl, hsb⟩ := hsyl
                  have HSb := hid hsb
                  clear hsb
                  generalize rs[i] = x at *
                  generalize hSY : x.it.syms = sy at *
                  have HSY := hid hSY
                  clear hSY
                  generalize wr = wq at *
                  go_wp2_with fail
                  go_loopw [21] (fun kv wr => ∃ (k : Nat) (cG : Nat → Nat), k ≤ sy.length ∧ kv = N k ∧ Ow wr w.heap.size eB (.slice (some ⟨g, 0, none⟩) often.length oc) (cntB often.length cG) ∧ Hid (∀ s, cG s = cF s + (sy.take k).count s) ∧ Chg (fun k => k = g) w3 wr) (fun kv _ => sy.length - (intOf kv).toNat)
                  case atStart => exact ⟨0, cF, Nat.zero_le _, rfl, hO, fun s => by simp, hc⟩
                  case round =>
                   clear hO hc
                   obtain ⟨k, cG, hk, rfl, hO, HG, hc⟩ := hrel
                   obtain ⟨b, off, cp, hv2, c0, c1⟩ := HRA.out wr hc
                   cases hv2
                   have hSx := HStS.out wr hc x HMm.out
                   rw [HSY.out] at hSx
                   obtain ⟨xa, xc, hxv, _⟩ := hSx.shape
                   rw [hxv] at c1 hSx
                   have hkw : IntKind.i64.wrap ((k : Int) + 1) = ((k + 1 : Nat) : Int) := by rw [IntWalk.i64_in _ (by omega)]; omega
                   clear hxv
                   by_cases hkl : k < sy.length
                   · have hkl' : (k : Int) < sy.length := by omega
                     have j0 : (0 : Int) ≤ (k : Int) := by omega
                     obtain ⟨b2, off2, cp2, hv3, d0⟩ := jAt hSx k hkl
                     cases hv3
                     have hsyb := HSb.out _ (List.getElem_mem hkl)
                     have HCt : Hid (∀ s, (sy.take (k + 1)).count s = (sy.take k).count s + if sy[k] = s then 1 else 0) := fun s => by
                      rw [List.take_succ_eq_append_getElem hkl, List.count_append, List.count_singleton]; simp
                     generalize sy[k] = e at *
                     have hcl := cntB_len often.length cG
                     obtain ⟨d1, d2⟩ := hO.cellAt (fun c => Fk.u8 c) rfl e (by rw [hcl]; exact hsyb)
                     have hcat : (cntB often.length cG)[e]'(by rw [hcl]; exact hsyb) = UInt8.ofNat (cG e) := by simp [cntB]
                     rw [hcat] at d1
                     replace d1 : wr.cell? ⟨g, e, none⟩ = some (.int .u8 ((UInt8.ofNat (cG e)).toNat : Int)) := d1
                     have hinc := u8_inc (cG e)
                     have HSt := hid (hO.set (fun c => Fk.u8 c) rfl e (by rw [hcl]; exact hsyb) (UInt8.ofNat (cG e + 1)) (.int .u8 ((UInt8.ofNat (cG e + 1)).toNat : Int)) rfl)
                     rw [cntB_set] at HSt
                     have HG2 : Hid (∀ s, (if s = e then cG e + 1 else cG s) = cF s + (sy.take (k + 1)).count s) := fun s => by
                      rw [HCt.out s]
                      by_cases h : s = e
                      · subst h; rw [if_pos rfl, if_pos rfl, HG.out s]; omega
                      · rw [if_neg h, if_neg (Ne.symm h), HG.out s]; omega
                     have hcx := UInt8.toNat_lt (UInt8.ofNat (cG e))
                     clear HG HCt hcat hcl
                     have i4 : (0 : Int) ≤ e := by omega
                     have i5 : (e : Int) < often.length := by omega
                     generalize (UInt8.ofNat (cG e)).toNat = cv0 at *
                     generalize (UInt8.ofNat (cG e + 1)).toNat = cv1 at *
                     go_wp2_with fail
                     go_roundw
                     case rel => exact ⟨k + 1, (fun s => if s = e then cG e + 1 else cG s), by omega, by go_num, HSt.out, HG2.out, hc.trans (setCell_chg wr _ _) (fun _ _ h => h)⟩
                     case measure => simp [intOf]; omega
                   · obtain rfl : k = sy.length := by omega
                     have hkl' : ¬ (sy.length : Int) < sy.length := by omega
                     have HF2 : Hid (∀ s, cG s = (symsI ((rs.map (·.it)).take (i + 1))).count s) := fun s => by
                      rw [HG.out s, HSn.out s, HF.out s, List.take_length]
                     clear HG HSn HF
                     go_wp2_with fail
                     go_roundw
                     case rel => exact ⟨i + 1, cG, by omega, by go_num, hO, HF2, hc⟩
                     case measure => simp [intOf]; omega
                · obtain rfl : i = t0 := by omega
                  have hit' : ¬ (i : Int) < (i : Int) := by omega
                  have HE : Hid (RB = cntB often.length cF) := by
                   show _ = _; rw [HB.out]; exact cntB_congr _ _ _ fun s => by rw [HF.out s, HLn2.out s, HRs.out]
                  clear HF
                  go_wp2_with fail
                  go_ret2
                  exact ⟨_, rfl, by rw [HE.out]; exact hO, Chg.below hfw3 hc hfw3.size (fun j hj => by rw [hj]; exact hg1)⟩
set_option maxRecDepth 512
end Go.Proofs.YtmfbmjplmaimbaaGreatDoor
