/- Parts of the proof of ThreePacks: Wd2 Wd3 Wd4 We1 We2. -/
import Derived.Test.YtmfbmjplmaimbaaGreatDoorM01
import Derived.Test.YtmfbmjplmaimbaaGreatDoorM03
import Derived.Test.YtmfbmjplmaimbaaGreatDoorM15
import Derived.Test.YtmfbmjplmaimbaaGreatDoorM12
import Derived.Test.YtmfbmjplmaimbaaGreatDoorM02
set_option linter.unusedVariables false
set_option linter.unusedSectionVars false
set_option linter.unusedSimpArgs false
set_option maxHeartbeats 8000000
namespace Go.Proofs.YtmfbmjplmaimbaaGreatDoor
open Go.RowKit Go.Fk
def atW (l : List UInt8) : List UInt8 := 64 :: l
set_option maxRecDepth 100000
theorem terms1_any (Bo : Nat) (pre ws : List (List UInt8)) (F : Nat → Prop) (x : List UInt8) (w : World) (h : OutI Bo pre asIs ws F w) (hp : pre.length ≤ 1) (hlen : ws.length ≤ 2000000000) :
  Calls Tryz.prog 109 #[S x, .pointer (some ⟨Bo, 0, none⟩)] w fun e w' => e = .returned (.tuple #[]) ∧
   ∃ F', OutI Bo pre asIs (ws ++ [x]) F' w' ∧ Chg F w w' ∧ (∀ b, F' b → F b ∨ w.heap.size ≤ b) := by
 obtain ⟨ov, h1, h2, h3⟩ := h
 have c0 : w.cell? ⟨Bo, 0, none⟩ = some ov := by rw [cell_of_heap h1]; rfl
 have hsz : Bo < w.heap.size := (Array.getElem?_eq_some_iff.1 h1).1
 have H1 := hid h1
 clear h1
 go_enter Tryz.func109, Tryz.ntmps109
 go_wp2_with (at_builtin; refine wpList_app1 eS rfl (.tmp 3) (.tmp 5) 64 rfl Tryz.underlying64 (Bo + 1) rfl h2 [asIs x] _ _ _ rfl rfl rfl ?c1 ?c2 ?_)
 case c1 => simp; omega
 case c2 => omega
 intro v' w1 ha
 have hne := h2.ne_cells H1.out (by decide)
 have HH := hid (ha.chg'.heap H1.out hne)
 have d1 : w1.cell? ⟨Bo, 0, none⟩ = some ov := by rw [cell_of_heap HH.out]; rfl
 have e1 : w1.frozen? ⟨Bo, 0, none⟩ = false := frozen_of_heap HH.out 0
 obtain ⟨a, n', cap, rfl⟩ := ha.own.shape
 go_wp2_with fail
 go_end0
 obtain ⟨F', r1, r2, r3⟩ := OutI.put (g := asIs) (x := x) H1.out h2 (by rw [List.append_assoc]; exact ha)
 refine ⟨rfl, F', r1, r2.mono (fun b _ hb => (h3 b).2 hb), fun b hb => (r3 b hb).imp (fun h => (h3 b).2 h) id⟩
set_option maxRecDepth 512
theorem terms1_sink (Bo : Nat) : Sink 109 #[.pointer (some ⟨Bo, 0, none⟩)] (OutI Bo [] asIs) :=
 ⟨fun h hc hn => h.loc hc hn, fun h => h.bd, fun x h _ hl => terms1_any Bo [] _ _ x _ h (by simp) hl⟩
set_option maxRecDepth 100000
theorem terms2_any (Bo : Nat) (pre ws : List (List UInt8)) (F : Nat → Prop) (x : List UInt8) (w : World) (h : OutI Bo pre atW ws F w) (hp : pre.length ≤ 1000000) (hlen : ws.length ≤ 2000000000) (hx : x.length ≤ 24) :
  Calls Tryz.prog 110 #[S x, .pointer (some ⟨Bo, 0, none⟩)] w fun e w' => e = .returned (.tuple #[]) ∧
   ∃ F', OutI Bo pre atW (ws ++ [x]) F' w' ∧ Chg F w w' ∧ (∀ b, F' b → F b ∨ w.heap.size ≤ b) := by
 obtain ⟨ov, h1, h2, h3⟩ := h
 have c0 : w.cell? ⟨Bo, 0, none⟩ = some ov := by rw [cell_of_heap h1]; rfl
 have hsz : Bo < w.heap.size := (Array.getElem?_eq_some_iff.1 h1).1
 have H1 := hid h1
 have hax : (⟨#[64]⟩ : ByteArray) ++ (⟨x.toArray⟩ : ByteArray) = ⟨(64 :: x).toArray⟩ := by
  exact ByteArray.ext (by simp [ByteArray.data_append])
 clear h1
 have hb1 : ¬ (9223372036854775807 : Int) < 1 + x.length := by omega
 go_enter Tryz.func110, Tryz.ntmps110
 go_wp2_with (at_builtin; refine wpList_app1 eS rfl (.tmp 3) (.tmp 6) 64 rfl Tryz.underlying64 (Bo + 1) rfl h2 [atW x] _ _ _ ?c0 rfl rfl ?c1 ?c2 ?_)
 case c0 => first | rfl | (simp [hax, atW]; rfl)
 case c1 => omega
 case c2 => omega
 intro v' w1 ha
 have hne := h2.ne_cells H1.out (by decide)
 have HH := hid (ha.chg'.heap H1.out hne)
 have d1 : w1.cell? ⟨Bo, 0, none⟩ = some ov := by rw [cell_of_heap HH.out]; rfl
 have e1 : w1.frozen? ⟨Bo, 0, none⟩ = false := frozen_of_heap HH.out 0
 obtain ⟨a, n', cap, rfl⟩ := ha.own.shape
 go_wp2_with fail
 go_end0
 obtain ⟨F', r1, r2, r3⟩ := OutI.put (g := atW) (x := x) H1.out h2 (by rw [List.append_assoc]; exact ha)
 refine ⟨rfl, F', r1, r2.mono (fun b _ hb => (h3 b).2 hb), fun b hb => (r3 b hb).imp (fun h => (h3 b).2 h) id⟩
set_option maxRecDepth 512
theorem terms2_sink (Bo : Nat) (pre : List (List UInt8)) (hp : pre.length ≤ 1000000) : Sink 110 #[.pointer (some ⟨Bo, 0, none⟩)] (OutI Bo pre atW) :=
 ⟨fun h hc hn => h.loc hc hn, fun h => h.bd, fun x h hx hl => terms2_any Bo pre _ _ x _ h hp hl hx⟩
theorem terms_sorted (a b : List UInt8) : compS ((wordsOf a ++ (wordsOf b).map atW).mergeSort fun x y => decide (x ≤ y)) = termsL a b := by
 refine comp_puts _ _ ?_ (List.mergeSort_perm _ _)
 have h := List.pairwise_mergeSort (le := fun (x y : List UInt8) => decide (x ≤ y)) (fun a b c h1 h2 => by simp only [decide_eq_true_eq] at *; exact List.le_trans h1 h2) (fun a b => by simp only [Bool.or_eq_true, decide_eq_true_eq]; exact List.le_total a b) (wordsOf a ++ (wordsOf b).map atW)
 exact h.imp (fun h => by simpa using h)
set_option maxRecDepth 100000
theorem Terms_any (r : Rec) (w : World) (h1 : r.text.length ≤ 1000000) (h2 : r.source.length ≤ 1000000) :
  Calls Tryz.prog 65 #[recV r] w fun e w' => ∃ v, e = .returned v ∧ Ow w' w.heap.size eS v (termsL r.text r.source) ∧ Fr w w' := by
 have hmf : ∀ (fn : Fn) (first cap : Array Value) (w : World), (Instr.makeFunc fn first cap).run Tryz.prog w = .ok (.func fn first cap) w := fun _ _ _ _ => rfl
 have HTs := hid (terms_sorted r.text r.source)
 have hwt := wordsOf_len r.text
 have hws := wordsOf_len r.source
 generalize termsL r.text r.source = T at *
 go_enter Tryz.func65, Tryz.ntmps65
 go_wp2_with fail
 have hb0 : (w.alloc (.cells #[.int .u64 r.time.toNat, Fk.u8 r.level, S r.source, S r.text] 40)).heap.size = w.heap.size + 1 := size_alloc _ _
 have hf0 : Fr w ((w.alloc (.cells #[.int .u64 r.time.toNat, Fk.u8 r.level, S r.source, S r.text] 40)).alloc (.cells #[.slice none 0 0] 64)) := ((Fr.refl w).alloc _).alloc _
 have hr0 : ((w.alloc (.cells #[.int .u64 r.time.toNat, Fk.u8 r.level, S r.source, S r.text] 40)).alloc (.cells #[.slice none 0 0] 64)).heap[w.heap.size]? = some (.cells #[.int .u64 r.time.toNat, Fk.u8 r.level, S r.source, S r.text] 40 (0, 0)) := by
  rw [heap_old _ _ _ (by rw [hb0]; omega)]; exact heap_new _ _ _ rfl
 have ho0 : ((w.alloc (.cells #[.int .u64 r.time.toNat, Fk.u8 r.level, S r.source, S r.text] 40)).alloc (.cells #[.slice none 0 0] 64)).heap[w.heap.size + 1]? = some (.cells #[.slice none 0 0] 64 (0, 0)) := heap_new _ _ _ hb0.symm
 refine (split_any (terms1_sink (w.heap.size + 1)) (enters Tryz.func109 (by kernel_rfl) rfl) r.text [] (fun b => b = w.heap.size + 1) _ ?h (by simp; omega)).mono ?_
 case h => exact ⟨_, ho0, Ow.nil, fun b => by simp [Value.ownBlock]⟩
 rintro e w1 ⟨rfl, F1, ⟨ov, h1o, h2o, h3o⟩, hc1, hF1⟩
 have hr1 := hc1.heap hr0 (by omega)
 have hf1 : Fr w w1 := Chg.below hf0 hc1 hf0.size (fun i e => by omega)
 have k2 : w1.cell? ⟨w.heap.size, 2, none⟩ = some (S r.source) := by rw [cell_of_heap hr1]; rfl
 have e1 : ([] : List (List UInt8)) ++ (([] : List (List UInt8)) ++ wordsOf r.text).map asIs = wordsOf r.text := List.map_id _
 rw [e1] at h2o
 clear e1 hr0 ho0 hf0 hb0 hc1
 go_wp2_with fail
 refine (split_any (terms2_sink (w.heap.size + 1) (wordsOf r.text) (by omega)) (enters Tryz.func110 (by kernel_rfl) rfl) r.source [] (fun b => b = w.heap.size + 1 ∨ ov.ownBlock = some b) _ ?h (by simp; omega)).mono ?_
 case h => exact ⟨ov, h1o, by simpa using h2o, fun b => Iff.rfl⟩
 rintro e w2 ⟨rfl, F2, ⟨ov2, h1p, h2p, h3p⟩, hc2, hF2⟩
 have hf2 : Fr w w2 := Chg.below hf1 hc2 hf1.size (fun i e => by
  rcases e with e | e
  · omega
  · have := (h2o.lt i e).1; omega)
 have e1 : ([] : List (List UInt8)) ++ wordsOf r.source = wordsOf r.source := rfl
 rw [e1] at h2p
 obtain ⟨L, hL⟩ : ∃ L, L = wordsOf r.text ++ (wordsOf r.source).map atW := ⟨_, rfl⟩
 have hLl : L.length ≤ 2000000 := by rw [hL]; simp; omega
 rw [← hL] at h2p HTs
 have hvx : w2.cell? ⟨w.heap.size + 1, 0, none⟩ = some ov2 := by rw [cell_of_heap h1p]; rfl
 have hH := hid h1p
 have HSo := hid (SSort_any ov2 L _ w2 h2p (by omega))
 have hne := h2p.ne_cells h1p (by decide)
 have hlt := h2p.lt
 clear e1 hL h1p h2o h1o hc2 k2 hr1 hf1 h2p
 go_wp2_with fail
 refine HSo.out.mono ?_
 rintro e w3 ⟨rfl, hS3, hg3⟩
 have hH3 := (grown_chg hg3).heap hH.out hne
 have hvx3 : w3.cell? ⟨w.heap.size + 1, 0, none⟩ = some ov2 := by rw [cell_of_heap hH3]; rfl
 have hf3 : Fr w w3 := hf2.own hg3 (fun k e => by have := (hlt k e).1; omega)
 have HCo := hid (SCompact_any ov2 _ _ w3 hS3 (by rw [List.length_mergeSort]; omega))
 rw [HTs.out] at HCo
 clear hS3 HSo
 go_wp2_with fail
 refine HCo.out.mono ?_
 rintro e w4 ⟨v4, rfl, hO4, hg4⟩
 go_wp2_with fail
 go_ret
 exact ⟨_, rfl, hO4.rebase (by omega), hf3.own hg4 (fun k e => by have := (hlt k e).1; omega)⟩
set_option maxRecDepth 512
def prevL (s : List UInt8) (i : Nat) : Bool := decide (0 < i) && (match s[i - 1]? with | some c => isL c | none => false)
theorem prevL_succ (s : List UInt8) (i : Nat) (h : i < s.length) : prevL s (i + 1) = isL s[i] := by
 unfold prevL; simp [h]
theorem sml_zero (c : UInt8) : (((sml c).toNat : Int) == 0) = !isL c := by
 have h := sml_eq_zero c
 cases hL : isL c with
 | true =>
  rw [beq_eq_false_iff_ne.2]; · rfl
  intro e
  have e2 : sml c = 0 := UInt8.toNat_inj.1 (by have z : (0 : UInt8).toNat = 0 := rfl; rw [z]; omega)
  rw [h.1 e2] at hL; cases hL
 | false => rw [h.2 hL]; rfl
theorem sml_sm (c : UInt8) (h : isL c = true) : sml c = sm c := by unfold sml; rw [h]; rfl
theorem wrd_no (s : List UInt8) (i : Nat) (h : i < s.length) (hn : isL s[i] = false) (b : Bool) : wrdGo b (s.drop i) = wrdGo (prevL s (i + 1)) (s.drop (i + 1)) := by
 rw [List.drop_eq_getElem_cons h, wrdGo, hn, prevL_succ s i h, hn]; rfl
theorem wrd_in (s : List UInt8) (i : Nat) (h : i < s.length) (hy : isL s[i] = true) : wrdGo true (s.drop i) = wrdGo (prevL s (i + 1)) (s.drop (i + 1)) := by
 rw [List.drop_eq_getElem_cons h, wrdGo, hy, prevL_succ s i h, hy]; rfl
theorem wrd_new (s : List UInt8) (i : Nat) (h : i < s.length) (hy : isL s[i] = true) : wrdGo false (s.drop i) = (wordAt (s.drop i)).take 24 :: wrdGo (prevL s (i + 1)) (s.drop (i + 1)) := by
 rw [List.drop_eq_getElem_cons h, wrdGo, hy, prevL_succ s i h, hy]; rfl
theorem wordAt_on (s : List UInt8) (k : Nat) (h : k < s.length) (hy : isL s[k] = true) : wordAt (s.drop k) = sm s[k] :: wordAt (s.drop (k + 1)) := by
 rw [List.drop_eq_getElem_cons h, wordAt, if_pos hy]
theorem wordAt_off (s : List UInt8) (k : Nat) (h : k < s.length) (hy : isL s[k] = false) : wordAt (s.drop k) = [] := by
 rw [List.drop_eq_getElem_cons h, wordAt, hy]; rfl
theorem bne_of {x y : Int} {b : Bool} (h : (x == y) = b) : (x != y) = !b := by rw [bne, h]
set_option maxRecDepth 100000
theorem RWords_any (s : List UInt8) (w : World) (hlen : s.length ≤ 2000000000) :
  Calls Tryz.prog 132 #[S s] w fun e w' => ∃ v, e = .returned v ∧ Ow w' w.heap.size eS v (wordsOf s) ∧ Fr w w' := by
 have HSm := hid (fun c W => rsmall_any c W)
 have HW : Hid (wordsOf s = [] ++ wrdGo (prevL s 0) (s.drop 0)) := by show _ = _; rw [wordsOf_wrd]; simp [prevL]
 generalize wordsOf s = T at *
 go_enter Tryz.func132, Tryz.ntmps132
 go_wp2_with fail
 go_loopw [3, 4] (fun ov iv wr => ∃ (i : Nat) (out : List (List UInt8)), i ≤ s.length ∧ iv = N i ∧ out.length ≤ i ∧ Ow wr w.heap.size eS ov out ∧ Hid (T = out ++ wrdGo (prevL s i) (s.drop i)) ∧ Fr w wr) (fun _ iv _ => s.length - (intOf iv).toNat)
 case atStart => exact ⟨0, [], Nat.zero_le _, rfl, Nat.le_refl _, Ow.nil, HW, Fr.refl w⟩
 case round =>
  clear HW
  obtain ⟨i, out, hi, rfl, hol, hout, HI, hf⟩ := hrel
  by_cases hlt : i < s.length
  · have i1 : (0 : Int) ≤ i := by omega
    have i2 : (i : Int) < s.length := by omega
    obtain ⟨va, vc, hv⟩ := hout.shape'
    subst hv
    go_upto_region 5 with fail
    generalize hnew : (isL s[i] && !prevL s i) = nw
    have HNw := hid hnew
    clear hnew
    go_cut [29] from 13 to 29 (fun cv wx => cv = .bool (!nw) ∧ wx = wr)
    case first =>
     have hz := sml_zero s[i]
     have HS1 := hid (HSm.out s[i])
     cases hL : isL s[i] with
     | false =>
      rw [hL] at hz
      have HN2 : Hid (nw = false) := by show _ = _; rw [← HNw.out, hL]; rfl
      go_wp2_with fail
      refine (HS1.out _).mono ?_
      rintro e w1 ⟨rfl, rfl⟩
      go_wp2_with fail
      go_meet
      exact ⟨by rw [HN2.out]; rfl, rfl⟩
     | true =>
      rw [hL] at hz
      by_cases h0 : i = 0
      · subst h0
        have HN2 : Hid (nw = true) := by show _ = _; rw [← HNw.out, hL]; rfl
        go_wp2_with fail
        refine (HS1.out _).mono ?_
        rintro e w1 ⟨rfl, rfl⟩
        go_wp2_with fail
        go_meet
        exact ⟨by rw [HN2.out]; rfl, rfl⟩
      · obtain ⟨j, rfl⟩ : ∃ j, i = j + 1 := ⟨i - 1, by omega⟩
        have hj : j < s.length := by omega
        have hz2 := sml_zero s[j]
        have HS2 := hid (HSm.out s[j])
        have HN2 : Hid (nw = !isL s[j]) := by show _ = _; rw [← HNw.out, hL, prevL_succ s j hj]; rfl
        have i3 : (0 : Int) < ((j + 1 : Nat) : Int) := by omega
        have i4 : IntKind.i64.wrap (((j + 1 : Nat) : Int) - 1) = (j : Int) := by rw [IntWalk.i64_in _ (by omega)]; omega
        have i5 : (0 : Int) ≤ (j : Int) := by omega
        have i6 : (j : Int) < s.length := by omega
        go_wp2_with fail
        refine (HS1.out _).mono ?_
        rintro e w1 ⟨rfl, rfl⟩
        go_wp2_with fail
        refine (HS2.out _).mono ?_
        rintro e w1 ⟨rfl, rfl⟩
        cases hP : isL s[j] with
        | false =>
         rw [hP] at hz2 HN2
         have hz3 := bne_of hz2
         go_wp2_with fail
         go_meet
         exact ⟨by rw [HN2.out]; rfl, rfl⟩
        | true =>
         rw [hP] at hz2 HN2
         have hz3 := bne_of hz2
         go_wp2_with fail
         go_meet
         exact ⟨by rw [HN2.out]; rfl, rfl⟩
    case rest =>
     obtain ⟨rfl, hwx⟩ := hcut
     subst hwx
     cases nw with
     | false =>
      have HI2 : Hid (T = out ++ wrdGo (prevL s (i + 1)) (s.drop (i + 1))) := by
       show _ = _
       rw [HI.out]
       congr 1
       cases hL : isL s[i] with
       | false => exact wrd_no s i hlt hL _
       | true =>
        have := HNw.out
        rw [hL] at this
        have hp : prevL s i = true := by simpa using this
        rw [hp]; exact wrd_in s i hlt hL
      go_wp2_with fail
      go_roundw
      case rel => exact ⟨i + 1, out, by omega, by go_num, by omega, hout, HI2, hf⟩
      case measure => simp [intOf]; omega
     | true =>
      have hLp : isL s[i] = true ∧ prevL s i = false := by have := HNw.out; simpa using this
      have HI2 : Hid (T = (out ++ [(wordAt (s.drop i)).take 24]) ++ wrdGo (prevL s (i + 1)) (s.drop (i + 1))) := by
       show _ = _
       rw [HI.out, hLp.2, wrd_new s i hlt hLp.1]; simp
      clear HI hLp
      go_wp2_with fail
      go_loopw [5, 6] (fun wv kv wq => ∃ (k : Nat) (m : List UInt8), i ≤ k ∧ k ≤ s.length ∧ kv = N k ∧ m.length = k - i ∧ m.length ≤ 24 ∧ Ow wq wc.heap.size eB wv m ∧ Hid ((wordAt (s.drop i)).take 24 = m ++ (wordAt (s.drop k)).take (24 - m.length)) ∧ Fr wc wq) (fun _ kv _ => s.length - (intOf kv).toNat)
      case atStart => exact ⟨i, [], Nat.le_refl _, hi, rfl, by simp, by simp, Ow.nil, hid (by simp), Fr.refl wc⟩
      case round =>
       obtain ⟨k, m, hik, hk, rfl, hmk, hm24, hwd, HWd, hfw⟩ := hrel
       obtain ⟨wa, wcap, hwv⟩ := hwd.shape'
       subst hwv
       have HMk := hid hmk
       clear hmk
       by_cases hgo : k < s.length ∧ (∃ h : k < s.length, isL s[k] = true) ∧ m.length < 24
       · obtain ⟨g1, ⟨_, g2⟩, g3⟩ := hgo
         have hz := sml_zero s[k]
         rw [g2] at hz
         have HS1 := hid (HSm.out s[k])
         have HSm2 : Hid (sml s[k] = sm s[k]) := sml_sm _ g2
         rw [HSm2.out] at hz HS1
         have HWd2 : Hid ((wordAt (s.drop i)).take 24 = (m ++ [sm s[k]]) ++ (wordAt (s.drop (k + 1))).take (24 - (m ++ [sm s[k]]).length)) := by
          show _ = _
          rw [HWd.out, wordAt_on s k g1 g2]
          obtain ⟨q, hq⟩ : ∃ q, 24 - m.length = q + 1 := ⟨24 - m.length - 1, by omega⟩
          rw [hq, List.take_succ_cons]
          simp
          congr 1
          omega
         have k1 : (0 : Int) ≤ k := by omega
         have k2 : (k : Int) < s.length := by omega
         have k3 : (m.length : Int) < 24 := by omega
         have hz3 := bne_of hz
         generalize sm s[k] = c at *
         go_wp2_with fail
         refine (HS1.out _).mono ?_
         rintro e w1 ⟨rfl, rfl⟩
         go_wp2_with fail
         refine (HS1.out _).mono ?_
         rintro e w1 ⟨rfl, rfl⟩
         go_wp2_with (at_builtin; refine wpList_app1 eB rfl (.tmp 49) (.tmp 54) 31 rfl Tryz.underlying31 wc.heap.size rfl hwd [c] _ _ _ rfl rfl rfl ?c1 hfw.size ?_)
         case c1 => simp; omega
         intro v' w4 hap
         go_wp2_with fail
         go_roundw
         case rel =>
          repeat apply Exists.intro
          exact ⟨⟨k + 1, m ++ [c], by omega, by omega, by go_num, by rw [List.length_append, HMk.out]; simp; omega, by rw [List.length_append]; simp; omega, hap.own, HWd2, hap.below hwd hfw (Nat.le_refl _) hfw.size⟩, rfl⟩
         case measure => simp [intOf]; omega
       · have HEnd : Hid ((wordAt (s.drop i)).take 24 = m) := by
           show _ = _
           rw [HWd.out]
           by_cases g3 : m.length < 24
           · by_cases g1 : k < s.length
             · have g2 : isL s[k] = false := by
                 cases h : isL s[k] with
                 | false => rfl
                 | true => exact absurd ⟨g1, ⟨g1, h⟩, g3⟩ hgo
               rw [wordAt_off s k g1 g2]; simp
             · rw [List.drop_of_length_le (by omega)]; simp [wordAt]
           · rw [show 24 - m.length = 0 by omega]; simp
         have hfx : Fr w wr := hf.trans hfw
         have houtx := hout.fr hfw
         have HK : Hid (T = (out ++ [m]) ++ wrdGo (prevL s (i + 1)) (s.drop (i + 1))) := by show _ = _; rw [HI2.out, HEnd.out]
         have hcv := fun W (h : See W eB (.slice wa m.length wcap) m) => run_conv_see eB W 31 9 Tryz.underlying31 Tryz.underlying5 Tryz.underlying9 rfl rfl h
         have hcv1 := hcv _ hwd.see
         have hcv2 := hcv _ hwd.see.drew
         clear hcv
         by_cases g1 : k < s.length
         · have hz := sml_zero s[k]
           have k1 : (0 : Int) ≤ k := by omega
           have k2 : (k : Int) < s.length := by omega
           have HS1 := hid (HSm.out s[k])
           cases g2 : isL s[k] with
           | false =>
            rw [g2] at hz
            have hz3 := bne_of hz
            go_wp2_with fail
            refine (HS1.out _).mono ?_
            rintro e w1 ⟨rfl, rfl⟩
            go_wp2_with (at_builtin; refine wpList_app1 eS rfl (.tmp 56) (.tmp 59) 64 rfl Tryz.underlying64 w.heap.size rfl houtx [m] _ _ _ rfl rfl rfl ?c1 hfx.size ?_)
            case c1 => first | omega | (simp; omega)
            intro v' w4 hap
            go_wp2_with fail
            go_roundw
            case rel => exact ⟨i + 1, out ++ [m], by omega, by go_num, by simp; omega, hap.own, HK, hap.below houtx hfx (Nat.le_refl _) hfx.size⟩
            case measure => simp [intOf]; omega
           | true =>
            rw [g2] at hz
            have hz3 := bne_of hz
            have g3 : ¬ m.length < 24 := fun g3 => hgo ⟨g1, ⟨g1, g2⟩, g3⟩
            have k3 : ¬ (m.length : Int) < 24 := by omega
            clear hgo
            go_wp2_with fail
            refine (HS1.out _).mono ?_
            rintro e w1 ⟨rfl, rfl⟩
            go_wp2_with (at_builtin; refine wpList_app1 eS rfl (.tmp 56) (.tmp 59) 64 rfl Tryz.underlying64 w.heap.size rfl houtx [m] _ _ _ rfl rfl rfl ?c1 hfx.size ?_)
            case c1 => first | omega | (simp; omega)
            intro v' w4 hap
            go_wp2_with fail
            go_roundw
            case rel => exact ⟨i + 1, out ++ [m], by omega, by go_num, by simp; omega, hap.own, HK, hap.below houtx hfx (Nat.le_refl _) hfx.size⟩
            case measure => simp [intOf]; omega
         · have k2 : ¬ (k : Int) < s.length := by omega
           clear hgo
           go_wp2_with (at_builtin; refine wpList_app1 eS rfl (.tmp 56) (.tmp 59) 64 rfl Tryz.underlying64 w.heap.size rfl houtx [m] _ _ _ rfl rfl rfl ?c1 hfx.size ?_)
           case c1 => first | omega | (simp; omega)
           intro v' w4 hap
           go_wp2_with fail
           go_roundw
           case rel => exact ⟨i + 1, out ++ [m], by omega, by go_num, by simp; omega, hap.own, HK, hap.below houtx hfx (Nat.le_refl _) hfx.size⟩
           case measure => simp [intOf]; omega
  · obtain rfl : i = s.length := by omega
    have hnl : ¬ (s.length : Int) < s.length := by omega
    have HE : Hid (T = out) := by show _ = _; rw [HI.out, List.drop_length]; simp [wrdGo]
    go_wp2_with fail
    go_ret
    exact ⟨_, rfl, by rw [HE.out]; exact hout, hf⟩
set_option maxRecDepth 512
theorem strAt {w : World} {v : Value} {l : List (List UInt8)} (h : See w eS v l) (k : Nat) (hk : k < l.length) : ∃ b off cap, v = .slice (some ⟨b, off, none⟩) l.length cap ∧ w.cell? ⟨b, off + k, none⟩ = some (S l[k]) := h.cell1 S rfl k hk
theorem putS_at : ∀ (l : List (List UInt8)) (s : List UInt8) (k : Nat), k ≤ l.length → (∀ i (h : i < k) (h2 : i < l.length), l[i] < s) → (∀ h : k < l.length, ¬ l[k] < s) →
  putS l s = if ∃ h : k < l.length, l[k] = s then l else l.take k ++ [s] ++ l.drop k
 | [], s, k, hk, _, _ => by
  have : k = 0 := by simpa using hk
  subst this
  simp [putS]
 | t :: l, s, 0, _, _, h2 => by
  have := h2 (by simp)
  rw [putS, if_neg (by simpa using this)]
  simp
 | t :: l, s, k + 1, hk, h1, h2 => by
  have h0 := h1 0 (by omega) (by simp)
  have ih := putS_at l s k (by simpa using hk) (fun i hi hi2 => by have := h1 (i + 1) (by omega) (by simpa using hi2); simpa using this) (fun h => by have := h2 (by simpa using h); simpa using this)
  rw [putS, if_pos (by simpa using h0), ih]
  by_cases hh : ∃ h : k < l.length, l[k] = s
  · rw [if_pos hh, if_pos (by obtain ⟨a, b⟩ := hh; exact ⟨by simpa using a, by simpa using b⟩)]
  · rw [if_neg hh, if_neg (by rintro ⟨a, b⟩; exact hh ⟨by simpa using a, by simpa using b⟩)]
    simp
set_option maxRecDepth 100000
theorem RPut15_any (v : Value) (l : List (List UInt8)) (s : List UInt8) (w : World) (hs : See w eS v l) (hn : l.length ≤ 100000000) :
  Calls Tryz.prog 86 #[v, S s] w fun e w' => ∃ v', e = .returned v' ∧ ((v' = v ∧ putS l s = l) ∨ Ow w' w.heap.size eS v' (putS l s)) ∧ Fr w w' := by
 have HS := hid (fun k hk => strAt hs k hk)
 have HSee := hid hs
 have HPt := hid (putS_at l s)
 generalize putS l s = T at *
 obtain ⟨a0, cap, hv, hcap1, hcap2, hnone⟩ := hs.shape
 subst hv
 unfold maxLen at hcap2
 go_enter Tryz.func86, Tryz.ntmps86
 go_wp2_with fail
 go_loopw [5] (fun iv wr => ∃ k : Nat, k ≤ l.length ∧ iv = N k ∧ Hid (∀ i (h : i < k) (h2 : i < l.length), l[i] < s) ∧ w = wr) (fun iv _ => l.length - (intOf iv).toNat)
 case atStart => exact ⟨0, Nat.zero_le _, rfl, hid (fun i h => by omega), rfl⟩
 case round =>
  obtain ⟨k, hk, rfl, HA, rfl⟩ := hrel
  by_cases hlt : k < l.length
  · obtain ⟨b, off, cap', hv, c0⟩ := HS.out k hlt
    cases hv
    have i1 : (0 : Int) ≤ k := by omega
    have i2 : (k : Int) < l.length := by omega
    by_cases hls : l[k] < s
    · have HA2 : Hid (∀ i (h : i < k + 1) (h2 : i < l.length), l[i] < s) := fun i h h2 => by
        by_cases e : i = k
        · subst e; exact hls
        · exact HA.out i (by omega) h2
      have hbl : Op.bytesLess l[k] s = true := by rw [Go.Proofs.bytesLess_eq]; exact decide_eq_true hls
      generalize l[k] = x at *
      go_wp2_with fail
      go_roundw
      case rel => exact ⟨k + 1, by omega, by go_num, HA2, by first | rfl | trivial⟩
      case measure => simp [intOf]; omega
    · have hbl : Op.bytesLess l[k] s = false := by rw [Go.Proofs.bytesLess_eq]; exact decide_eq_false hls
      have HP := hid (HPt.out k hk HA.out (fun _ => hls))
      clear HPt HA
      by_cases he : l[k] = s
      · have hbe : (l[k] == s) = true := by simp [he]
        have HP2 : Hid (T = l) := by show _ = _; rw [HP.out, if_pos ⟨hlt, he⟩]
        clear he hls HP
        generalize l[k] = x at *
        go_wp2_with fail
        go_ret
        exact ⟨_, rfl, .inl ⟨rfl, HP2.out⟩, Fr.refl _⟩
      · have hbe : (l[k] == s) = false := by simp [he]
        have HP2 : Hid (T = l.take k ++ [s] ++ l.drop k) := by show _ = _; rw [HP.out, if_neg (by rintro ⟨_, h⟩; exact he h)]
        clear he hls HP
        generalize l[k] = x at *
        obtain ⟨hto, hsto⟩ := run_to eS 64 Tryz.underlying64 HSee.out k hk
        obtain ⟨fa, fc, hfrom, hsfrom⟩ := run_from eS 64 Tryz.underlying64 HSee.out k hk
        have HTo := hid hsto
        have HFrom := hid hsfrom
        clear hsto hsfrom
        have own0 : Ow w w.heap.size eS (.slice none 0 0) ([] : List (List UInt8)) := Ow.nil
        go_wp2_with (at_builtin; refine wpList_app eS rfl (.tmp 34) (.tmp 37) 64 rfl Tryz.underlying64 w.heap.size rfl own0 _ _ rfl HTo.out ?c1 (Nat.le_refl _) ?_)
        case c1 => first | omega | (simp; omega)
        intro v1 w1 hap1
        have hf1 : Fr w w1 := hap1.below own0 (Fr.refl w) (Nat.le_refl _) (Nat.le_refl _)
        have own1 := hap1.own
        try rw [List.nil_append] at own1
        have hl1 : (l.take k).length = k := by simp; omega
        go_wp2_with (at_builtin; refine wpList_app1 eS rfl (.tmp 39) (.tmp 41) 64 rfl Tryz.underlying64 w.heap.size rfl own1 [s] _ _ _ rfl rfl rfl ?c1 hf1.size ?_)
        case c1 => first | omega | (simp; omega)
        intro v2 w2 hap2
        have hf2 : Fr w w2 := hap2.below own1 hf1 (Nat.le_refl _) hf1.size
        have own2 := hap2.own
        have hsf := HFrom.out.fr hf2
        go_wp2_with (at_builtin; refine wpList_app eS rfl (.tmp 43) (.tmp 46) 64 rfl Tryz.underlying64 w.heap.size rfl own2 _ _ rfl hsf ?c1 hf2.size ?_)
        case c1 => first | omega | (simp; omega)
        intro v3 w3 hap3
        go_wp2_with fail
        go_ret
        exact ⟨_, rfl, .inr (by rw [HP2.out]; have := hap3.own; simpa using this), hap3.below own2 hf2 (Nat.le_refl _) hf2.size⟩
  · have hnl : ¬ (k : Int) < l.length := by omega
    have HP := hid (HPt.out k hk HA.out (fun h => absurd h (by omega)))
    have HP2 : Hid (T = l.take k ++ [s] ++ l.drop k) := by show _ = _; rw [HP.out, if_neg (by rintro ⟨h, _⟩; omega)]
    clear HPt HA HP
    have i1 : (0 : Int) ≤ k := by omega
    obtain ⟨hto, hsto⟩ := run_to eS 64 Tryz.underlying64 HSee.out k hk
    obtain ⟨fa, fc, hfrom, hsfrom⟩ := run_from eS 64 Tryz.underlying64 HSee.out k hk
    have HTo := hid hsto
    have HFrom := hid hsfrom
    clear hsto hsfrom
    have own0 : Ow w w.heap.size eS (.slice none 0 0) ([] : List (List UInt8)) := Ow.nil
    have hl1 : (l.take k).length = k := by simp; omega
    go_wp2_with (at_builtin; refine wpList_app eS rfl (.tmp 34) (.tmp 37) 64 rfl Tryz.underlying64 w.heap.size rfl own0 _ _ rfl HTo.out ?c1 (Nat.le_refl _) ?_)
    case c1 => first | omega | (simp; omega)
    intro v1 w1 hap1
    have hf1 : Fr w w1 := hap1.below own0 (Fr.refl w) (Nat.le_refl _) (Nat.le_refl _)
    have own1 := hap1.own
    try rw [List.nil_append] at own1
    go_wp2_with (at_builtin; refine wpList_app1 eS rfl (.tmp 39) (.tmp 41) 64 rfl Tryz.underlying64 w.heap.size rfl own1 [s] _ _ _ rfl rfl rfl ?c1 hf1.size ?_)
    case c1 => first | omega | (simp; omega)
    intro v2 w2 hap2
    have hf2 : Fr w w2 := hap2.below own1 hf1 (Nat.le_refl _) hf1.size
    have own2 := hap2.own
    have hsf := HFrom.out.fr hf2
    go_wp2_with (at_builtin; refine wpList_app eS rfl (.tmp 43) (.tmp 46) 64 rfl Tryz.underlying64 w.heap.size rfl own2 _ _ rfl hsf ?c1 hf2.size ?_)
    case c1 => first | omega | (simp; omega)
    intro v3 w3 hap3
    go_wp2_with fail
    go_ret
    exact ⟨_, rfl, .inr (by rw [HP2.out]; have := hap3.own; simpa using this), hap3.below own2 hf2 (Nat.le_refl _) hf2.size⟩
theorem RTerms_any (r : Rec) (w : World) (h1 : r.text.length ≤ 1000000) (h2 : r.source.length ≤ 1000000) :
  Calls Tryz.prog 85 #[recV r] w fun e w' => ∃ v, e = .returned v ∧ Ow w' w.heap.size eS v (termsL r.text r.source) ∧ Fr w w' := by
 have hwt := wordsOf_len r.text
 have hws := wordsOf_len r.source
 have HWt := hid (fun W => RWords_any r.text W (by omega))
 have HWs := hid (fun W => RWords_any r.source W (by omega))
 have HE : Hid (termsL r.text r.source = putsS (putsS [] (wordsOf r.text)) ((wordsOf r.source).map atW)) := by
  show _ = _; unfold termsL putsS; rw [List.foldl_append]; rfl
 have HP := hid (fun v l s W hs hn => RPut15_any v l s W hs hn)
 have HE24 := hid (wordsOf_each r.source)
 generalize wordsOf r.text = A at *
 generalize wordsOf r.source = B at *
 generalize termsL r.text r.source = T at *
 go_enter Tryz.func85, Tryz.ntmps85
 go_wp2_with fail
 have hf0 : Fr w (w.alloc (.cells #[.int .u64 r.time.toNat, Fk.u8 r.level, S r.source, S r.text] 40)) := (Fr.refl w).alloc _
 have hr0 : (w.alloc (.cells #[.int .u64 r.time.toNat, Fk.u8 r.level, S r.source, S r.text] 40)).heap[w.heap.size]? = some (.cells #[.int .u64 r.time.toNat, Fk.u8 r.level, S r.source, S r.text] 40 (0, 0)) := heap_new _ _ _ rfl
 generalize w.alloc (.cells #[.int .u64 r.time.toNat, Fk.u8 r.level, S r.source, S r.text] 40) = w1 at *
 refine (HWt.out _).mono ?_
 rintro e w2 ⟨v2, rfl, hO2, hf2⟩
 have hf02 := hf0.trans hf2
 have HH2 := hid (hf2.heap hr0)
 have HA := hid (fun W (h : Fr w2 W) k hk => strAt (hO2.see.fr h) k hk)
 obtain ⟨va, vc, hv2⟩ := hO2.shape'
 subst hv2
 clear hO2 hr0 HWt
 go_wp2_with fail
 go_loopw [3, 5] (fun ov iv wr => ∃ k : Nat, k ≤ A.length ∧ iv = N k ∧ Ow wr w.heap.size eS ov (putsS [] (A.take k)) ∧ Fr w2 wr) (fun _ iv _ => A.length - (intOf iv).toNat)
 case atStart => exact ⟨0, Nat.zero_le _, rfl, Ow.nil, Fr.refl _⟩
 case round =>
  obtain ⟨k, hk, rfl, hS, hf⟩ := hrel
  have hpl := putsS_len (A.take k) []
  rw [List.length_take] at hpl
  simp only [List.length_nil] at hpl
  by_cases hlt : k < A.length
  · obtain ⟨b, off, cap', hv, c0⟩ := HA.out wr hf k hlt
    cases hv
    have HN : Hid (putS (putsS [] (A.take k)) A[k] = putsS [] (A.take (k + 1))) := by show _ = _; rw [List.take_succ_eq_append_getElem hlt]; unfold putsS; rw [List.foldl_append]; rfl
    generalize putsS [] (A.take k) = m at *
    generalize A[k] = x at *
    have HP1 := hid (HP.out _ m x wr hS.see (by omega))
    obtain ⟨ma, mc, hmv⟩ := hS.shape'
    subst hmv
    have i1 : (0 : Int) ≤ k := by omega
    have i2 : (k : Int) < A.length := by omega
    go_wp2_with fail
    refine HP1.out.mono ?_
    rintro e w3 ⟨v3, rfl, hS3, hf3⟩
    have hS3 : Ow w3 w.heap.size eS v3 (putS m x) := by
     rcases hS3 with ⟨rfl, he⟩ | h
     · rw [he]; exact hS.fr hf3
     · exact h.rebase (hf02.trans hf).size
    rw [HN.out] at hS3
    go_wp2_with fail
    go_roundw
    case rel => exact ⟨k + 1, by omega, by go_num, hS3, hf.trans hf3⟩
    case measure => simp [intOf]; omega
  · obtain rfl : k = A.length := by omega
    have hnl : ¬ (A.length : Int) < A.length := by omega
    rw [List.take_length] at hS
    have hpl2 : (putsS [] A).length ≤ 1000000 := by have := putsS_len A []; simp at this; omega
    have HE2 : Hid (T = putsS (putsS [] A) (B.map atW)) := HE
    clear HE hpl
    generalize putsS [] A = P at *
    have hfw := hf02.trans hf
    have hr3 := hf.heap HH2.out
    have k2 : wr.cell? ⟨w.heap.size, 2, none⟩ = some (S r.source) := by rw [cell_of_heap hr3]; rfl
    have HS0 := hid hS
    obtain ⟨pa, pc, hpv⟩ := hS.shape'
    subst hpv
    clear hS hr3
    go_wp2_with fail
    refine (HWs.out _).mono ?_
    rintro e w4 ⟨v4, rfl, hO4, hf4⟩
    have HB := hid (fun W (h : Fr w4 W) k hk => strAt (hO4.see.fr h) k hk)
    have hfw4 := hfw.trans hf4
    have hS4 := HS0.out.fr hf4
    obtain ⟨vb, vd, hv4⟩ := hO4.shape'
    subst hv4
    clear hO4 HWs k2
    go_wp2_with fail
    go_loopw [3, 6] (fun ov iv wr => ∃ k : Nat, k ≤ B.length ∧ iv = N k ∧ Ow wr w.heap.size eS ov (putsS P ((B.take k).map atW)) ∧ Fr w4 wr) (fun _ iv _ => B.length - (intOf iv).toNat)
    case atStart => exact ⟨0, Nat.zero_le _, rfl, hS4, Fr.refl _⟩
    case round =>
     clear hS4
     obtain ⟨k, hk, rfl, hS, hf5⟩ := hrel
     have hpl := putsS_len ((B.take k).map atW) P
     rw [List.length_map, List.length_take] at hpl
     by_cases hlt : k < B.length
     · obtain ⟨b, off, cap', hv, c0⟩ := HB.out wr hf5 k hlt
       cases hv
       have HN : Hid (putS (putsS P ((B.take k).map atW)) (atW B[k]) = putsS P ((B.take (k + 1)).map atW)) := by show _ = _; rw [List.take_succ_eq_append_getElem hlt]; unfold putsS; rw [List.map_append, List.foldl_append]; rfl
       have hx24 := (HE24.out B[k] (List.getElem_mem hlt)).2
       generalize putsS P ((B.take k).map atW) = m at *
       generalize B[k] = x at *
       have HP1 := hid (HP.out _ m (atW x) wr hS.see (by omega))
       obtain ⟨ma, mc, hmv⟩ := hS.shape'
       subst hmv
       have i1 : (0 : Int) ≤ k := by omega
       have i2 : (k : Int) < B.length := by omega
       have hb1 : ¬ (9223372036854775807 : Int) < 1 + x.length := by omega
       go_wp2_with fail
       refine HP1.out.mono ?_
       rintro e w5 ⟨v5, rfl, hS5, hf6⟩
       have hS5 : Ow w5 w.heap.size eS v5 (putS m (atW x)) := by
        rcases hS5 with ⟨rfl, he⟩ | h
        · rw [he]; exact hS.fr hf6
        · exact h.rebase (hfw4.trans hf5).size
       rw [HN.out] at hS5
       go_wp2_with fail
       go_roundw
       case rel => exact ⟨k + 1, by omega, by go_num, hS5, hf5.trans hf6⟩
       case measure => simp [intOf]; omega
     · obtain rfl : k = B.length := by omega
       have hnl2 : ¬ (B.length : Int) < B.length := by omega
       rw [List.take_length, ← HE2.out] at hS
       go_wp2_with fail
       go_ret
       exact ⟨_, rfl, hS, hfw4.trans hf5⟩
set_option maxRecDepth 512
def txtOk (l : List (List UInt8)) : Prop := RisS l ∧ (∀ s ∈ l, 1 ≤ s.length ∧ s.length ≤ 25) ∧ l.length ≤ 1000000
theorem less_false {a b : List UInt8} (h : ¬ a < b) : Op.bytesLess a b = false := by rw [Go.Proofs.bytesLess_eq]; exact decide_eq_false h
theorem dmay_any (was s : List UInt8) (w : World) (h1 : 1 ≤ s.length) (h2 : s.length ≤ 25) (h3 : was < s) :
  Calls Tryz.prog 144 #[S was, S s] w fun e w' => e = .returned (.bool true) ∧ w = w' := by
 have hl1 := less_false (fun h => List.lt_irrefl _ (List.lt_trans h h3) : ¬ s < was)
 have he : (s == was) = false := by
  rw [beq_eq_false_iff_ne]; rintro rfl; exact List.lt_irrefl _ h3
 have hne : s.isEmpty = false := by cases s <;> simp_all
 have hne2 : (s == []) = false := by cases s <;> simp_all
 have hne3 : (s != []) = true := by cases s <;> simp_all
 have i1 : (s.length : Int) ≤ 25 := by omega
 clear h3
 go_enter Tryz.func144, Tryz.ntmps144
 go_wp2_with fail
 go_ret
 exact ⟨by first | rfl | simp, rfl⟩
set_option maxRecDepth 100000
theorem drises_any (v : Value) (l : List (List UInt8)) (w : World) (hs : See w eS v l) (hk : txtOk l) :
  Calls Tryz.prog 99 #[v] w fun e w' => e = .returned (.bool true) ∧ w = w' := by
 obtain ⟨hr, h25, hn⟩ := hk
 have HS := hid (fun k hk => strAt hs k hk)
 have HB := hid h25
 have HM := hid (fun a s W h1 h2 h3 => dmay_any a s W h1 h2 h3)
 have HR : Hid (∀ k (h : k + 1 < l.length), l[k] < l[k + 1]) := fun k h => List.pairwise_iff_getElem.1 hr k (k + 1) (by omega) h (by omega)
 obtain ⟨a0, cap, hv, hcap1, hcap2, hnone⟩ := hs.shape
 subst hv
 clear hr h25
 go_enter Tryz.func99, Tryz.ntmps99
 go_wp2_with fail
 go_loopw [3, 8] (fun sv iv wr => ∃ (k : Nat) (was : List UInt8), k ≤ l.length ∧ iv = N k ∧ sv = S was ∧ Hid ((k = 0 ∧ was = []) ∨ ∃ j, ∃ h : j < l.length, k = j + 1 ∧ was = l[j]) ∧ w = wr) (fun _ iv _ => l.length - (intOf iv).toNat)
 case atStart => exact ⟨0, [], Nat.zero_le _, rfl, rfl, .inl ⟨rfl, rfl⟩, rfl⟩
 case round =>
  obtain ⟨k, was, hk, rfl, rfl, HW, rfl⟩ := hrel
  by_cases hlt : k < l.length
  · obtain ⟨b, off, cap', hv, c0⟩ := HS.out k hlt
    cases hv
    have hbk := HB.out _ (List.getElem_mem hlt)
    have hwl : was < l[k] := by
     rcases HW.out with ⟨h1, h2⟩ | ⟨j, hj, h1, h2⟩
     · subst h2
       cases hx : l[k] with
       | nil => rw [hx] at hbk; simp at hbk
       | cons c x => exact List.nil_lt_cons c x
     · subst h1 h2; exact HR.out j hlt
    have HW2 : Hid ((k + 1 = 0 ∧ l[k] = []) ∨ ∃ j, ∃ h : j < l.length, k + 1 = j + 1 ∧ l[k] = l[j]) := .inr ⟨k, hlt, rfl, rfl⟩
    have HM1 := hid (HM.out was l[k] w hbk.1 hbk.2 hwl)
    clear HM hbk hwl
    generalize l[k] = x at *
    have i1 : (0 : Int) ≤ k := by omega
    have i2 : (k : Int) < l.length := by omega
    go_wp2_with fail
    refine HM1.out.mono ?_
    rintro e w1 ⟨rfl, rfl⟩
    go_wp2_with fail
    exact ⟨⟨k + 1, x, by omega, by go_num, rfl, HW2, by first | rfl | trivial⟩, by simp [intOf]; omega⟩
  · obtain rfl : k = l.length := by omega
    have hnl : ¬ (l.length : Int) < l.length := by omega
    have hle : (l.length : Int) ≤ 1048576 := by omega
    go_wp2_with fail
    go_ret
    exact ⟨by first | rfl | simp, rfl⟩
set_option maxRecDepth 512
theorem byte_at (a : List UInt8) (k : Nat) (h1 : k < a.length) : ∃ x, a[k] = x ∧ (⟨a.toArray⟩ : ByteArray)[k]'(by simpa [ByteArray.size] using h1) = x := ⟨_, rfl, rfl⟩
theorem nat_ne (x y : UInt8) (h : ¬ x = y) : ((x.toNat : Int) == (y.toNat : Int)) = false :=
 beq_eq_false_iff_ne.2 fun hh => h (UInt8.toNat_inj.1 (by omega))
theorem dsame_any (a b : List UInt8) (hal : a.length ≤ 1000000000) (w : World) :
  Calls Tryz.prog 146 #[S a, S b] w fun e w' => e = .returned (N (sameN a b)) ∧ Fr w w' := by
 have HE := hid (sameN_eq a b)
 generalize sameN a b = Z at *
 go_enter Tryz.func146, Tryz.ntmps146
 go_wp2_with fail
 go_loopw [5] (fun iv wr => ∃ k : Nat, k ≤ a.length ∧ k ≤ b.length ∧ iv = N k ∧ Hid (∀ i, i < k → a[i]? = b[i]?) ∧ Fr w wr) (fun iv _ => a.length - (intOf iv).toNat)
 case atStart => exact ⟨0, Nat.zero_le _, Nat.zero_le _, rfl, hid (fun i h => by omega), Fr.refl w⟩
 case round =>
  obtain ⟨k, hka, hkb, rfl, HA, hf⟩ := hrel
  have i0 : (0 : Int) ≤ k := by omega
  by_cases h1 : k < a.length
  · have i1 : (k : Int) < a.length := by omega
    by_cases h2 : k < b.length
    · have i2 : (k : Int) < b.length := by omega
      by_cases h3 : a[k] = b[k]
      · have HA2 : Hid (∀ i, i < k + 1 → a[i]? = b[i]?) := fun i hi => by
          by_cases e : i = k
          · subst e; rw [List.getElem?_eq_getElem h1, List.getElem?_eq_getElem h2, h3]
          · exact HA.out i (by omega)
        obtain ⟨x, hx, hax⟩ := byte_at a k h1
        obtain ⟨y, hy, hby⟩ := byte_at b k h2
        obtain rfl : x = y := by rw [← hx, ← hy, h3]
        clear hx hy h3
        go_upto_region 2 with fail
        go_quiet (fail)
        go_wp2_with fail
        exact ⟨⟨k + 1, by omega, by omega, by go_num, HA2, hf.drewN _⟩, by simp [intOf]; omega⟩
      · have hZ : Hid (Z = k) := HE.out k hka hkb HA.out (fun _ _ => by rw [List.getElem?_eq_getElem h1, List.getElem?_eq_getElem h2]; simpa using h3)
        obtain ⟨x, hx, hax⟩ := byte_at a k h1
        obtain ⟨y, hy, hby⟩ := byte_at b k h2
        have hne := nat_ne x y (by rw [← hx, ← hy]; exact h3)
        clear hx hy h3
        go_upto_region 2 with fail
        go_quiet (fail)
        go_wp2_with fail
        go_ret
        exact ⟨by rw [hZ.out]; rfl, hf.drewN _⟩
    · have i2 : ¬ (k : Int) < b.length := by omega
      have hZ : Hid (Z = k) := HE.out k hka hkb HA.out (fun _ h => absurd h h2)
      go_upto_region 2 with fail
      go_quiet (fail)
      go_wp2_with fail
      go_ret
      exact ⟨by rw [hZ.out]; rfl, hf.drewN _⟩
  · have i1 : ¬ (k : Int) < a.length := by omega
    have hZ : Hid (Z = k) := HE.out k hka hkb HA.out (fun h _ => absurd h h1)
    go_upto_region 2 with fail
    go_quiet (fail)
    go_wp2_with fail
    go_ret
    exact ⟨by rw [hZ.out]; rfl, hf.drewN _⟩
theorem RAlike16_any (a b : List UInt8) (hal : a.length ≤ 1000000000) (w : World) :
  Calls Tryz.prog 127 #[S a, S b] w fun e w' => e = .returned (N (sameN a b)) ∧ Fr w w' := by
 have HE := hid (sameN_eq a b)
 generalize sameN a b = Z at *
 go_enter Tryz.func127, Tryz.ntmps127
 go_wp2_with fail
 go_loopw [5] (fun iv wr => ∃ k : Nat, k ≤ a.length ∧ k ≤ b.length ∧ iv = N k ∧ Hid (∀ i, i < k → a[i]? = b[i]?) ∧ Fr w wr) (fun iv _ => a.length - (intOf iv).toNat)
 case atStart => exact ⟨0, Nat.zero_le _, Nat.zero_le _, rfl, hid (fun i h => by omega), Fr.refl w⟩
 case round =>
  obtain ⟨k, hka, hkb, rfl, HA, hf⟩ := hrel
  have i0 : (0 : Int) ≤ k := by omega
  by_cases h1 : k < a.length
  · have i1 : (k : Int) < a.length := by omega
    by_cases h2 : k < b.length
    · have i2 : (k : Int) < b.length := by omega
      have i3 : ¬ (b.length : Int) ≤ k := by omega
      by_cases h3 : a[k] = b[k]
      · have HA2 : Hid (∀ i, i < k + 1 → a[i]? = b[i]?) := fun i hi => by
          by_cases e : i = k
          · subst e; rw [List.getElem?_eq_getElem h1, List.getElem?_eq_getElem h2, h3]
          · exact HA.out i (by omega)
        obtain ⟨x, hx, hax⟩ := byte_at a k h1
        obtain ⟨y, hy, hby⟩ := byte_at b k h2
        obtain rfl : x = y := by rw [← hx, ← hy, h3]
        clear hx hy h3
        go_upto_region 4 with fail
        go_quiet (fail)
        go_wp2_with fail
        exact ⟨⟨k + 1, by omega, by omega, by go_num, HA2, hf.drewN _⟩, by simp [intOf]; omega⟩
      · have hZ : Hid (Z = k) := HE.out k hka hkb HA.out (fun _ _ => by rw [List.getElem?_eq_getElem h1, List.getElem?_eq_getElem h2]; simpa using h3)
        obtain ⟨x, hx, hax⟩ := byte_at a k h1
        obtain ⟨y, hy, hby⟩ := byte_at b k h2
        have hne := nat_ne x y (by rw [← hx, ← hy]; exact h3)
        have hne2 := bne_of hne
        clear hx hy h3
        go_upto_region 4 with fail
        go_quiet (fail)
        go_wp2_with fail
        go_ret
        exact ⟨by rw [hZ.out]; rfl, hf.drewN _⟩
    · have i2 : (b.length : Int) ≤ k := by omega
      have hZ : Hid (Z = k) := HE.out k hka hkb HA.out (fun _ h => absurd h h2)
      go_upto_region 4 with fail
      go_quiet (fail)
      go_wp2_with fail
      go_ret
      exact ⟨by rw [hZ.out]; rfl, hf.drewN _⟩
  · have i1 : ¬ (k : Int) < a.length := by omega
    obtain rfl : k = a.length := by omega
    have hZ : Hid (Z = a.length) := HE.out _ hka hkb HA.out (fun h _ => absurd h h1)
    go_wp2_with fail
    go_ret
    exact ⟨by rw [hZ.out]; rfl, hf⟩
theorem str_from (s : List UInt8) (n : Nat) : (⟨s.toArray⟩ : ByteArray).extract n s.length = ⟨(s.drop n).toArray⟩ := extract_from s n s.length (Nat.le_refl _)
set_option maxRecDepth 100000
theorem bucket_any (v : Value) (l : List (List UInt8)) (w : World) (hs : See w eS v l) (h0 : l ≠ []) (hb : ∀ s ∈ l, s.length ≤ 25) (hn : l.length ≤ 64) :
  Calls Tryz.prog 101 #[v] w fun e w' => ∃ u, e = .returned u ∧ Ow w' w.heap.size eB u (bktB l) ∧ Fr w w' := by
 have hpos : 0 < l.length := List.length_pos_iff.2 h0
 have HS := hid (fun W (h : Fr w W) k hk => strAt (hs.fr h) k hk)
 have HB := hid hb
 have HTx := hid (fun s (h : s.length ≤ 1000000000) W => Text_any s h W)
 have HNm := hid (fun n (h : n < 18446744073709551616) W => Num_any n h W)
 have HSm := hid (fun a b h W => dsame_any a b h W)
 have HSnoc := hid (fun k h1 h2 => bktB_snoc l k h1 h2)
 have HLen : Hid (∀ k, (bktB (l.take k)).length ≤ 64 * 45) := fun k => by
  have h1 := bktB_len 25 (by omega) (l.take k) (fun s hs => hb s (List.mem_of_mem_take hs))
  have h2 : (l.take k).length ≤ 64 := by rw [List.length_take]; omega
  have h3 : (l.take k).length * (25 + 20) ≤ 64 * 45 := Nat.mul_le_mul h2 (Nat.le_refl _)
  omega
 have HOne : Hid (bktB (l.take 1) = textB l[0]) := by
  show _ = _
  cases l with
  | nil => exact absurd rfl h0
  | cons x l => simp [bktB, bktGo]
 have HAl : Hid (bktB (l.take l.length) = bktB l) := by show _ = _; rw [List.take_length]
 obtain ⟨b0, off0, cap0, hv0, c00⟩ := HS.out w (Fr.refl w) 0 hpos
 rw [Nat.add_zero] at c00
 obtain ⟨a0, cap, hv, hcap1, hcap2, hnone⟩ := hs.shape
 obtain ⟨fa, fc, hfrom0, hsfrom⟩ := run_from eS 64 Tryz.underlying64 (by rw [hv] at hs; exact hs) 1 (by omega)
 have hfrom : ∀ W, (Instr.slice 64 (.slice a0 l.length cap) (some (.int .i64 1)) none none).run Tryz.prog W = .ok (.slice fa (l.length - 1) fc) W := hfrom0
 have HF := hid (fun W (h : Fr w W) k hk => strAt (hsfrom.fr h) k hk)
 have h0l : l[0].length ≤ 25 := hb _ (List.getElem_mem hpos)
 have HT0 := hid (HTx.out l[0] (by omega) w)
 generalize l[0] = x0 at *
 rw [hv] at hv0
 cases hv0
 subst hv
 clear hfrom0 hsfrom hb hs hnone h0
 go_enter Tryz.func101, Tryz.ntmps101
 go_wp2_with fail
 refine HT0.out.mono ?_
 rintro e w1 ⟨v1, rfl, hO1, hf1⟩
 rw [← HOne.out] at hO1
 go_wp2_with fail
 go_loopw [3, 14] (fun ov iv wr => ∃ k : Nat, k + 1 ≤ l.length ∧ iv = N k ∧ Ow wr w.heap.size eB ov (bktB (l.take (k + 1))) ∧ Fr w wr) (fun _ iv _ => l.length - (intOf iv).toNat)
 case atStart => exact ⟨0, by omega, rfl, hO1, hf1⟩
 case round =>
  clear hO1 hf1
  obtain ⟨k, hk, rfl, hO, hf⟩ := hrel
  have hol := HLen.out (k + 1)
  by_cases hlt : k + 1 < l.length
  · obtain ⟨b, off, cap', hv, c0⟩ := HS.out wr hf k (by omega)
    cases hv
    have hdl : (l.drop 1).length = l.length - 1 := by simp
    obtain ⟨b', off', cap'', hv, d0⟩ := HF.out wr hf k (by omega)
    rw [hdl] at hv
    cases hv
    have e1 : (l.drop 1)[k]'(by omega) = l[k + 1] := by rw [List.getElem_drop]; congr 1; omega
    rw [e1] at d0
    have HN := hid (HSnoc.out (k + 1) (by omega) hlt)
    have hx25 := HB.out _ (List.getElem_mem (show k < l.length by omega))
    have hy25 := HB.out _ (List.getElem_mem hlt)
    have hol2 := HLen.out (k + 2)
    have e2 : k + 1 - 1 = k := by omega
    simp only [e2] at HN
    generalize bktB (l.take (k + 1)) = m at *
    generalize hm2 : bktB (l.take (k + 1 + 1)) = m2 at *
    have HM2 := hid hm2
    clear hm2
    generalize l[k] = x at *
    generalize l[k + 1] = y at *
    have hsl := (sameN_le x y).2
    have HSa := hid (HSm.out x y (by omega) wr)
    generalize sameN x y = n at *
    have hdy : (y.drop n).length ≤ 25 := by simp; omega
    have hex := str_from y n
    have htl := textB_len (y.drop n) (by omega)
    have hnl := numB_le n (by omega)
    have HNn := hid (HNm.out n (by omega))
    have HTy := hid (HTx.out (y.drop n) (by omega))
    have HAll := hid (fun W v0 v1 v2 s0 s1 s2 => all3 W v0 v1 v2 m (numB n) (textB (y.drop n)) s0 s1 s2 (by omega))
    rw [← HN.out] at HAll
    generalize y.drop n = z at *
    have i1 : (0 : Int) ≤ k := by omega
    have i2 : (k : Int) < ((l.length - 1 : Nat) : Int) := by omega
    have i3 : (k : Int) < l.length := by omega
    have i4 : (0 : Int) ≤ n := by omega
    have i5 : (n : Int) ≤ y.length := by omega
    obtain ⟨oa, oc, hov⟩ := hO.shape'
    subst hov
    go_wp2_with fail
    refine HSa.out.mono ?_
    rintro e w2 ⟨rfl, hf2⟩
    have hO2 := hO.fr hf2
    have hw1 : IntKind.u64.wrap (n : Int) = (n : Int) := IntWalk.u64_in _ (by omega)
    go_upto_region 6 with fail
    go_region_with
     ((first
      | (go_at_call 58; refine (HNn.out _).mono ?_; rintro e w3 ⟨v3, rfl, hO3, hf3⟩; obtain ⟨q3, z3, hq3⟩ := hO3.shape'; subst hq3)
      | (go_at_call 95; refine (HTy.out _).mono ?_; rintro e w4 ⟨v4, rfl, hO4, hf4⟩; obtain ⟨q4, z4, hq4⟩ := hO4.shape'; subst hq4)
      | (go_at_call 35; refine (HAll.out _ _ _ _ (hO2.see.fr ((Fr.refl w2).drew.trans (hf3.trans hf4))) (hO3.see.fr hf4) hO4.see).mono ?_; rintro e w5 ⟨v5, rfl, hO5, hf5⟩)))
    all_goals
     have hf4' : Fr w w4 := hf.trans (hf2.trans ((Fr.refl w2).drew.trans (hf3.trans hf4)))
     obtain ⟨q5, z5, hq5⟩ := hO5.shape'
     subst hq5
     go_wp2_with fail
     exact ⟨⟨k + 1, by omega, by go_num, by rw [HM2.out]; exact hO5.rebase hf4'.size, hf4'.trans hf5⟩, by simp [intOf]; omega⟩
  · obtain rfl : k = l.length - 1 := by omega
    have hnl : ¬ ((l.length - 1 : Nat) : Int) < ((l.length - 1 : Nat) : Int) := by omega
    have e1 : l.length - 1 + 1 = l.length := by omega
    rw [e1, HAl.out] at hO
    clear e1
    go_wp2_with fail
    go_ret
    exact ⟨_, rfl, hO, hf⟩
set_option maxRecDepth 512
end Go.Proofs.YtmfbmjplmaimbaaGreatDoor
