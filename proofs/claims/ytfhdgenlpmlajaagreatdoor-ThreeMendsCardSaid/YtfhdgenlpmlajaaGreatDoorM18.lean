/- Parts of the proof of ThreeMends: M4. -/
import Derived.Test.YtfhdgenlpmlajaaGreatDoorM16
import Derived.Test.YtfhdgenlpmlajaaGreatDoorM07
set_option linter.unusedVariables false
set_option linter.unusedSectionVars false
set_option linter.unusedSimpArgs false
set_option maxHeartbeats 8000000
namespace Go.Proofs.YtfhdgenlpmlajaaGreatDoor
open Go.RowKit Go.Fk
def idPre (n i j : Nat) : List UInt8 := preL n oneU (i * n + j)
theorem idPre_step (n i j : Nat) (hj : j < n) : idPre n i (j + 1) = idPre n i j ++ [oneU i j] := preL_step n oneU i j hj
theorem idPre_next (n i : Nat) : idPre n (i + 1) 0 = idPre n i n := preL_next n oneU i
theorem idPre_zero (n : Nat) : idPre n 0 0 = [] := by simp [idPre, preL]
theorem idPre_len (n i j : Nat) : (idPre n i j).length = i * n + j := preL_len _ _ _
theorem idPre_all (n : Nat) : idPre n n 0 = idL n := rfl
def idV (n : Nat) (v : Value) : Value := .agg #[N n, N n, v]
set_option maxRecDepth 100000
theorem one_any (i j : Nat) (w : World) : Calls Tryz.prog 192 #[N i, N j] w fun e w' => e = .returned (Fk.u8 (oneU i j)) ∧ w = w' := by
 by_cases h : i = j
 · subst h
   have HE : Hid (Fk.u8 (oneU i i) = .int .u8 1) := by show _ = _; unfold oneU; rw [if_pos rfl]; rfl
   rw [HE.out]
   go_enter Tryz.func192, Tryz.ntmps192
   go_wp2_with fail
   go_ret
   exact ⟨rfl, rfl⟩
 · have HE : Hid (Fk.u8 (oneU i j) = .int .u8 0) := by show _ = _; unfold oneU; rw [if_neg h]; rfl
   rw [HE.out]
   have h' : ¬ (i : Int) = j := by omega
   go_enter Tryz.func192, Tryz.ntmps192
   go_wp2_with fail
   go_ret
   exact ⟨rfl, rfl⟩
theorem made1_any (n : Nat) (hk : 1 ≤ n) (hkm : n ≤ 255) (w : World) :
  Calls Tryz.prog 99 #[N n, N n, .func (.func 192) #[] #[]] w fun e w' => ∃ v, e = .returned (idV n v) ∧ Ow w' w.heap.size eB v (idPre n n 0) ∧ Fr w w' := by
 have hmul : IntKind.i64.wrap ((n : Int) * n) = ((n * n : Nat) : Int) := by
  have : n * n ≤ 255 * 255 := Nat.mul_le_mul (by omega) (by omega)
  rw [show (n : Int) * n = ((n * n : Nat) : Int) by simp]
  exact wrap_i64 _ (by omega)
 go_enter Tryz.func99, Tryz.ntmps99
 have hmk2 : n * n ≤ 1000000000 := by
  have : n * n ≤ 255 * 255 := Nat.mul_le_mul (by omega) (by omega)
  omega
 have hmc : (n : Int) * n = ((n * n : Nat) : Int) := by simp
 have HMC := hid hmc
 clear hmc hmul
 go_upto_region 3 with (at_make; refine wpList_make0 eB rfl (.const (.int .i64 0)) (.tmp 14) 22 rfl Tryz.underlying22 .i64 .i64 _ (n * n) rfl rfl HMC.out hmk2 (w.heap.size + 1) (by simp) ?_)
 intro w1 hown hgr
 have hf1 : Fr w w1 := Chg.below ((Fr.refl w).alloc _) (grown_chg hgr) (by simp) (fun q hq => by cases hq)
 have h0 : w1.heap[w.heap.size]? = some (.cells #[.int .i64 0, .int .i64 0, .slice none 0 0] 105 (0, 0)) := (grown_chg hgr).heap (heap_new _ _ _ rfl) (by intro q; cases q)
 have hlt1 := hown.lt (w.heap.size + 1) (by simp [Value.ownBlock])
 have hsz1 : w.heap.size + 2 ≤ w1.heap.size := by omega
 have hb0 : (w1.alloc (.cells #[N n, N n, .slice (some ⟨w.heap.size + 1, 0, none⟩) 0 (n * n)] 105)).heap[w.heap.size]? = some (.cells #[.int .i64 0, .int .i64 0, .slice none 0 0] 105 (0, 0)) := by rw [heap_old _ _ _ (by omega)]; exact h0
 have hb1 : (w1.alloc (.cells #[N n, N n, .slice (some ⟨w.heap.size + 1, 0, none⟩) 0 (n * n)] 105)).heap[w1.heap.size]? = some (.cells #[N n, N n, .slice (some ⟨w.heap.size + 1, 0, none⟩) 0 (n * n)] 105 (0, 0)) := heap_new _ _ _ rfl
 have hrr : w1.heap.size < (w1.alloc (.cells #[N n, N n, .slice (some ⟨w.heap.size + 1, 0, none⟩) 0 (n * n)] 105)).heap.size := by simp
 have hf2 : Fr w (w1.alloc (.cells #[N n, N n, .slice (some ⟨w.heap.size + 1, 0, none⟩) 0 (n * n)] 105)) := hf1.alloc _
 have hown2 := hown.fr ((Fr.refl w1).alloc (.cells #[N n, N n, .slice (some ⟨w.heap.size + 1, 0, none⟩) 0 (n * n)] 105))
 have hne0 : (Value.slice (some ⟨w.heap.size + 1, 0, none⟩) 0 (n * n)).ownBlock ≠ some w1.heap.size := by simp [Value.ownBlock]; omega
 go_upto_region 3 with fail
 generalize w1.alloc (.cells #[N n, N n, .slice (some ⟨w.heap.size + 1, 0, none⟩) 0 (n * n)] 105) = w0 at *
 generalize hsv : Value.slice (some ⟨w.heap.size + 1, 0, none⟩) 0 (n * n) = sv0 at *
 generalize w1.heap.size = r at *
 have hgr2 : w.heap.size < r := by omega
 clear hsz1 hlt1 h0 hf1 hgr hown hsv hmk2 HMC
 generalize hg : w.heap.size = g at *
 have hfB : Below g w w0 := by rw [← hg]; exact hf2
 clear hf2
 go_loopw [18] (fun iv wr => ∃ (i : Nat) (sv : Value), i ≤ n ∧ iv = N i ∧ wr.heap[g]? = some (.cells #[.int .i64 0, .int .i64 0, .slice none 0 0] 105 (0, 0)) ∧ wr.heap[r]? = some (.cells #[N n, N n, sv] 105 (0, 0)) ∧ Ow wr (g + 1) eB sv (idPre n i 0) ∧ sv.ownBlock ≠ some r ∧ Below g w wr ∧ r < wr.heap.size) (fun iv _ => n - (intOf iv).toNat)
 case atStart => exact ⟨0, sv0, Nat.zero_le _, rfl, hb0, hb1, by rw [idPre_zero]; exact hown2, hne0, hfB, hrr⟩
 case round =>
  clear hb0 hb1 hown2 hne0 hfB hrr
  obtain ⟨i, sv, hi, rfl, h0, h1, hown, hne, hf, hs⟩ := hrel
  by_cases hlt : i < n
  · have hlt' : (i : Int) < n := by omega
    go_wp2_with fail
    go_loopw [22] (fun jv wr => ∃ (j : Nat) (sv : Value), j ≤ n ∧ jv = N j ∧ wr.heap[g]? = some (.cells #[.int .i64 0, .int .i64 0, .slice none 0 0] 105 (0, 0)) ∧ wr.heap[r]? = some (.cells #[N n, N n, sv] 105 (0, 0)) ∧ Ow wr (g + 1) eB sv (idPre n i j) ∧ sv.ownBlock ≠ some r ∧ Below g w wr ∧ r < wr.heap.size) (fun jv _ => n - (intOf jv).toNat)
    case atStart => exact ⟨0, sv, Nat.zero_le _, rfl, h0, h1, hown, hne, hf, hs⟩
    case round =>
     clear h0 h1 hown hne hf hs
     obtain ⟨j, sv, hj, rfl, h0, h1, hown, hne, hf, hs⟩ := hrel
     by_cases hjl : j < n
     · have hjl' : (j : Int) < n := by omega
       have HS : Hid (idPre n i (j + 1) = idPre n i j ++ [oneU i j]) := idPre_step n i j hjl
       have hlen := idPre_len n i j
       have hik : i * n ≤ 255 * 255 := Nat.mul_le_mul (by omega) (by omega)
       have HC1 : Hid ((idPre n i j).length + 1 ≤ 2147483648) := by show _ ≤ _; omega
       have HI : Hid (∀ W, Calls Tryz.prog 192 #[N i, N j] W fun e w' => e = .returned (Fk.u8 (oneU i j)) ∧ W = w') := one_any i j
       clear hlen hik
       generalize oneU i j = c at *
       have e2 : wr.cell? ⟨r, 2, none⟩ = some sv := by rw [cell_of_heap h1]; rfl
       have HSZ : Hid (g + 1 ≤ wr.drew.heap.size) := by show _ ≤ _; have : wr.drew.heap.size = wr.heap.size := rfl; omega
       have hownD := hown.drew
       have hneq : ∀ q, sv.ownBlock = some q → g + 1 ≤ q := fun q hq => (hown.lt q hq).1
       have hkj : (j : Int) + 1 ≤ 255 := by omega
       clear hlt hjl hlt' hown hk
       go_upto_region 8 with fail
       go_region_law (first
        | (refine step_app1 eB rfl (.tmp 26) (.tmp 31) 22 rfl Tryz.underlying22 (g + 1) rfl hownD [c] _ _ _ rfl rfl rfl HC1.out HSZ.out ?_
           intro v' w4 hap
           have own4 := hap.own
           obtain ⟨va, vc, hv'⟩ := own4.shape'
           rw [← HS.out] at hv'
           subst hv'
           have k0 := hap.chg'.heap (show wr.drew.heap[g]? = _ from h0) (fun e => by have := hneq g e; omega)
           have k1 := hap.chg'.heap (show wr.drew.heap[r]? = _ from h1) hne
           have hf4 : Below g w w4 := hap.below hownD (Below.drew hf) (by omega) (by have := HSZ.out; omega)
           have hs4 := hap.size
           have hn4 := hap.fresh
           have e3 : w4.cell? ⟨r, 2, none⟩ = some sv := by rw [cell_of_heap k1]; rfl
           have e4 : w4.frozen? ⟨r, 2, none⟩ = false := frozen_of_heap k1 2)
        | (go_simp; go_at_call 192; refine (HI.out _).mono ?_; rintro e w3 ⟨rfl, rfl⟩))
       all_goals clear HI e2 hownD
       all_goals go_wp2_with fail
       all_goals go_roundw
       all_goals first
        | (refine ⟨j + 1, .slice va (idPre n i (j + 1)).length vc, by omega, by go_num, ?_, ?_, ?_, ?_, ?_, ?_⟩
           · rw [Below.heap_setCell _ _ _ _ (by simp; omega)]; exact k0
           · exact heap_setCell_own k1 2 _
           · rw [← HS.out] at own4
             exact own4.chg (setCell_chg w4 ⟨r, 2, none⟩ _) fun q hq e => by
              have e : q = r := e
              subst e
              rcases hn4 _ hq with h | h
              · exact hne h
              · have : wr.drew.heap.size = wr.heap.size := rfl
                omega
           · intro hq
             rcases hn4 _ hq with h | h
             · exact hne h
             · have : wr.drew.heap.size = wr.heap.size := rfl
               omega
           · exact set_below hf4 (by omega) (by have : wr.drew.heap.size = wr.heap.size := rfl; omega)
           · have : wr.drew.heap.size = wr.heap.size := rfl
             simp [World.setCell]; omega)
        | (simp [intOf]; omega)
     · obtain rfl : j = n := by omega
       have hnl : ¬ ((j : Int) < j) := by omega
       rw [← idPre_next] at hown
       go_wp2_with fail
       go_roundw
       case rel => exact ⟨i + 1, sv, by omega, by go_num, h0, h1, hown, hne, hf, hs⟩
       case measure => simp [intOf]; omega
  · obtain rfl : i = n := by omega
    have hnl : ¬ ((i : Int) < i) := by omega
    have hinf : (Tryz.prog.info? 105).map (·.size) = some 3 := by kernel_rfl
    have hone : (#[N i, N i, sv] : Array Value).all (·.oneCell') = true := by
     obtain ⟨va, vc, hv⟩ := hown.shape'
     subst hv
     rw [List.all_toArray]
     rfl
    have hset : Ow (wr.setRow g #[N i, N i, sv]) (g + 1) eB sv (idPre i i 0) := hown.chg (setRow_chg wr g _) fun q hq => by have := (hown.lt q hq).1; show ¬ q = g; omega
    have hfin : Below g w (wr.setRow g #[N i, N i, sv]) := Chg.below hf (setRow_chg wr g _) (by omega) (fun q hq => Nat.le_of_eq hq.symm)
    go_wp2_with (first | (refine wpList_load_row rfl 105 (.tmp 7) rfl r rfl 105 #[N i, N i, sv] (0, 0) _ h1 Tryz.underlying105 rfl hinf ?_) | (refine wpList_store_row rfl 105 (.tmp 6) (.tmp 36) rfl g #[N i, N i, sv] rfl rfl 105 _ h0 hinf rfl hone ?_))
    exact bodyPost_ret (v := idV i sv) (results_cell_row Tryz.results99 _ _ g 105 #[N i, N i, sv] (0, 0) _ rfl (setRow_heap _ g _ #[N i, N i, sv] _ _ h0) Tryz.underlying105 rfl hinf) rfl ⟨_, rfl, hset.rebase (by omega), by rw [← hg] at hfin ⊢; exact hfin⟩
theorem Identity_any (n : Nat) (hk : 1 ≤ n) (hn : n ≤ 255) (w : World) :
  Calls Tryz.prog 167 #[N n] w fun e w' => ∃ v, e = .returned (.tuple #[idV n v, .int .i64 0]) ∧ Ow w' w.heap.size eB v (idL n) ∧ Fr w w' := by
 have W1 := hid (within_any n (by omega))
 have HM := hid (fun W => made1_any n hk hn W)
 go_enter Tryz.func167, Tryz.ntmps167
 go_wp2_with fail
 refine (W1.out _).mono ?_
 rintro e w1 ⟨rfl, rfl⟩
 have hb0 : (w.alloc (.cells #[.int .i64 0, .int .i64 0, .slice none 0 0] 105)).heap[w.heap.size]? = some (.cells #[.int .i64 0, .int .i64 0, .slice none 0 0] 105 (0, 0)) := heap_new _ _ _ rfl
 have hf0 : Fr w (w.alloc (.cells #[.int .i64 0, .int .i64 0, .slice none 0 0] 105)) := (Fr.refl w).alloc _
 have hs0 : (w.alloc (.cells #[.int .i64 0, .int .i64 0, .slice none 0 0] 105)).heap.size = w.heap.size + 1 := by simp
 generalize w.alloc (.cells #[.int .i64 0, .int .i64 0, .slice none 0 0] 105) = w0 at *
 go_wp2_with fail
 refine (HM.out _).mono ?_
 rintro e w3 ⟨v3, rfl, hown, hf3⟩
 rw [idPre_all] at hown
 have h3 := hf3.heap hb0
 have hf03 := hf0.trans hf3
 have hs3 := hf3.size
 obtain ⟨va, vc, hv⟩ := hown.shape'
 subst hv
 generalize hg : w.heap.size = g at *
 have hinf : (Tryz.prog.info? 105).map (·.size) = some 3 := by kernel_rfl
 have hone : (#[N n, N n, .slice va (idL n).length vc] : Array Value).all (·.oneCell') = true := by
  rw [List.all_toArray]; rfl
 have q0 := cell_setRow_same w3 g 0 _ #[N n, N n, .slice va (idL n).length vc] _ _ h3
 have q1 := cell_setRow_same w3 g 1 _ #[N n, N n, .slice va (idL n).length vc] _ _ h3
 have q2 := cell_setRow_same w3 g 2 _ #[N n, N n, .slice va (idL n).length vc] _ _ h3
 have hset : Ow (w3.setRow g #[N n, N n, .slice va (idL n).length vc]) w0.heap.size eB (.slice va (idL n).length vc) (idL n) := hown.chg (setRow_chg w3 g _) fun q hq => by have := (hown.lt q hq).1; show ¬ q = g; omega
 have hfin : Fr w (w3.setRow g #[N n, N n, .slice va (idL n).length vc]) := Chg.below hf03 (setRow_chg w3 g _) hf03.size (fun q hq => by rw [hq]; omega)
 unfold idV
 go_wp2_with (refine wpList_store_row rfl 105 (.tmp 2) (.tmp 10) rfl g #[N n, N n, .slice va (idL n).length vc] rfl rfl 105 _ h3 hinf rfl hone ?_)
 exact bodyPost_ret (v := .tuple #[.agg #[N n, N n, .slice va (idL n).length vc], .int .i64 0]) (by simp [results, Tryz.results167, go_sem, *]) rfl ⟨_, rfl, hset.rebase (by omega), hfin⟩
set_option maxRecDepth 512
end Go.Proofs.YtfhdgenlpmlajaaGreatDoor
