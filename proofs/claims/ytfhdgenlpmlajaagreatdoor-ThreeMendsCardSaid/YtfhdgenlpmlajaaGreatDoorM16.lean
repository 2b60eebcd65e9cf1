/- Parts of the proof of ThreeMends: M1 M2 M3. -/
import Derived.Test.YtfhdgenlpmlajaaGreatDoorM15
import Derived.Test.YtfhdgenlpmlajaaGreatDoorM11
import Derived.Test.YtfhdgenlpmlajaaGreatDoorM10
set_option linter.unusedVariables false
set_option linter.unusedSectionVars false
set_option linter.unusedSimpArgs false
set_option maxHeartbeats 8000000
namespace Go.Proofs.YtfhdgenlpmlajaaGreatDoor
open Go.RowKit Go.Fk
def inv1 (a : Nat) : Nat := if a = 0 then 0 else invN a
def cauC (k i j : Nat) : UInt8 := UInt8.ofNat (inv1 ((k + i) ^^^ j))
def cauRow (k i n : Nat) : List UInt8 := (List.range n).map (cauC k i)
def cauPre (k i j : Nat) : List UInt8 := ((List.range i).map fun i => cauRow k i k).flatten ++ cauRow k i j
theorem cauPre_step (k i j : Nat) : cauPre k i (j + 1) = cauPre k i j ++ [cauC k i j] := by
 unfold cauPre cauRow; rw [List.range_succ, List.map_append, List.append_assoc]; rfl
theorem cauPre_next (k i : Nat) : cauPre k (i + 1) 0 = cauPre k i k := by
 unfold cauPre
 rw [List.range_succ, List.map_append, List.flatten_append]
 simp [cauRow]
theorem cauPre_zero (k : Nat) : cauPre k 0 0 = [] := by simp [cauPre, cauRow]
theorem cauPre_len (k i j : Nat) : (cauPre k i j).length = i * k + j := by
 unfold cauPre cauRow
 rw [List.length_append, List.length_map, List.length_range, List.length_flatten, List.map_map]
 have : ∀ n, ((List.range n).map (List.length ∘ fun i => (List.range k).map (cauC k i))).sum = n * k := by
  intro n
  induction n with
  | zero => simp
  | succ n ih => rw [List.range_succ, List.map_append, List.sum_append, ih]; simp [Nat.succ_mul]
 rw [this]
def cauV (k m : Nat) (v : Value) : Value := .agg #[N m, N k, v]
theorem inv_tuple (a : Nat) : ∃ e : Int, invV a = .tuple #[B8 (inv1 a), .int .i64 e] := by
 unfold invV inv1
 split
 · exact ⟨13, rfl⟩
 · exact ⟨0, rfl⟩
theorem inv1_lt (a : Nat) (h : a < 256) : inv1 a < 256 := by
 unfold inv1
 split
 · omega
 · exact (inv_facts a (by assumption) h).1
set_option maxRecDepth 100000
theorem RCauchy_any (k m : Nat) (hk : 1 ≤ k) (hkm : k + m ≤ 255) (w : World) :
    Calls Tryz.prog 109 #[N k, N m] w fun e w' => ∃ v, e = .returned (.tuple #[cauV k m v, .int .i64 0]) ∧ Ow w' w.heap.size eB v (cauPre k m 0) ∧ Fr w w' := by
  go_enter Tryz.func109, Tryz.ntmps109
  go_wp2_with fail
  have hb0 : ((w.alloc (.cells #[.int .i64 0, .int .i64 0, .slice none 0 0] 105)).alloc (.cells #[N m, N k, .slice none 0 0] 105)).heap[w.heap.size]? = some (.cells #[.int .i64 0, .int .i64 0, .slice none 0 0] 105 (0, 0)) := by
    rw [heap_old _ _ _ (by simp), heap_new _ _ _ rfl]
  have hb1 : ((w.alloc (.cells #[.int .i64 0, .int .i64 0, .slice none 0 0] 105)).alloc (.cells #[N m, N k, .slice none 0 0] 105)).heap[w.heap.size + 1]? = some (.cells #[N m, N k, .slice none 0 0] 105 (0, 0)) := heap_new _ _ _ (by simp)
  have hf0 : Fr w ((w.alloc (.cells #[.int .i64 0, .int .i64 0, .slice none 0 0] 105)).alloc (.cells #[N m, N k, .slice none 0 0] 105)) := ((Fr.refl w).alloc _).alloc _
  have hs0 : w.heap.size + 2 ≤ ((w.alloc (.cells #[.int .i64 0, .int .i64 0, .slice none 0 0] 105)).alloc (.cells #[N m, N k, .slice none 0 0] 105)).heap.size := by simp
  generalize (w.alloc (.cells #[.int .i64 0, .int .i64 0, .slice none 0 0] 105)).alloc (.cells #[N m, N k, .slice none 0 0] 105) = w0 at *
  generalize hg : w.heap.size = g at *
  have hfB : Below g w w0 := by rw [← hg]; exact hf0
  clear hf0
  go_loopw [7] (fun iv wr => ∃ (i : Nat) (sv : Value), i ≤ m ∧ iv = N i ∧ wr.heap[g]? = some (.cells #[.int .i64 0, .int .i64 0, .slice none 0 0] 105 (0, 0)) ∧ wr.heap[g + 1]? = some (.cells #[N m, N k, sv] 105 (0, 0)) ∧ Ow wr (g + 2) eB sv (cauPre k i 0) ∧ Below g w wr ∧ g + 2 ≤ wr.heap.size) (fun iv _ => m - (intOf iv).toNat)
  case atStart => exact ⟨0, .slice none 0 0, Nat.zero_le _, rfl, hb0, hb1, by rw [cauPre_zero]; exact Ow.nil, hfB, hs0⟩
  case round =>
    clear hb0 hb1 hfB hs0
    obtain ⟨i, sv, hi, rfl, h0, h1, hown, hf, hs⟩ := hrel
    by_cases hlt : i < m
    · have hlt' : (i : Int) < m := by omega
      go_wp2_with fail
      go_loopw [8] (fun jv wr => ∃ (j : Nat) (sv : Value), j ≤ k ∧ jv = N j ∧ wr.heap[g]? = some (.cells #[.int .i64 0, .int .i64 0, .slice none 0 0] 105 (0, 0)) ∧ wr.heap[g + 1]? = some (.cells #[N m, N k, sv] 105 (0, 0)) ∧ Ow wr (g + 2) eB sv (cauPre k i j) ∧ Below g w wr ∧ g + 2 ≤ wr.heap.size) (fun jv _ => k - (intOf jv).toNat)
      case atStart => exact ⟨0, sv, Nat.zero_le _, rfl, h0, h1, hown, hf, hs⟩
      case round =>
        clear h0 h1 hown hf hs
        obtain ⟨j, sv, hj, rfl, h0, h1, hown, hf, hs⟩ := hrel
        by_cases hjl : j < k
        · have hjl' : (j : Int) < k := by omega
          have hxl : (k + i) ^^^ j < 2 ^ 8 := Nat.xor_lt_two_pow (by omega) (by omega)
          have hx := xor_u8 (k + i) j (by omega) (by omega)
          have hw1 : ((k : Int) + i) % 256 = ((k + i : Nat) : Int) := by omega
          have hw2 : (j : Int) % 256 = j := by omega
          have hx2 : bits .xor .u8 ((k : Int) + i) (j : Int) = (((k + i) ^^^ j : Nat) : Int) := by
            rw [show (k : Int) + i = ((k + i : Nat) : Int) by omega]; exact hx
          have HS : Hid (cauPre k i (j + 1) = cauPre k i j ++ [cauC k i j]) := cauPre_step k i j
          have hlen := cauPre_len k i j
          have hik : i * k ≤ 255 * 255 := Nat.mul_le_mul (by omega) (by omega)
          have hc1 : (cauPre k i j).length + 1 ≤ 2147483648 := by omega
          have HB : Hid ((#[B8 (inv1 ((k + i) ^^^ j))] : Array Value).toList = eB.cells [cauC k i j]) := byte_cell _ (inv1_lt _ hxl)
          have HI := hid (RInv_any ((k + i) ^^^ j) hxl)
          obtain ⟨er, hiv⟩ := inv_tuple ((k + i) ^^^ j)
          rw [hiv] at HI
          clear hx hw1 hlen hik hiv
          generalize (k + i) ^^^ j = x at *
          generalize inv1 x = y at *
          generalize cauC k i j = c at *
          have e2 : wr.cell? ⟨g + 1, 2, none⟩ = some sv := by rw [cell_of_heap h1]; rfl
          go_wp2_with fail
          refine (HI.out _).mono ?_
          rintro e w1 ⟨rfl, rfl⟩
          go_wp2_with (at_builtin; refine wpList_app1 eB rfl (.tmp 57) (.tmp 59) 22 rfl Tryz.underlying22 (g + 2) rfl hown [c] _ _ _ HB.out rfl rfl hc1 hs ?_)
          intro v' w4 hap
          have own4 := hap.own
          obtain ⟨va, vc, hv'⟩ := own4.shape'
          rw [← HS.out] at hv'
          subst hv'
          have hne : ∀ q, q < g + 2 → ¬ sv.ownBlock = some q := fun q hq e => by have := (hown.lt q e).1; omega
          have k0 := hap.chg'.heap h0 (hne g (by omega))
          have k1 := hap.chg'.heap h1 (hne (g + 1) (by omega))
          have hf4 : Below g w w4 := hap.below hown hf (by omega) (by omega)
          have hs4 := hap.size
          have e3 : w4.cell? ⟨g + 1, 2, none⟩ = some sv := by rw [cell_of_heap k1]; rfl
          have e4 : w4.frozen? ⟨g + 1, 2, none⟩ = false := frozen_of_heap k1 2
          go_wp2_with fail
          go_roundw
          case rel =>
            refine ⟨j + 1, .slice va (cauPre k i (j + 1)).length vc, by omega, by go_num, ?_, ?_, ?_, ?_, ?_⟩
            · rw [Below.heap_setCell _ _ _ _ (by simp)]; exact k0
            · exact heap_setCell_own k1 2 _
            · rw [← HS.out] at own4; exact own_set_other own4 (by omega)
            · exact set_below hf4 (by omega) (by omega)
            · simp [World.setCell]; omega
          case measure => simp [intOf]; omega
        · obtain rfl : j = k := by omega
          have hnl : ¬ ((j : Int) < j) := by omega
          rw [← cauPre_next] at hown
          go_wp2_with fail
          go_roundw
          case rel => exact ⟨i + 1, sv, by omega, by go_num, h0, h1, hown, hf, hs⟩
          case measure => simp [intOf]; omega
    · obtain rfl : i = m := by omega
      have hnl : ¬ ((i : Int) < i) := by omega
      have hinf : (Tryz.prog.info? 105).map (·.size) = some 3 := by kernel_rfl
      have hone : (#[N i, N k, sv] : Array Value).all (·.oneCell') = true := by
        obtain ⟨va, vc, hv⟩ := hown.shape'
        subst hv
        rw [List.all_toArray]
        rfl
      have q0 := cell_setRow_same wr g 0 _ #[N i, N k, sv] _ _ h0
      have q1 := cell_setRow_same wr g 1 _ #[N i, N k, sv] _ _ h0
      have q2 := cell_setRow_same wr g 2 _ #[N i, N k, sv] _ _ h0
      have hset : Ow (wr.setRow g #[N i, N k, sv]) (g + 2) eB sv (cauPre k i 0) := hown.chg (setRow_chg wr g _) fun q hq => by have := (hown.lt q hq).1; show ¬ q = g; omega
      have hfin : Below g w (wr.setRow g #[N i, N k, sv]) := Chg.below hf (setRow_chg wr g _) (by omega) (fun q hq => Nat.le_of_eq hq.symm)
      go_wp2_with (first | (refine wpList_load_row rfl 105 (.tmp 6) rfl (g + 1) rfl 105 #[N i, N k, sv] (0, 0) _ h1 Tryz.underlying105 rfl hinf ?_) | (refine wpList_store_row rfl 105 (.tmp 4) (.tmp 62) rfl g #[N i, N k, sv] rfl rfl 105 _ h0 hinf rfl hone ?_))
      exact bodyPost_ret (v := .tuple #[cauV k i sv, .int .i64 0]) (by simp [results, Tryz.results109, go_sem, *]; rfl) rfl ⟨_, rfl, hset.rebase (by omega), by rw [← hg] at hfin ⊢; exact hfin⟩
set_option maxRecDepth 512
set_option maxRecDepth 100000
theorem within_any (n : Nat) (h : n ≤ 255) (w : World) : Calls Tryz.prog 98 #[N n] w fun e w' => e = .returned (.bool true) ∧ w = w' := by
 have h1 : (0 : Int) ≤ n := by omega
 have h2 : (n : Int) ≤ 255 := by omega
 go_enter Tryz.func98, Tryz.ntmps98
 go_wp2_with fail
 go_ret
 exact ⟨rfl, rfl⟩
theorem cell_any (k i j B : Nat) (hk : k + i ≤ 255) (hj : j ≤ 255) (w : World) (hB : w.cell? ⟨B, 0, none⟩ = some (N k)) :
    Calls Tryz.prog 100 #[N i, N j, .pointer (some ⟨B, 0, none⟩)] w fun e w' => e = .returned (Fk.u8 (cauC k i j)) ∧ w = w' := by
  have hxl : (k + i) ^^^ j < 2 ^ 8 := Nat.xor_lt_two_pow (by omega) (by omega)
  have hx : bits .xor .i64 ((k : Int) + i) (j : Int) = (((k + i) ^^^ j : Nat) : Int) := by
    rw [show (k : Int) + i = ((k + i : Nat) : Int) by omega]; exact xor_i64 (k + i) j (by omega) (by omega)
  have HI := hid (Inv_any ((k + i) ^^^ j) hxl)
  obtain ⟨er, hiv⟩ := inv_tuple ((k + i) ^^^ j)
  rw [hiv] at HI
  have HE : Hid (B8 (inv1 ((k + i) ^^^ j)) = Fk.u8 (cauC k i j)) := byte_val _ (inv1_lt _ hxl)
  clear hiv
  generalize (k + i) ^^^ j = x at *
  generalize inv1 x = y at *
  have hw8 : (x : Int) % 256 = x := by omega
  go_enter Tryz.func100, Tryz.ntmps100
  go_wp2_with fail
  refine (HI.out _).mono ?_
  rintro e w1 ⟨rfl, rfl⟩
  go_wp2_with fail
  go_ret
  exact ⟨congrArg Ending.returned HE.out, rfl⟩
theorem made_any (k m B : Nat) (hk : 1 ≤ k) (hkm : k + m ≤ 255) (w : World) (hB : w.cell? ⟨B, 0, none⟩ = some (N k)) :
  Calls Tryz.prog 99 #[N m, N k, .func (.func 100) #[] #[.pointer (some ⟨B, 0, none⟩)]] w fun e w' => ∃ v, e = .returned (cauV k m v) ∧ Ow w' w.heap.size eB v (cauPre k m 0) ∧ Fr w w' := by
 have hmul : IntKind.i64.wrap ((m : Int) * k) = ((m * k : Nat) : Int) := by
  have : m * k ≤ 255 * 255 := Nat.mul_le_mul (by omega) (by omega)
  rw [show (m : Int) * k = ((m * k : Nat) : Int) by simp]
  exact wrap_i64 _ (by omega)
 go_enter Tryz.func99, Tryz.ntmps99
 have hmk2 : m * k ≤ 1000000000 := by
  have : m * k ≤ 255 * 255 := Nat.mul_le_mul (by omega) (by omega)
  omega
 have hmc : (m : Int) * k = ((m * k : Nat) : Int) := by simp
 have HMC := hid hmc
 clear hmc hmul
 go_upto_region 3 with (at_make; refine wpList_make0 eB rfl (.const (.int .i64 0)) (.tmp 14) 22 rfl Tryz.underlying22 .i64 .i64 _ (m * k) rfl rfl HMC.out hmk2 (w.heap.size + 1) (by simp) ?_)
 intro w1 hown hgr
 have hf1 : Fr w w1 := Chg.below ((Fr.refl w).alloc _) (grown_chg hgr) (by simp) (fun q hq => by cases hq)
 have h0 : w1.heap[w.heap.size]? = some (.cells #[.int .i64 0, .int .i64 0, .slice none 0 0] 105 (0, 0)) := (grown_chg hgr).heap (heap_new _ _ _ rfl) (by intro q; cases q)
 have hlt1 := hown.lt (w.heap.size + 1) (by simp [Value.ownBlock])
 have hsz1 : w.heap.size + 2 ≤ w1.heap.size := by omega
 have hb0 : (w1.alloc (.cells #[N m, N k, .slice (some ⟨w.heap.size + 1, 0, none⟩) 0 (m * k)] 105)).heap[w.heap.size]? = some (.cells #[.int .i64 0, .int .i64 0, .slice none 0 0] 105 (0, 0)) := by rw [heap_old _ _ _ (by omega)]; exact h0
 have hb1 : (w1.alloc (.cells #[N m, N k, .slice (some ⟨w.heap.size + 1, 0, none⟩) 0 (m * k)] 105)).heap[w1.heap.size]? = some (.cells #[N m, N k, .slice (some ⟨w.heap.size + 1, 0, none⟩) 0 (m * k)] 105 (0, 0)) := heap_new _ _ _ rfl
 have hrr : w1.heap.size < (w1.alloc (.cells #[N m, N k, .slice (some ⟨w.heap.size + 1, 0, none⟩) 0 (m * k)] 105)).heap.size := by simp
 have hf2 : Fr w (w1.alloc (.cells #[N m, N k, .slice (some ⟨w.heap.size + 1, 0, none⟩) 0 (m * k)] 105)) := hf1.alloc _
 have hown2 := hown.fr ((Fr.refl w1).alloc (.cells #[N m, N k, .slice (some ⟨w.heap.size + 1, 0, none⟩) 0 (m * k)] 105))
 have hne0 : (Value.slice (some ⟨w.heap.size + 1, 0, none⟩) 0 (m * k)).ownBlock ≠ some w1.heap.size := by simp [Value.ownBlock]; omega
 go_upto_region 3 with fail
 generalize w1.alloc (.cells #[N m, N k, .slice (some ⟨w.heap.size + 1, 0, none⟩) 0 (m * k)] 105) = w0 at *
 generalize hsv : Value.slice (some ⟨w.heap.size + 1, 0, none⟩) 0 (m * k) = sv0 at *
 generalize w1.heap.size = r at *
 have hgr2 : w.heap.size < r := by omega
 clear hsz1 hlt1 h0 hf1 hgr hown hsv hmk2 HMC
 have hBw := hB
 generalize hg : w.heap.size = g at *
 have hfB : Below g w w0 := by rw [← hg]; exact hf2
 clear hf2
 go_loopw [18] (fun iv wr => ∃ (i : Nat) (sv : Value), i ≤ m ∧ iv = N i ∧ wr.heap[g]? = some (.cells #[.int .i64 0, .int .i64 0, .slice none 0 0] 105 (0, 0)) ∧ wr.heap[r]? = some (.cells #[N m, N k, sv] 105 (0, 0)) ∧ Ow wr (g + 1) eB sv (cauPre k i 0) ∧ sv.ownBlock ≠ some r ∧ Below g w wr ∧ r < wr.heap.size) (fun iv _ => m - (intOf iv).toNat)
 case atStart => exact ⟨0, sv0, Nat.zero_le _, rfl, hb0, hb1, by rw [cauPre_zero]; exact hown2, hne0, hfB, hrr⟩
 case round =>
  clear hb0 hb1 hown2 hne0 hfB hrr
  obtain ⟨i, sv, hi, rfl, h0, h1, hown, hne, hf, hs⟩ := hrel
  by_cases hlt : i < m
  · have hlt' : (i : Int) < m := by omega
    go_wp2_with fail
    go_loopw [22] (fun jv wr => ∃ (j : Nat) (sv : Value), j ≤ k ∧ jv = N j ∧ wr.heap[g]? = some (.cells #[.int .i64 0, .int .i64 0, .slice none 0 0] 105 (0, 0)) ∧ wr.heap[r]? = some (.cells #[N m, N k, sv] 105 (0, 0)) ∧ Ow wr (g + 1) eB sv (cauPre k i j) ∧ sv.ownBlock ≠ some r ∧ Below g w wr ∧ r < wr.heap.size) (fun jv _ => k - (intOf jv).toNat)
    case atStart => exact ⟨0, sv, Nat.zero_le _, rfl, h0, h1, hown, hne, hf, hs⟩
    case round =>
     clear h0 h1 hown hne hf hs
     obtain ⟨j, sv, hj, rfl, h0, h1, hown, hne, hf, hs⟩ := hrel
     by_cases hjl : j < k
     · have hjl' : (j : Int) < k := by omega
       have HS : Hid (cauPre k i (j + 1) = cauPre k i j ++ [cauC k i j]) := cauPre_step k i j
       have hlen := cauPre_len k i j
       have hik : i * k ≤ 255 * 255 := Nat.mul_le_mul (by omega) (by omega)
       have HC1 : Hid ((cauPre k i j).length + 1 ≤ 2147483648) := by show _ ≤ _; omega
       have HI : Hid (∀ W, Fr wr W → Calls Tryz.prog 100 #[N i, N j, .pointer (some ⟨B, 0, none⟩)] W fun e w' => e = .returned (Fk.u8 (cauC k i j)) ∧ W = w') := fun W hW => by
        refine cell_any k i j B (by omega) (by omega) W (hW.cell ?_)
        exact (Below.cell hf (by rw [← hg]; exact World.block_lt_of_cell? w _ hBw)).trans hBw
       clear hlen hik
       generalize cauC k i j = c at *
       have e2 : wr.cell? ⟨r, 2, none⟩ = some sv := by rw [cell_of_heap h1]; rfl
       have HSZ : Hid (g + 1 ≤ wr.drew.heap.size) := by show _ ≤ _; have : wr.drew.heap.size = wr.heap.size := rfl; omega
       have hownD := hown.drew
       have hneq : ∀ q, sv.ownBlock = some q → g + 1 ≤ q := fun q hq => (hown.lt q hq).1
       have hkj : (j : Int) + 1 ≤ 255 := by omega
       clear hBw hB hlt hjl hlt' hown hk
       go_upto_region 8 with fail
       go_region_law (first
        | (refine step_app1 eB rfl (.tmp 26) (.tmp 31) 22 rfl Tryz.underlying22 (g + 1) rfl hownD [c] _ _ _ rfl rfl rfl HC1.out HSZ.out ?_
           intro v' w4 hap
           have own4 := hap.own
           obtain ⟨va, vc, hv'⟩ := own4.shape'
           rw [← HS.out] at hv'
           subst hv'
           have k0 := hap.chg'.heap (show wr.drew.heap[g]? = _ from h0) (fun e => by have := hneq g e; omega)
           have k1 := hap.chg'.heap (show wr.drew.heap[r]? = _ from h1) hne
           have hf4 : Below g w w4 := hap.below hownD (Below.drew hf) (by omega) (by have := HSZ.out; omega)
           have hs4 := hap.size
           have hn4 := hap.fresh
           have e3 : w4.cell? ⟨r, 2, none⟩ = some sv := by rw [cell_of_heap k1]; rfl
           have e4 : w4.frozen? ⟨r, 2, none⟩ = false := frozen_of_heap k1 2)
        | (go_simp; go_at_call 100; refine (HI.out _ (Fr.drew (Fr.refl _))).mono ?_; rintro e w3 ⟨rfl, rfl⟩))
       all_goals clear HI e2 hownD
       all_goals go_wp2_with fail
       all_goals go_roundw
       all_goals first
        | (refine ⟨j + 1, .slice va (cauPre k i (j + 1)).length vc, by omega, by go_num, ?_, ?_, ?_, ?_, ?_, ?_⟩
           · rw [Below.heap_setCell _ _ _ _ (by simp; omega)]; exact k0
           · exact heap_setCell_own k1 2 _
           · rw [← HS.out] at own4
             exact own4.chg (setCell_chg w4 ⟨r, 2, none⟩ _) fun q hq e => by
              have e : q = r := e
              subst e
              rcases hn4 _ hq with h | h
              · exact hne h
              · have : wr.drew.heap.size = wr.heap.size := rfl
                omega
           · intro hq
             rcases hn4 _ hq with h | h
             · exact hne h
             · have : wr.drew.heap.size = wr.heap.size := rfl
               omega
           · exact set_below hf4 (by omega) (by have : wr.drew.heap.size = wr.heap.size := rfl; omega)
           · have : wr.drew.heap.size = wr.heap.size := rfl
             simp [World.setCell]; omega)
        | (simp [intOf]; omega)
     · obtain rfl : j = k := by omega
       have hnl : ¬ ((j : Int) < j) := by omega
       rw [← cauPre_next] at hown
       go_wp2_with fail
       go_roundw
       case rel => exact ⟨i + 1, sv, by omega, by go_num, h0, h1, hown, hne, hf, hs⟩
       case measure => simp [intOf]; omega
  · obtain rfl : i = m := by omega
    have hnl : ¬ ((i : Int) < i) := by omega
    have hinf : (Tryz.prog.info? 105).map (·.size) = some 3 := by kernel_rfl
    have hone : (#[N i, N k, sv] : Array Value).all (·.oneCell') = true := by
     obtain ⟨va, vc, hv⟩ := hown.shape'
     subst hv
     rw [List.all_toArray]
     rfl
    have hset : Ow (wr.setRow g #[N i, N k, sv]) (g + 1) eB sv (cauPre k i 0) := hown.chg (setRow_chg wr g _) fun q hq => by have := (hown.lt q hq).1; show ¬ q = g; omega
    have hfin : Below g w (wr.setRow g #[N i, N k, sv]) := Chg.below hf (setRow_chg wr g _) (by omega) (fun q hq => Nat.le_of_eq hq.symm)
    go_wp2_with (first | (refine wpList_load_row rfl 105 (.tmp 7) rfl r rfl 105 #[N i, N k, sv] (0, 0) _ h1 Tryz.underlying105 rfl hinf ?_) | (refine wpList_store_row rfl 105 (.tmp 6) (.tmp 36) rfl g #[N i, N k, sv] rfl rfl 105 _ h0 hinf rfl hone ?_))
    exact bodyPost_ret (v := cauV k i sv) (results_cell_row Tryz.results99 _ _ g 105 #[N i, N k, sv] (0, 0) _ rfl (setRow_heap _ g _ #[N i, N k, sv] _ _ h0) Tryz.underlying105 rfl hinf) rfl ⟨_, rfl, hset.rebase (by omega), by rw [← hg] at hfin ⊢; exact hfin⟩
set_option maxRecDepth 512
set_option maxRecDepth 100000
theorem Cauchy_any (k m : Nat) (hk : 1 ≤ k) (hkm : k + m ≤ 255) (w : World) :
  Calls Tryz.prog 67 #[N k, N m] w fun e w' => ∃ v, e = .returned (.tuple #[cauV k m v, .int .i64 0]) ∧ Ow w' w.heap.size eB v (cauPre k m 0) ∧ Fr w w' := by
 have hmf : ∀ (fn : Fn) (first cap : Array Value) (w : World), (Instr.makeFunc fn first cap).run Tryz.prog w = .ok (.func fn first cap) w := fun _ _ _ _ => rfl
 have W1 := hid (within_any k (by omega))
 have W2 := hid (within_any m (by omega))
 have HM : Hid (∀ W, W.cell? ⟨w.heap.size, 0, none⟩ = some (N k) → Calls Tryz.prog 99 #[N m, N k, .func (.func 100) #[] #[.pointer (some ⟨w.heap.size, 0, none⟩)]] W fun e w' => ∃ v, e = .returned (cauV k m v) ∧ Ow w' W.heap.size eB v (cauPre k m 0) ∧ Fr W w') := fun W h => made_any k m w.heap.size hk hkm W h
 have h255 : ¬ (255 : Int) < (k : Int) + m := by omega
 have hkb : (k : Int) + m ≤ 255 := by omega
 go_enter Tryz.func67, Tryz.ntmps67
 go_wp2_with fail
 refine (W1.out _).mono ?_
 rintro e w1 ⟨rfl, rfl⟩
 go_wp2_with fail
 refine (W2.out _).mono ?_
 rintro e w2 ⟨rfl, rfl⟩
 have hc0 : ((w.alloc (.cells #[N k] 3)).alloc (.cells #[.int .i64 0, .int .i64 0, .slice none 0 0] 105)).cell? ⟨w.heap.size, 0, none⟩ = some (N k) := by
  rw [cell_of_heap (by rw [heap_old _ _ _ (by simp)]; exact heap_new _ _ _ rfl)]; rfl
 have hb0 : ((w.alloc (.cells #[N k] 3)).alloc (.cells #[.int .i64 0, .int .i64 0, .slice none 0 0] 105)).heap[w.heap.size + 1]? = some (.cells #[.int .i64 0, .int .i64 0, .slice none 0 0] 105 (0, 0)) := heap_new _ _ _ (by simp)
 have hf0 : Fr w ((w.alloc (.cells #[N k] 3)).alloc (.cells #[.int .i64 0, .int .i64 0, .slice none 0 0] 105)) := ((Fr.refl w).alloc _).alloc _
 have hs0 : ((w.alloc (.cells #[N k] 3)).alloc (.cells #[.int .i64 0, .int .i64 0, .slice none 0 0] 105)).heap.size = w.heap.size + 2 := by simp
 generalize (w.alloc (.cells #[N k] 3)).alloc (.cells #[.int .i64 0, .int .i64 0, .slice none 0 0] 105) = w0 at *
 go_wp2_with fail
 refine (HM.out _ hc0).mono ?_
 rintro e w3 ⟨v3, rfl, hown, hf3⟩
 have h3 := hf3.heap hb0
 have hf03 := hf0.trans hf3
 have hs3 := hf3.size
 obtain ⟨va, vc, hv⟩ := hown.shape'
 subst hv
 generalize hg : w.heap.size + 1 = g at *
 have hinf : (Tryz.prog.info? 105).map (·.size) = some 3 := by kernel_rfl
 have hone : (#[N m, N k, .slice va (cauPre k m 0).length vc] : Array Value).all (·.oneCell') = true := by
  rw [List.all_toArray]; rfl
 have q0 := cell_setRow_same w3 g 0 _ #[N m, N k, .slice va (cauPre k m 0).length vc] _ _ h3
 have q1 := cell_setRow_same w3 g 1 _ #[N m, N k, .slice va (cauPre k m 0).length vc] _ _ h3
 have q2 := cell_setRow_same w3 g 2 _ #[N m, N k, .slice va (cauPre k m 0).length vc] _ _ h3
 have hset : Ow (w3.setRow g #[N m, N k, .slice va (cauPre k m 0).length vc]) w0.heap.size eB (.slice va (cauPre k m 0).length vc) (cauPre k m 0) := hown.chg (setRow_chg w3 g _) fun q hq => by have := (hown.lt q hq).1; show ¬ q = g; omega
 have hfin : Fr w (w3.setRow g #[N m, N k, .slice va (cauPre k m 0).length vc]) := Chg.below hf03 (setRow_chg w3 g _) hf03.size (fun q hq => by rw [hq]; omega)
 unfold cauV
 go_wp2_with (refine wpList_store_row rfl 105 (.tmp 4) (.tmp 24) rfl g #[N m, N k, .slice va (cauPre k m 0).length vc] rfl rfl 105 _ h3 hinf rfl hone ?_)
 exact bodyPost_ret (v := .tuple #[.agg #[N m, N k, .slice va (cauPre k m 0).length vc], .int .i64 0]) (by simp [results, Tryz.results67, go_sem, *]) rfl ⟨_, rfl, hset.rebase (by omega), hfin⟩
set_option maxRecDepth 512
end Go.Proofs.YtfhdgenlpmlajaaGreatDoor
