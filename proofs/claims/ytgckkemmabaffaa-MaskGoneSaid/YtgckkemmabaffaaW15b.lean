/- Walks of words: a text is split. -/
import Derived.Test.YtgckkemmabaffaaW15
set_option linter.unusedVariables false
namespace Go.Proofs.Ytgckkemmabaffaa
open Go.RowKit Go.Fk

theorem enters {f : FuncId} {fn : Func} {c : Code} (hf : Try.prog.funcs[f]? = some fn) (hname : (fn.name == "runtime.NumGoroutine") = false) (hb : fn.body = some c) (args : Array Value) (w : World) : (callFunc f args).run Try.prog w = .ok (.enter f args) w := by
  have h1 : fn.name ≠ "runtime.NumGoroutine" := by simpa using hname
  simp [callFunc, hf, h1, hb, mark]
/-- what a closure that takes words one by one is worth: I says what it has taken, in the blocks F -/
structure Sink (k : Nat) (caps : Array Value) (I : List (List UInt8) → (Nat → Prop) → World → Prop) : Prop where
  loc : ∀ {ws F G w w'}, I ws F w → Chg G w w' → (∀ b, F b → ¬ G b) → I ws F w'
  bd : ∀ {ws F w}, I ws F w → ∀ b, F b → b < w.heap.size
  call : ∀ {ws F w} (x : List UInt8), I ws F w → x.length ≤ 24 → ws.length ≤ 2147483646 → Calls Try.prog k (#[S x] ++ caps) w fun e w' => e = .returned (.tuple #[]) ∧
    ∃ F', I (ws ++ [x]) F' w' ∧ Chg F w w' ∧ (∀ b, F' b → F b ∨ w.heap.size ≤ b)

/-- where split stands: its two variables from B on, the row so far, what was handed on -/
def SI (I : List (List UInt8) → (Nat → Prop) → World → Prop) (B : Nat) (fv : Value) (row : List UInt8) (ws : List (List UInt8)) (F : Nat → Prop) (w : World) : Prop :=
  w.heap[B]? = some (.cells #[fv] 49 (0, 0)) ∧
  (∃ rv, w.heap[B + 1]? = some (.cells #[rv] 46 (0, 0)) ∧ Own w (B + 2) eB rv row ∧ (∀ b, rv.ownBlock = some b → ¬ F b)) ∧
  I ws F w ∧ ¬ F B ∧ ¬ F (B + 1)
/-- the words of a row -/
def rowWords (row : List UInt8) : List (List UInt8) := if row = [] then [] else [row.take 24]

set_option maxHeartbeats 1000000 in
theorem tell_any {k : Nat} {caps : Array Value} {I : List (List UInt8) → (Nat → Prop) → World → Prop} (hk : Sink k caps I) (hent : ∀ args w, (callFunc k args).run Try.prog w = .ok (.enter k args) w) (B : Nat) (row : List UInt8) (ws : List (List UInt8)) (F : Nat → Prop) (w : World)
    (h : SI I B (.func (.func k) #[] caps) row ws F w) (hlen : ws.length ≤ 2147483646) (hr : row.length ≤ 2147483648) :
    Calls Try.prog 28 #[.pointer (some ⟨B + 1, 0, none⟩), .pointer (some ⟨B, 0, none⟩)] w fun e w' => e = .returned (.tuple #[]) ∧
      ∃ F', SI I B (.func (.func k) #[] caps) [] (ws ++ rowWords row) F' w' ∧ Chg (fun b => F b ∨ b = B + 1) w w' ∧ (∀ b, F' b → F b ∨ w.heap.size ≤ b) := by
  obtain ⟨h1, ⟨rv, h2, h3, h4⟩, h5, h6, h7⟩ := h
  have c0 : w.cell? ⟨B, 0, none⟩ = some (.func (.func k) #[] caps) := by rw [cell_of_heap h1]; rfl
  have c1 : w.cell? ⟨B + 1, 0, none⟩ = some rv := by rw [cell_of_heap h2]; rfl
  have f1 : w.frozen? ⟨B + 1, 0, none⟩ = false := frozen_of_heap h2 0
  have H1 := hid h1
  have H2 := hid h2
  clear h1 h2
  by_cases hrow : row = []
  · subst hrow
    obtain ⟨a, cap, rfl⟩ := h3.shape'
    have h0 : ((0 : Int) < ([] : List UInt8).length) = False := by simp
    go_enter Try.func28, Try.ntmps28
    go_wp2_with fail
    go_end0
    have hst := setCell_chg w ⟨B + 1, 0, none⟩ (.slice a 0 cap)
    have hsz : B + 1 < w.heap.size := (Array.getElem?_eq_some_iff.1 H2.out).1
    have hne := h3.ne_cells H2.out (by decide)
    refine ⟨rfl, F, ⟨hst.heap H1.out (by simp), ⟨_, by rw [heap_setCell_own H2.out]; rfl, ?_, h4⟩, ?_, h6, h7⟩, ?_, fun b hb => .inl hb⟩
    · exact h3.chg hst (by intro b hb e; simp at e; subst e; exact hne hb)
    · rw [show ws ++ rowWords [] = ws by simp [rowWords]]
      exact hk.loc h5 hst (by intro b hb e; simp at e; subst e; exact h7 hb)
    · exact hst.mono (fun b _ h => .inr h)
  · obtain ⟨g, cap, rfl, hg1, hg2, hg3, hg4⟩ := h3.atHead hrow
    unfold maxLen at hg4
    have hp : 0 < row.length := by cases row <;> simp_all
    have hlen24 : ∃ m : Nat, (row.take 24).length = m ∧ (if (24 : Int) < row.length then (24 : Int) else row.length) = m ∧ m ≤ cap ∧ m ≤ row.length := by
      refine ⟨min 24 row.length, by simp, ?_, by omega, by omega⟩
      split <;> omega
    obtain ⟨m, hm0, hm, hmc, hmr⟩ := hlen24
    have hm1 : (m : Int) ≤ cap := by omega
    have htk : row.take m = row.take 24 := by rw [← hm0, List.length_take, ← List.take_eq_take_min]
    have hsee : See w eB (.slice (some ⟨g, 0, none⟩) m cap) (row.take 24) := by rw [← htk]; exact h3.see.take hmr
    have hcv := run_conv_see eB w.drew 46 9 Try.underlying46 Try.underlying5 Try.underlying9 rfl rfl hsee.drew
    have HX : Hid ((row.take 24).length ≤ 24) := by show _ ≤ _; simp; omega
    clear htk hm0 hsee
    generalize hx : row.take 24 = x at hcv HX
    have HXE := hid hx
    clear hx
    go_enter Try.func28, Try.ntmps28
    go_upto_region 1 with fail
    go_still_tail 7, (by kernel_rfl)
    change wpList _ _ _ _ _ w.drew
    go_wp2_with fail
    refine (hk.call x (hk.loc h5 (drew_chg (fun _ => False) w 1) (fun _ _ h => h)) HX.out hlen).mono ?_
    rintro e w1 ⟨rfl, F', hI, hc, hF⟩
    have hcw : Chg F w w1 := (drew_chg F w 1).trans hc (fun _ _ h => h)
    have hs1 : w.heap.size ≤ w1.heap.size := hc.size
    have HH1 : Hid (w1.heap[B + 1]? = some (.cells #[.slice (some ⟨g, 0, none⟩) row.length cap] 46 (0, 0))) := hcw.heap H2.out h7
    have d1 : w1.cell? ⟨B + 1, 0, none⟩ = some (.slice (some ⟨g, 0, none⟩) row.length cap) := by rw [cell_of_heap HH1.out]; rfl
    have e1 : w1.frozen? ⟨B + 1, 0, none⟩ = false := frozen_of_heap HH1.out 0
    have hI1 := hid hI
    clear hI
    go_wp2_with fail
    go_end0
    have hsz : B + 1 < w.heap.size := (Array.getElem?_eq_some_iff.1 H2.out).1
    have hF1 : ∀ b, b < w.heap.size → ¬ F b → ¬ F' b := by
      intro b hb hn h
      rcases hF b h with h | h
      · exact hn h
      · have : (w.drewN 1).heap.size = w.heap.size := rfl
        omega
    have hst := setCell_chg w1 ⟨B + 1, 0, none⟩ (.slice (some ⟨g, 0, none⟩) 0 cap)
    refine ⟨rfl, F', ⟨?_, ⟨_, by rw [heap_setCell_own HH1.out]; rfl, ?_, ?_⟩, ?_, hF1 _ (by omega) h6, hF1 _ (by omega) h7⟩, ?_, fun b hb => (hF b hb)⟩
    · exact hst.heap (hcw.heap H1.out h6) (by simp)
    · have h8 := (h3.chg hcw (by intro b hb; exact h4 b hb)).take (j := 0) (Nat.zero_le _)
      exact (h8.chg hst (by intro b hb e; simp only [Value.ownBlock, Option.some.injEq] at hb; simp at e; omega)) 
    · intro b hb
      simp only [Value.ownBlock, Option.some.injEq] at hb
      subst hb
      exact hF1 _ hg2 (h4 _ rfl)
    · unfold rowWords
      rw [if_neg hrow, HXE.out]
      exact hk.loc hI1.out hst (by intro b hb e; simp at e; subst e; exact hF1 _ (by omega) h7 hb)
    · exact (hcw.mono (fun b _ h => .inl h)).trans hst (fun b _ h => .inr h)

theorem rowWords_map (raw : List UInt8) : rowWords (raw.map sm) = if raw = [] then [] else [(raw.map sm).take 24] := by
  unfold rowWords
  cases raw <;> simp
theorem wordsGo_end (raw : List UInt8) : wordsGo raw [] = rowWords (raw.map sm) := by rw [rowWords_map, wordsGo]
theorem wordsGo_letter (raw s : List UInt8) (i : Nat) (h : i < s.length) (hc : isL s[i] = true) : wordsGo raw (s.drop i) = wordsGo (raw ++ [s[i]]) (s.drop (i + 1)) := by
  rw [List.drop_eq_getElem_cons h, wordsGo, if_pos hc]
theorem wordsGo_other (raw s : List UInt8) (i : Nat) (h : i < s.length) (hc : isL s[i] = false) : wordsGo raw (s.drop i) = rowWords (raw.map sm) ++ wordsGo [] (s.drop (i + 1)) := by
  rw [List.drop_eq_getElem_cons h, wordsGo, hc, rowWords_map]; rfl
theorem rowWords_length (row : List UInt8) : (rowWords row).length ≤ 1 := by unfold rowWords; split <;> simp

set_option maxHeartbeats 1000000 in
theorem split_any {k : Nat} {caps : Array Value} {I : List (List UInt8) → (Nat → Prop) → World → Prop} (hk : Sink k caps I) (hent : ∀ args w, (callFunc k args).run Try.prog w = .ok (.enter k args) w) (s : List UInt8) (ws : List (List UInt8)) (F : Nat → Prop) (w : World)
    (h : I ws F w) (hlen : ws.length + s.length ≤ 2147483646) :
    Calls Try.prog 19 #[S s, .func (.func k) #[] caps] w fun e w' => e = .returned (.tuple #[]) ∧
      ∃ F', I (ws ++ wordsOf s) F' w' ∧ Chg F w w' ∧ (∀ b, F' b → F b ∨ w.heap.size ≤ b) := by
  have hmf : ∀ (fn : Fn) (first cap : Array Value) (w : World), (Instr.makeFunc fn first cap).run Try.prog w = .ok (.func fn first cap) w := fun _ _ _ _ => rfl
  have hbd := hk.bd h
  go_enter Try.func19, Try.ntmps19
  go_wp2_with fail
  go_loopw [12] (fun iv wr => ∃ (i : Nat) (raw : List UInt8) (ws' : List (List UInt8)) (F' : Nat → Prop), i ≤ s.length ∧ iv = N i ∧ SI I w.heap.size (.func (.func k) #[] caps) (raw.map sm) ws' F' wr ∧
      Hid (ws ++ wordsOf s = ws' ++ wordsGo raw (s.drop i)) ∧ Chg F w wr ∧ (∀ b, F' b → F b ∨ w.heap.size ≤ b) ∧ ws'.length ≤ ws.length + i ∧ raw.length ≤ i)
    (fun iv _ => s.length - (intOf iv).toNat)
  case atStart =>
    refine ⟨0, [], ws, F, Nat.zero_le _, rfl, ⟨?_, ⟨.slice none 0 0, ?_, Own.nil, by intro b hb; cases hb⟩, ?_, ?_, ?_⟩, hid rfl, ?_, fun b hb => .inl hb, by omega, by simp⟩
    · rw [heap_old _ _ _ (by simp), heap_new _ _ _ rfl]
    · rw [heap_new _ _ _ (by simp)]
    · exact hk.loc h ((((Fr.refl w).alloc _).alloc _).chg (fun _ => False)) (fun _ _ h => h)
    · intro hb; have := hbd _ hb; omega
    · intro hb; have := hbd _ hb; omega
    · exact (((Fr.refl w).alloc _).alloc _).chg F
  case round =>
    obtain ⟨i, raw, ws', F', hi, rfl, hSI, hws, hch, hF, hwl, hrl⟩ := hrel
    have HS := hid hSI
    clear hSI
    by_cases hlt : i < s.length
    · cases hc : isL s[i] with
      | true =>
        have HW := hid (wordsGo_letter raw s i hlt hc)
        obtain ⟨h1, ⟨rv, h2, h3, h4⟩, h5, h6, h7⟩ := HS.out
        have c1 : wr.cell? ⟨w.heap.size + 1, 0, none⟩ = some rv := by rw [cell_of_heap h2]; rfl
        have H1 := hid h1
        have H2 := hid h2
        clear h1 h2
        go_wp2_with fail
        refine (wletter_yes s[i] _ hc).mono ?_
        rintro e w' ⟨rfl, rfl⟩
        go_wp2_with (at_builtin; refine wpList_app1 eB rfl (.tmp 23) (.tmp 25) 46 rfl Try.underlying46 (w.heap.size + 2) rfl h3 [sm s[i]] _ _ _ rfl rfl rfl ?c1 ?c2 ?_)
        case c1 => simp; omega
        case c2 => have := (Array.getElem?_eq_some_iff.1 H2.out).1; omega
        intro v' w1 ha
        have hne := h3.ne_cells H2.out (by decide)
        have HH : Hid (w1.heap[w.heap.size + 1]? = some (.cells #[rv] 46 (0, 0))) := ha.chg'.heap H2.out hne
        have d1 : w1.cell? ⟨w.heap.size + 1, 0, none⟩ = some rv := by rw [cell_of_heap HH.out]; rfl
        have e1 : w1.frozen? ⟨w.heap.size + 1, 0, none⟩ = false := frozen_of_heap HH.out 0
        obtain ⟨a, n', cap, rfl⟩ := ha.own.shape
        go_wp2_with fail
        go_roundw
        case rel =>
          have hst := setCell_chg w1 ⟨w.heap.size + 1, 0, none⟩ (.slice a n' cap)
          have hne2 := ha.own.ne_cells HH.out (by decide)
          have hap : ∀ b, rv.ownBlock = some b → ¬ F' b := h4
          have hbd' := hk.bd h5
          have hapn : ∀ b, (Value.slice a n' cap).ownBlock = some b → ¬ F' b := by
            intro b hb hb2
            rcases ha.fresh b hb with h | h
            · exact h4 b h hb2
            · have := hbd' b hb2; omega
          refine ⟨i + 1, raw ++ [s[i]], ws', F', by omega, by go_num, ⟨?_, ⟨_, by rw [heap_setCell_own HH.out]; rfl, ?_, ?_⟩, ?_, h6, h7⟩, hid (by rw [hws.out, HW.out]), ?_, hF, by omega, by simp; omega⟩
          · exact hst.heap (ha.chg'.heap H1.out (h3.ne_cells H1.out (by decide))) (by simp)
          · rw [List.map_append]
            exact ha.own.chg hst (by intro b hb e; simp at e; subst e; exact hne2 hb)
          · exact hapn
          · refine hk.loc (hk.loc h5 ha.chg' (fun b hb e => h4 b e hb)) hst (by intro b hb e; simp at e; subst e; exact h7 hb)
          · refine (hch.trans ha.chg' ?_).trans hst ?_
            · intro b hb e; have := (h3.lt b e).1; omega
            · intro b hb e; simp at e; omega
        case measure => simp [intOf]; omega
      | false =>
        have HW := hid (wordsGo_other raw s i hlt hc)
        go_wp2_with fail
        refine (wletter_no s[i] _ hc).mono ?_
        rintro e w' ⟨rfl, rfl⟩
        go_wp2_with fail
        refine (tell_any hk hent w.heap.size (raw.map sm) ws' F' _ HS.out (by omega) (by simp; omega)).mono ?_
        rintro e w1 ⟨rfl, F2, hS2, hc2, hF2⟩
        have HS2 := hid hS2
        have HF2 := hid hF2
        clear hS2 hF2
        go_wp2_with fail
        go_roundw
        case rel =>
          have hsz := hch.size
          refine ⟨i + 1, [], _, F2, by omega, by go_num, HS2.out, hid (by rw [hws.out, HW.out]; simp), hch.trans hc2 ?_, ?_, by have := rowWords_length (raw.map sm); simp; omega, by simp⟩
          · intro b hb e
            rcases e with e | e
            · rcases hF b e with h | h
              · exact h
              · omega
            · omega
          · intro b hb
            rcases HF2.out b hb with h | h
            · exact hF b h
            · right; omega
        case measure => simp [intOf]; omega
    · obtain rfl : i = s.length := by omega
      have HE : Hid (ws ++ wordsOf s = ws' ++ rowWords (raw.map sm)) := by show _ = _; rw [hws.out, List.drop_length, wordsGo_end]
      go_wp2_with fail
      refine (tell_any hk hent w.heap.size (raw.map sm) ws' F' _ HS.out (by omega) (by simp; omega)).mono ?_
      rintro e w1 ⟨rfl, F2, hS2, hc2, hF2⟩
      have HS2 := hid hS2
      have HF2 := hid hF2
      clear hS2 hF2
      go_wp2_with fail
      go_end0
      have hsz := hch.size
      refine ⟨rfl, F2, ?_, hch.trans hc2 ?_, ?_⟩
      · rw [HE.out]; exact HS2.out.2.2.1
      · intro b hb e
        rcases e with e | e
        · rcases hF b e with h | h
          · exact h
          · omega
        · omega
      · intro b hb
        rcases HF2.out b hb with h | h
        · exact hF b h
        · right; omega
end Go.Proofs.Ytgckkemmabaffaa
