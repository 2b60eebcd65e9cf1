/- Walks of ask: a word. -/
import Derived.Test.YtjepodlalcnecaaDoorW28l
import Derived.Test.YtjepodlalcnecaaDoorW28j
set_option linter.unusedVariables false
namespace Go.Proofs.YtjepodlalcnecaaDoor
open Go.RowKit Go.Fk
/-- what a leaf's reader leaves -/
def LeafPost (w : World) (B : Nat) (s : List UInt8) (x : List Stp × List UInt8) (e : Ending) (w' : World) : Prop :=
  ∃ v, e = .returned v ∧ Own w' w.heap.size eT v x.1 ∧ RdL w' B s x.2 ∧ ChB B w w' ∧ (x.1 = [] → v = .slice none 0 0)
theorem tw_app (p r : List UInt8) (hp : p.all isL = true) (hr : ∀ c, r.head? = some c → isL c = false) : (p ++ r).takeWhile isL = p ∧ (p ++ r).dropWhile isL = r := by
  induction p with
  | nil =>
    cases r with
    | nil => exact ⟨rfl, rfl⟩
    | cons c r => have := hr c rfl; simp [this]
  | cons x p ih =>
    simp only [List.all_cons, Bool.and_eq_true] at hp
    obtain ⟨h1, h2⟩ := ih hp.2
    rw [List.cons_append, List.takeWhile_cons, List.dropWhile_cons, if_pos hp.1, if_pos hp.1, h1, h2]
    exact ⟨rfl, rfl⟩
theorem extract_part (s a r : List UInt8) (i k : Nat) (h : s.drop i = a ++ r) (hk : k = i + a.length) : (⟨s.toArray⟩ : ByteArray).extract i k = ⟨a.toArray⟩ := by
  subst hk
  rw [ByteArray.extract_mk]
  simp [h]
/-- what stands ahead of a word's letters -/
def WHead (h l : List UInt8) : Prop := h = [64] ∨ (h = [] ∧ l.head? ≠ some 64)
theorem wordP_eq (l h p r : List UInt8) (hl : l = h ++ (p ++ r)) (hh : WHead h l) (hp : p.all isL = true) (hr : ∀ c, r.head? = some c → isL c = false) :
    wordP l = if r.head? = some 42 then (leafL 2 (h ++ p), r.drop 1) else (leafL 1 (h ++ p), r) := by
  obtain ⟨t1, t2⟩ := tw_app p r hp hr
  unfold wordP
  rcases hh with rfl | ⟨rfl, hn⟩
  · subst hl
    simp only [List.cons_append, List.nil_append, List.head?_cons, if_true, List.drop_succ_cons, List.drop_zero, t1, t2]
  · rw [if_neg hn, if_neg hn]
    subst hl
    simp only [List.nil_append, t1, t2]
theorem not_l (c : UInt8) (r : List UInt8) (h : isL c = false) : ∀ x, (c :: r).head? = some x → isL x = false := by
  intro x hx; simp at hx; rw [← hx]; exact h
/-- the state of a word's reader -/
def WordRel (w : World) (B : Nat) (s : List UInt8) (i : Nat) (h l : List UInt8) (wr : World) : Prop :=
  ∃ (k : Nat) (p r : List UInt8), i + (h ++ p).length = k ∧ l = h ++ (p ++ r) ∧ p.all isL = true ∧ k + r.length = s.length ∧ s.drop k = r ∧ wr.heap[B]? = some (.cells #[S s, .int .i64 k] 71 (0, 0)) ∧ ChB B w wr
/-- how much is left to the reader -/
def rdLeft (B : Nat) (s : List UInt8) (wr : World) : Nat := match wr.heap[B]? with | some (.cells cs _ _) => s.length - (intOf (cs.getD 1 undef)).toNat | _ => 0
theorem rdLeft_eq {B : Nat} {s : List UInt8} {wr : World} {k : Nat} (h : wr.heap[B]? = some (.cells #[S s, .int .i64 k] 71 (0, 0))) : rdLeft B s wr = s.length - k := by
  unfold rdLeft; rw [h]; simp [intOf]
set_option maxRecDepth 100000 in
set_option maxHeartbeats 8000000 in
theorem word_any (B : Nat) (s l : List UInt8) (w : World) (hr : RdL w B s l) (hlen : s.length ≤ 1000000000) (hB : B < w.heap.size) :
    Calls Tryd.prog 77 #[.pointer (some ⟨B, 0, none⟩)] w (LeafPost w B s (wordP l)) := by
  obtain ⟨i, hil, hd, hb⟩ := hr
  obtain ⟨c0, c1, g1⟩ := rd_cells hb
  have i0 : (0 : Int) ≤ i := by omega
  have i1 : (i : Int) ≤ s.length := by omega
  have xt := extract_from s i s.length (Nat.le_refl _)
  rw [hd] at xt
  have HB := hid hb
  have HD := hid hd
  have HIL := hid hil
  by_cases h64 : l.head? = some 64
  · obtain ⟨l1, rfl⟩ : ∃ l1, l = 64 :: l1 := by cases l with | nil => cases h64 | cons c l => simp at h64; exact ⟨l, by rw [h64]⟩
    have H : Hid (∀ W, Calls Tryd.prog 56 #[S (64 :: l1), S [64]] W fun e w' => e = .returned (.bool true) ∧ w' = W) := fun W => (hasP_any 64 (64 :: l1) W).mono fun e w' ⟨h1, h2⟩ => ⟨h1, h2.symm⟩
    have hw1 : IntKind.i64.wrap ((i : Int) + 1) = (i : Int) + 1 := IntWalk.i64_in _ (by omega)
    have HH : WHead [64] (64 :: l1) := .inl rfl
    clear hb hd hil h64
    go_enter Tryd.func77, Tryd.ntmps77
    go_wp2_with fail
    go_quiet ((go_at_call 56; exact Calls.quiet_of_same (H.out _)))
    go_wp2_with fail
    have HBn := ((Fr.refl w).drewN nq).heap HB.out
    obtain ⟨hb2, hc2⟩ := rd_set HBn ((i : Int) + 1)
    have hc3 := hid (((((Fr.refl w).drewN nq).chg _).trans hc2 (fun _ _ h => h) : ChB B w _))
    have HB3 := hid hb2
    clear HBn hb2 hc2
    go_loopw [] (fun wr => WordRel w B s i [64] (64 :: l1) wr) (fun wr => rdLeft B s wr)
    case atStart => 
      obtain ⟨hi, _, hd2⟩ := drop_at HD.out
      exact ⟨i + 1, [], l1, by simp, rfl, rfl, by have := HIL.out; simp at this; omega, hd2, by rw [HB3.out]; rfl, hc3.out⟩
    case round =>
      clear HB3 hc3 c0 c1 g1 H
      obtain ⟨k, p, r, hk, hl, hp, hkl, hdk, hbk, hck⟩ := hrel
      obtain ⟨c0, c1, g1⟩ := rd_cells hbk
      have k0 : (0 : Int) ≤ k := by omega
      have hik : (i : Int) ≤ k := by omega
      have hks : (k : Int) ≤ s.length := by omega
      have HBK := hid hbk
      have HCK := hid hck
      have HL := hid hl
      have HP := hid hp
      have HK := hid hk
      have HDK := hid hdk
      have HKL := hid hkl
      have HXT : ∀ a, a = [64] ++ p → (⟨s.toArray⟩ : ByteArray).extract i k = ⟨a.toArray⟩ := by
        intro a ha
        rw [ha]
        refine extract_part s ([64] ++ p) r i k ?_ HK.out.symm
        rw [HD.out, HL.out, List.append_assoc]
      have hx := HXT _ rfl
      have hB2 : B < wr.heap.size := (Array.getElem?_eq_some_iff.1 HBK.out).1
      have hBs := HCK.out.size
      clear hbk hck hl hp hk hdk HXT
      cases r with
      | nil =>
        have hkn : k = s.length := by have := HKL.out; simp at this; omega
        have hq : decide (k < s.length) = false := by simp; omega
        have hsL : (k : Int) = s.length := by omega
        have hw := wordP_eq _ [64] p [] HL.out HH HP.out (by simp)
        rw [if_neg (by simp)] at hw
        have HW := hid hw
        clear hw hkl hkn hsL
        go_wp2_with fail
        go_quiet (fail)
        go_wp2_with fail
        go_quiet (fail)
        go_wp2_with fail
        go_quiet (fail)
        go_wp2_with fail
        refine (Word_any _ _).mono ?_
        rintro e w1 ⟨v, rfl, hown, hf, hn⟩
        have HN := hid hn
        have hfw := (Fr.drewN (Fr.refl wr) _).trans hf
        clear hn
        go_wp2_with fail
        go_ret
        rw [HW.out]
        exact ⟨v, rfl, hown.rebase hBs, RdL.fr ⟨k, HKL.out, HDK.out, HBK.out⟩ hfw, HCK.out.fr hfw, HN.out⟩
      | cons c r2 =>
        obtain ⟨hks2, hkc, hd2⟩ := drop_at HDK.out
        have hcb : (⟨s.toArray⟩ : ByteArray)[k]'(by simp [ByteArray.size]; omega) = c := hkc
        have hq : decide (k < s.length) = true := by simp; omega
        have hlt : (k : Int) < s.length := by omega
        have hwk : IntKind.i64.wrap ((k : Int) + 1) = (k : Int) + 1 := IntWalk.i64_in _ (by omega)
        cases hcl : isL c with
        | true =>
          have HLt : Hid (∀ W, Calls Tryd.prog 83 #[Fk.u8 c] W fun e w' => e = .returned (.bool true) ∧ w' = W) := fun W => (letter_any c W).mono fun e w' ⟨h1, h2⟩ => ⟨by rw [h1, hcl], h2.symm⟩
          have HCL := hid hcl
          have HD2 := hid hd2
          clear hcl hkc hd2 hkl
          go_wp2_with fail
          go_quiet ((go_at_call 83; exact Calls.quiet_of_same (HLt.out _)))
          go_wp2_with fail
          have HBn := ((Fr.refl wr).drewN nq).heap HBK.out
          obtain ⟨hb2, hc2⟩ := rd_set HBn ((k : Int) + 1)
          refine ⟨⟨k + 1, p ++ [c], r2, by have := HK.out; simp at this ⊢; omega, by rw [HL.out]; simp, by rw [List.all_append, HP.out]; simp [HCL.out], by have := HKL.out; simp at this; omega, HD2.out, by rw [hb2]; rfl, (HCK.out.fr ((Fr.refl wr).drewN nq)).trans hc2⟩, ?_⟩
          rw [rdLeft_eq (k := k + 1) (by rw [hb2]; rfl), rdLeft_eq HBK.out]
          omega
        | false =>
          have HLt : Hid (∀ W, Calls Tryd.prog 83 #[Fk.u8 c] W fun e w' => e = .returned (.bool false) ∧ w' = W) := fun W => (letter_any c W).mono fun e w' ⟨h1, h2⟩ => ⟨by rw [h1, hcl], h2.symm⟩
          have hw := wordP_eq _ [64] p (c :: r2) HL.out HH HP.out (not_l c r2 hcl)
          simp only [List.head?_cons, List.drop_succ_cons, List.drop_zero, Option.some.injEq] at hw
          have HW := hid hw
          have HD2 := hid hd2
          clear hcl hkc hd2 hkl hw
          by_cases h42 : c = 42
          · have b42 : ((c.toNat : Int) == 42) = true := by rw [h42]; rfl
            have HW2 := hid (HW.out.trans (if_pos h42))
            clear h42 HW
            go_wp2_with fail
            go_quiet ((go_at_call 83; exact Calls.quiet_of_same (HLt.out _)))
            go_wp2_with fail
            go_quiet (fail)
            go_wp2_with fail
            go_quiet (fail)
            go_wp2_with fail
            refine (Prefix_any _ _).mono ?_
            rintro e w1 ⟨v, rfl, hown, hf, hn⟩
            have HN := hid hn
            have hset := fun n => rd_set ((Fr.drewN (Fr.refl wr) n).heap HBK.out) ((k : Int) + 1)
            have hr1 : ∀ n, RdL ((wr.drewN n).setCell ⟨B, 1, none⟩ (.int .i64 ((k : Int) + 1))) B s r2 := fun n => ⟨k + 1, by have := HKL.out; simp at this; omega, HD2.out, by rw [(hset n).1]; rfl⟩
            have hcn : ∀ n, ChB B w ((wr.drewN n).setCell ⟨B, 1, none⟩ (.int .i64 ((k : Int) + 1))) := fun n => (HCK.out.fr (Fr.drewN (Fr.refl wr) n)).trans (hset n).2
            have HR1 := hid hr1
            have HCN := hid hcn
            clear hn hset hr1 hcn
            go_wp2_with fail
            go_ret
            rw [HW2.out]
            exact ⟨v, rfl, hown.rebase (by simp [World.setCell]; omega), (HR1.out _).fr hf, (HCN.out _).fr hf, HN.out⟩
          · have b42 : ((c.toNat : Int) == 42) = false := by simp; exact fun e => h42 (UInt8.toNat_inj.1 (by show c.toNat = 42; omega))
            have HW2 := hid (HW.out.trans (if_neg h42))
            clear h42 HW
            go_wp2_with fail
            go_quiet ((go_at_call 83; exact Calls.quiet_of_same (HLt.out _)))
            go_wp2_with fail
            go_quiet (fail)
            go_wp2_with fail
            go_quiet (fail)
            go_wp2_with fail
            refine (Word_any _ _).mono ?_
            rintro e w1 ⟨v, rfl, hown, hf, hn⟩
            have HN := hid hn
            have hfw := (Fr.drewN (Fr.refl wr) _).trans hf
            clear hn
            go_wp2_with fail
            go_ret
            rw [HW2.out]
            exact ⟨v, rfl, hown.rebase hBs, RdL.fr ⟨k, HKL.out, HDK.out, HBK.out⟩ hfw, HCK.out.fr hfw, HN.out⟩
  · have H : Hid (∀ W, Calls Tryd.prog 56 #[S l, S [64]] W fun e w' => e = .returned (.bool false) ∧ w' = W) := fun W => (hasP_any 64 l W).mono fun e w' ⟨h1, h2⟩ => ⟨by rw [h1]; cases l with | nil => rfl | cons c l => simp at h64; simp [h64], h2.symm⟩
    have HH : WHead [] l := .inr ⟨rfl, h64⟩
    clear hb hd hil h64
    go_enter Tryd.func77, Tryd.ntmps77
    go_wp2_with fail
    go_quiet ((go_at_call 56; exact Calls.quiet_of_same (H.out _)))
    go_wp2_with fail
    have HB3 := hid (((Fr.refl w).drewN nq).heap HB.out)
    have hc3 := hid ((((Fr.refl w).drewN nq).chg _ : ChB B w _))
    go_loopw [] (fun wr => WordRel w B s i [] l wr) (fun wr => rdLeft B s wr)
    case atStart => exact ⟨i, [], l, by simp, rfl, rfl, HIL.out, HD.out, HB3.out, hc3.out⟩
    case round =>
      clear HB3 hc3 c0 c1 g1 H
      obtain ⟨k, p, r, hk, hl, hp, hkl, hdk, hbk, hck⟩ := hrel
      obtain ⟨c0, c1, g1⟩ := rd_cells hbk
      have k0 : (0 : Int) ≤ k := by omega
      have hik : (i : Int) ≤ k := by omega
      have hks : (k : Int) ≤ s.length := by omega
      have HBK := hid hbk
      have HCK := hid hck
      have HL := hid hl
      have HP := hid hp
      have HK := hid hk
      have HDK := hid hdk
      have HKL := hid hkl
      have HXT : ∀ a, a = [] ++ p → (⟨s.toArray⟩ : ByteArray).extract i k = ⟨a.toArray⟩ := by
        intro a ha
        rw [ha]
        refine extract_part s ([] ++ p) r i k ?_ HK.out.symm
        rw [HD.out, HL.out, List.append_assoc]
      have hx := HXT _ rfl
      have hB2 : B < wr.heap.size := (Array.getElem?_eq_some_iff.1 HBK.out).1
      have hBs := HCK.out.size
      clear hbk hck hl hp hk hdk HXT
      cases r with
      | nil =>
        have hkn : k = s.length := by have := HKL.out; simp at this; omega
        have hq : decide (k < s.length) = false := by simp; omega
        have hsL : (k : Int) = s.length := by omega
        have hw := wordP_eq _ [] p [] HL.out HH HP.out (by simp)
        rw [if_neg (by simp)] at hw
        have HW := hid hw
        clear hw hkl hkn hsL
        go_wp2_with fail
        go_quiet (fail)
        go_wp2_with fail
        go_quiet (fail)
        go_wp2_with fail
        go_quiet (fail)
        go_wp2_with fail
        refine (Word_any _ _).mono ?_
        rintro e w1 ⟨v, rfl, hown, hf, hn⟩
        have HN := hid hn
        have hfw := (Fr.drewN (Fr.refl wr) _).trans hf
        clear hn
        go_wp2_with fail
        go_ret
        rw [HW.out]
        exact ⟨v, rfl, hown.rebase hBs, RdL.fr ⟨k, HKL.out, HDK.out, HBK.out⟩ hfw, HCK.out.fr hfw, HN.out⟩
      | cons c r2 =>
        obtain ⟨hks2, hkc, hd2⟩ := drop_at HDK.out
        have hcb : (⟨s.toArray⟩ : ByteArray)[k]'(by simp [ByteArray.size]; omega) = c := hkc
        have hq : decide (k < s.length) = true := by simp; omega
        have hlt : (k : Int) < s.length := by omega
        have hwk : IntKind.i64.wrap ((k : Int) + 1) = (k : Int) + 1 := IntWalk.i64_in _ (by omega)
        cases hcl : isL c with
        | true =>
          have HLt : Hid (∀ W, Calls Tryd.prog 83 #[Fk.u8 c] W fun e w' => e = .returned (.bool true) ∧ w' = W) := fun W => (letter_any c W).mono fun e w' ⟨h1, h2⟩ => ⟨by rw [h1, hcl], h2.symm⟩
          have HCL := hid hcl
          have HD2 := hid hd2
          clear hcl hkc hd2 hkl
          go_wp2_with fail
          go_quiet ((go_at_call 83; exact Calls.quiet_of_same (HLt.out _)))
          go_wp2_with fail
          have HBn := ((Fr.refl wr).drewN nq).heap HBK.out
          obtain ⟨hb2, hc2⟩ := rd_set HBn ((k : Int) + 1)
          refine ⟨⟨k + 1, p ++ [c], r2, by have := HK.out; simp at this ⊢; omega, by rw [HL.out]; simp, by rw [List.all_append, HP.out]; simp [HCL.out], by have := HKL.out; simp at this; omega, HD2.out, by rw [hb2]; rfl, (HCK.out.fr ((Fr.refl wr).drewN nq)).trans hc2⟩, ?_⟩
          rw [rdLeft_eq (k := k + 1) (by rw [hb2]; rfl), rdLeft_eq HBK.out]
          omega
        | false =>
          have HLt : Hid (∀ W, Calls Tryd.prog 83 #[Fk.u8 c] W fun e w' => e = .returned (.bool false) ∧ w' = W) := fun W => (letter_any c W).mono fun e w' ⟨h1, h2⟩ => ⟨by rw [h1, hcl], h2.symm⟩
          have hw := wordP_eq _ [] p (c :: r2) HL.out HH HP.out (not_l c r2 hcl)
          simp only [List.head?_cons, List.drop_succ_cons, List.drop_zero, Option.some.injEq] at hw
          have HW := hid hw
          have HD2 := hid hd2
          clear hcl hkc hd2 hkl hw
          by_cases h42 : c = 42
          · have b42 : ((c.toNat : Int) == 42) = true := by rw [h42]; rfl
            have HW2 := hid (HW.out.trans (if_pos h42))
            clear h42 HW
            go_wp2_with fail
            go_quiet ((go_at_call 83; exact Calls.quiet_of_same (HLt.out _)))
            go_wp2_with fail
            go_quiet (fail)
            go_wp2_with fail
            go_quiet (fail)
            go_wp2_with fail
            refine (Prefix_any _ _).mono ?_
            rintro e w1 ⟨v, rfl, hown, hf, hn⟩
            have HN := hid hn
            have hset := fun n => rd_set ((Fr.drewN (Fr.refl wr) n).heap HBK.out) ((k : Int) + 1)
            have hr1 : ∀ n, RdL ((wr.drewN n).setCell ⟨B, 1, none⟩ (.int .i64 ((k : Int) + 1))) B s r2 := fun n => ⟨k + 1, by have := HKL.out; simp at this; omega, HD2.out, by rw [(hset n).1]; rfl⟩
            have hcn : ∀ n, ChB B w ((wr.drewN n).setCell ⟨B, 1, none⟩ (.int .i64 ((k : Int) + 1))) := fun n => (HCK.out.fr (Fr.drewN (Fr.refl wr) n)).trans (hset n).2
            have HR1 := hid hr1
            have HCN := hid hcn
            clear hn hset hr1 hcn
            go_wp2_with fail
            go_ret
            rw [HW2.out]
            exact ⟨v, rfl, hown.rebase (by simp [World.setCell]; omega), (HR1.out _).fr hf, (HCN.out _).fr hf, HN.out⟩
          · have b42 : ((c.toNat : Int) == 42) = false := by simp; exact fun e => h42 (UInt8.toNat_inj.1 (by show c.toNat = 42; omega))
            have HW2 := hid (HW.out.trans (if_neg h42))
            clear h42 HW
            go_wp2_with fail
            go_quiet ((go_at_call 83; exact Calls.quiet_of_same (HLt.out _)))
            go_wp2_with fail
            go_quiet (fail)
            go_wp2_with fail
            go_quiet (fail)
            go_wp2_with fail
            refine (Word_any _ _).mono ?_
            rintro e w1 ⟨v, rfl, hown, hf, hn⟩
            have HN := hid hn
            have hfw := (Fr.drewN (Fr.refl wr) _).trans hf
            clear hn
            go_wp2_with fail
            go_ret
            rw [HW2.out]
            exact ⟨v, rfl, hown.rebase hBs, RdL.fr ⟨k, HKL.out, HDK.out, HBK.out⟩ hfw, HCK.out.fr hfw, HN.out⟩
end Go.Proofs.YtjepodlalcnecaaDoor
