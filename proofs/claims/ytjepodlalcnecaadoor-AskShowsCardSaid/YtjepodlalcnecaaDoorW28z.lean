/- Walks of the reference of queries: digits. -/
import Derived.Test.YtjepodlalcnecaaDoorW28u
import Derived.Test.YtjepodlalcnecaaDoorW28g
import Derived.Test.YtjepodlalcnecaaDoorSpec28k
import Derived.Test.YtjepodlalcnecaaDoorLib4
set_option linter.unusedVariables false
namespace Go.Proofs.YtjepodlalcnecaaDoor
open Go.RowKit Go.Fk

/-- a decimal digit -/
def dg (d : Nat) : UInt8 := UInt8.ofNat (48 + d)
theorem decDigits_more (v : Nat) (h : ¬ v < 10) : Lib.decDigits v = Lib.decDigits (v / 10) ++ [dg (v % 10)] := by
  rw [Lib.decDigits, dif_neg h]; rfl
theorem digit_cell (d : Nat) (h : d < 10) : (#[Value.int .u8 (48 + (d : Int))] : Array Value).toList = eB.cells [dg d] := by
  have e : 48 + (d : Int) = ((dg d).toNat : Int) := by
    unfold dg; rw [UInt8.toNat_ofNat']; omega
  rw [e]; rfl
set_option maxRecDepth 100000 in
theorem Digits_any (u : Nat) (hu : u < 18446744073709551616) (w : World) :
    Calls Tryd.prog 33 #[.int .u64 (u : Nat)] w fun e w' => e = .returned (S (Lib.decDigits u)) ∧ Fr w w' := by
  have hlen := dec_le u hu
  go_enter Tryd.func33, Tryd.ntmps33
  go_wp2_with fail
  go_loopw [0, 3] (fun vv ov wr => ∃ (v : Nat) (o : List UInt8), v ≤ u ∧ vv = .int .u64 (v : Nat) ∧ Lib.decDigits u = Lib.decDigits v ++ o ∧ Own wr w.heap.size eB ov o ∧ Fr w wr) (fun vv _ _ => (intOf vv).toNat)
  case atStart => exact ⟨u, [], Nat.le_refl _, rfl, by simp, Own.nil, Fr.refl w⟩
  case round =>
    obtain ⟨v, o, hv, rfl, heq, hown, hf⟩ := hrel
    have hol : o.length ≤ 20 := by rw [heq, List.length_append] at hlen; omega
    have HE := hid heq
    clear heq
    by_cases hge : v < 10
    · have HD : Hid (Lib.decDigits v ++ o = dg v :: o) := by show _ = _; rw [Lib.decDigits_one hge]; rfl
      have HB := hid (digit_cell v hge)
      go_wp2_with (at_builtin; refine wpList_app eB rfl (.tmp 18) (.tmp 19) 60 rfl Tryd.underlying60 wr.heap.size rfl (own_lit eB wr _ [dg v] 1 rfl (by simp [maxLen]) (Nat.le_refl _) HB.out) _ o rfl (hown.see.fr ((Fr.refl wr).alloc _)) (by simp only [List.length_cons, List.length_nil]; omega) (by simp) ?_)
      intro v' w1 ha
      have hcv := run_conv_see eB w1 60 9 Tryd.underlying60 Tryd.underlying5 Tryd.underlying9 rfl rfl ha.own.see
      go_wp2_with fail
      go_ret
      exact ⟨congrArg (fun l => Ending.returned (S l)) (HE.out.trans HD.out).symm, (App.below ha (own_lit eB wr _ [dg v] 1 rfl (by simp [maxLen]) (Nat.le_refl _) HB.out) (hf.alloc _) hf.size (by simp; have := hf.size; omega))⟩
    · have HD : Hid (Lib.decDigits u = Lib.decDigits (v / 10) ++ (dg (v % 10) :: o)) := by show _ = _; rw [HE.out, decDigits_more v hge, List.append_assoc]; rfl
      have HB := hid (digit_cell (v % 10) (by omega))
      have hm1 : (v : Int) % 10 < 10 := by omega
      have hm0 : 0 ≤ (v : Int) % 10 := by omega
      have hm : Hid (((v % 10 : Nat) : Int) = (v : Int) % 10) := by show _ = _; omega
      go_wp2_with (at_builtin; refine wpList_app eB rfl (.tmp 10) (.tmp 11) 60 rfl Tryd.underlying60 wr.heap.size rfl (own_lit eB wr _ [dg (v % 10)] 1 rfl (by simp [maxLen]) (Nat.le_refl _) (by rw [← HB.out, hm.out])) _ o rfl (hown.see.fr ((Fr.refl wr).alloc _)) (by simp only [List.length_cons, List.length_nil]; omega) (by simp) ?_)
      intro v' w1 ha
      go_wp2_with fail
      go_roundw
      case rel => exact ⟨v / 10, dg (v % 10) :: o, by omega, by go_num, HD.out, ha.own.rebase hf.size, (App.below ha (own_lit eB wr _ [dg (v % 10)] 1 rfl (by simp [maxLen]) (Nat.le_refl _) (by rw [← HB.out, hm.out])) (hf.alloc _) hf.size (by simp; have := hf.size; omega))⟩
      case measure => simp [intOf]; omega
end Go.Proofs.YtjepodlalcnecaaDoor
namespace Go.Proofs.YtjepodlalcnecaaDoor
open Go.RowKit Go.Fk
theorem _root_.Go.Fk.Sees2.cons {P : Program} {α : Type} {w w' : World} {EH : Elt P Hd} {E : Elt P α} {v v' : Value} {hs : List Hd} {ls : List (List α)} {x : Hd} {l : List α} (h : Sees2 w EH E v hs ls) (hf : Fr w w') (hv : See w' EH v' ([x] ++ hs)) (hx : See w' E x.v l) : Sees2 w' EH E v' (x :: hs) (l :: ls) := by
  refine ⟨hv, by simp [h.2.1], fun i h1 h2 => ?_⟩
  cases i with
  | zero => exact hx
  | succ i => exact (h.2.2 i (by simpa using h1) (by simpa using h2)).fr hf
set_option maxRecDepth 100000 in
set_option maxHeartbeats 4000000 in
theorem Parts_any (v : Value) (s : Stp) (ps : List (List Stp)) (w : World) (hr : rightB s = true) (hn : (ps.length : Int) = takesZ s) (hp : ∀ p ∈ ps, IsQ p) (hlen : ps.flatten.length ≤ 1000) (hs : See w eT v (ps.flatten ++ [s])) :
    Calls Tryd.prog 34 #[v] w fun e w' => ∃ v' hs, e = .returned v' ∧ Sees2 w' eH eT v' hs ps ∧ Fr w w' := by
  have hq : IsQ (ps.flatten ++ [s]) := IsQ.mk s ps hr hn hp
  have hst := step_q _ hq
  have hcnt := flat_count ps hp
  obtain ⟨b, off, cap, hv, c0, c1, c2, c3, c4⟩ := stpAt hs ps.flatten.length (by simp)
  have hlast : (ps.flatten ++ [s])[ps.flatten.length]'(by simp) = s := by simp
  rw [hlast] at c0 c1 c2 c3 c4
  have hql : (ps.flatten ++ [s]).length = ps.flatten.length + 1 := by simp
  rw [hql] at hv hst
  subst hv
  have HST := hid hst
  have HPS := hid hp
  have hT := takes_same s hr
  rw [← hn] at hT
  have HT := hid hT
  have HN := hid hn
  clear hst hp hT hq hn hr hql hlast
  generalize hL : ps.flatten.length = L at *
  go_enter Tryd.func34, Tryd.ntmps34
  go_wp2_with fail
  go_loopw [3, 4, 5] (fun ov ev kv wr => ∃ (k i : Nat) (hd : List Hd), Hid (k + i = ps.length) ∧ kv = N k ∧ ev = N (ps.take i).flatten.length ∧ Sees2 wr eH eT ov hd (ps.drop i) ∧ Fr w wr) (fun _ _ kv _ => ps.length - (intOf kv).toNat)
  case atStart => exact ⟨0, ps.length, [], by show _ = _; omega, rfl, by rw [List.take_length, hL], by rw [List.drop_length]; exact ⟨See.nil, rfl, fun i h _ => by cases h⟩, Fr.refl w⟩
  case round =>
    obtain ⟨k, i, hd, HK, rfl, rfl, hsee, hf⟩ := hrel
    have d0 := hf.cell c0
    have d1 := hf.cell c1
    have d2 := hf.cell c2
    have d3 := hf.cell c3
    have d4 := hf.cell c4
    have i1 : (0 : Int) ≤ L := by omega
    have i2 : (L : Int) < L + 1 := by omega
    go_wp2_with fail
    refine (RTakes_any s _).mono ?_
    rintro e w1 ⟨he, hf1⟩
    rw [HT.out] at he
    subst he
    match i, HK with
    | 0, HK =>
      have hk : k = ps.length := by have := HK.out; omega
      subst hk
      have hnl : ¬ ((ps.length : Int) < ps.length) := by omega
      rw [List.drop_zero] at hsee
      go_wp2_with fail
      go_ret
      exact ⟨_, _, rfl, hsee.fr hf1, hf.trans hf1⟩
    | i + 1, HK =>
      have hkl : (k : Int) < ps.length := by have := HK.out; omega
      have hil : i < ps.length := by have := HK.out; omega
      have HF : Hid ((ps.take (i + 1)).flatten.length = (ps.take i).flatten.length + ps[i].length) := by show _ = _; rw [flat_snoc ps i hil, List.length_append]
      have HD : Hid (ps.drop i = ps[i] :: ps.drop (i + 1)) := List.drop_eq_getElem_cons hil
      have hle : (ps.take (i + 1)).flatten.length ≤ L := by rw [← hL]; exact flat_take_le ps (i + 1)
      have hpl : (ps.take i).flatten.length + ps[i].length ≤ L := by have := HF.out; omega
      have HI := hid (part_facts ps[i] (HPS.out _ (List.getElem_mem hil)) (by omega))
      have HG : Hid (∀ t (h : t < ps[i].length), w.cell? ⟨b, off + ((ps.take i).flatten.length + t) * 5, none⟩ = some (.int .i64 ps[i][t].op) ∧ w.cell? ⟨b, off + ((ps.take i).flatten.length + t) * 5 + 1, none⟩ = some (.int .i64 ps[i][t].n) ∧ w.cell? ⟨b, off + ((ps.take i).flatten.length + t) * 5 + 2, none⟩ = some (S ps[i][t].word) ∧ w.cell? ⟨b, off + ((ps.take i).flatten.length + t) * 5 + 3, none⟩ = some (.int .u64 ps[i][t].fa.toNat) ∧ w.cell? ⟨b, off + ((ps.take i).flatten.length + t) * 5 + 4, none⟩ = some (.int .u64 ps[i][t].fb.toNat)) := by
        intro t h
        obtain ⟨h2, h3⟩ := flat_at ps i hil t h
        obtain ⟨b2, off2, cap2, hv2, f0, f1, f2, f3, f4⟩ := stpAt hs ((ps.take i).flatten.length + t) (by rw [List.length_append]; omega)
        simp only [Value.slice.injEq, Option.some.injEq, Addr.mk.injEq, and_true] at hv2
        obtain ⟨⟨rfl, rfl⟩, _, rfl⟩ := hv2
        have e : (ps.flatten ++ [s])[(ps.take i).flatten.length + t]'(by rw [List.length_append]; omega) = ps[i][t] := by rw [List.getElem_append_left h2, h3]
        rw [e] at f0 f1 f2 f3 f4
        exact ⟨f0, f1, f2, f3, f4⟩
      have hsq : See w eT (.slice (some ⟨b, off, none⟩) (L + 1) cap) (ps.flatten ++ [s]) := hs
      obtain ⟨a', cap', hrun, hsp⟩ := run_mid eT 22 Tryd.underlying22 hsq (ps.take i).flatten.length ((ps.take i).flatten.length + ps[i].length) (by omega) (by rw [List.length_append]; show _ ≤ _ + 1; omega)
      have hmid : ((ps.flatten ++ [s]).take ((ps.take i).flatten.length + ps[i].length)).drop (ps.take i).flatten.length = ps[i] := flat_mid ps s i hil
      rw [hmid] at hsp
      rw [Nat.add_sub_cancel_left] at hsp hrun
      have HX := hid (hsee)
      generalize ps[i] = p at *
      generalize (ps.take (i + 1)).flatten.length = en at *
      generalize hpr : (ps.take i).flatten.length = pr at *
      have HPR := hid hpr
      clear hpr
      have hen : en = pr + p.length := HF.out
      subst hen
      clear hmid hle
      go_wp2_with fail
      go_loopw [6, 7] (fun fv nv wr2 => ∃ t : Nat, t ≤ p.length ∧ fv = N (pr + t) ∧ nv = .int .i64 (bal (p.drop t)) ∧ Fr w1 wr2) (fun fv _ _ => (intOf fv).toNat)
      case atStart => exact ⟨p.length, Nat.le_refl _, rfl, by rw [List.drop_length]; rfl, Fr.refl w1⟩
      case round =>
        obtain ⟨t, ht, rfl, rfl, hf2⟩ := hrel
        cases t with
        | zero =>
          rw [HI.out.1]
          have hown := own_lit eH wr #[.slice a' p.length cap'] [⟨a', p.length, cap'⟩] 1 rfl (by simp [maxLen]) (Nat.le_refl _)
          have hf02 := (hf.trans hf1).trans hf2
          have hsee2 := (hsee.fr (hf1.trans hf2)).fr ((Fr.refl wr).alloc (.cells #[.slice a' p.length cap'] 22))
          have hlh : [(⟨a', p.length, cap'⟩ : Hd)].length + hd.length ≤ 2147483648 := by
            have h1 := hsee.2.1
            rw [List.length_drop] at h1
            simp; omega
          go_wp2_with (at_builtin; refine wpList_app eH rfl (.tmp 43) (.tmp 44) 31 rfl Tryd.underlying31 wr.heap.size rfl hown _ _ rfl hsee2.1 hlh (by simp) ?_)
          intro v4 w4 hap
          have hf4 : Fr wr w4 := hap.below hown ((Fr.refl wr).alloc _) (Nat.le_refl _) (by simp)
          have hs4 : Sees2 w4 eH eT v4 (⟨a', p.length, cap'⟩ :: hd) (p :: ps.drop (i + 1)) := (hsee.fr (hf1.trans hf2)).cons hf4 hap.own.see (hsp.fr (hf02.trans hf4))
          rw [← HD.out] at hs4
          go_wp2_with fail
          go_roundw
          case rel => exact ⟨k + 1, i, _, by have := HK.out; show _ = _; omega, by go_num, by rw [HPR.out], hs4, hf02.trans hf4⟩
          case measure => simp [intOf]; omega
        | succ t =>
          obtain ⟨j1, j2, j3, j4, j5, j6⟩ := HI.out.2 t (by omega)
          obtain ⟨f0, f1, f2, f3, f4⟩ := HG.out t (by omega)
          have hfw := (hf.trans hf1).trans hf2
          have g0 := hfw.cell f0
          have g1 := hfw.cell f1
          have g2 := hfw.cell f2
          have g3 := hfw.cell f3
          have g4 := hfw.cell f4
          have HRT : Hid (∀ W, Calls Tryd.prog 29 #[stpV p[t]] W fun e w' => e = .returned (.int .i64 (takesZ p[t])) ∧ Fr W w') := fun W => (RTakes_any p[t] W).mono (by rintro e w' ⟨he, h⟩; exact ⟨by rw [he, j1], h⟩)
          have HB : Hid (bal (p.drop t) = takesZ p[t] - 1 + bal (p.drop (t + 1))) := j6
          have i3 : (0 : Int) ≤ (pr : Int) + t := by omega
          have i4 : (pr : Int) + t < (L : Int) + 1 := by omega
          have i5 : (0 : Int) < (pr : Int) + (t + 1) := by omega
          have i6 : ((pr : Int) + t).toNat = pr + t := by omega
          clear j1 j6 f0 f1 f2 f3 f4
          generalize p[t] = st at *
          generalize hz : takesZ st = z at *
          generalize hbb : bal (p.drop (t + 1)) = bb at *
          clear hz hbb
          go_wp2_with fail
          refine (HRT.out _).mono ?_
          rintro e w5 ⟨rfl, hf5⟩
          go_wp2_with fail
          go_roundw
          case rel => exact ⟨t, by omega, by go_num, by rw [HB.out]; go_num, hf2.trans hf5⟩
          case measure => simp [intOf]; omega
end Go.Proofs.YtjepodlalcnecaaDoor
namespace Go.Proofs.YtjepodlalcnecaaDoor
open Go.RowKit Go.Fk
set_option maxRecDepth 100000 in
set_option maxHeartbeats 2000000 in
theorem RShow_word (v : Value) (op n : Int) (ho : op = 1 ∨ op = 2) (word : List UInt8) (fa fb : UInt64) (w : World) (hl : word.length ≤ 25) (hs : See w eT v [⟨op, n, word, fa, fb⟩]) :
    Calls Tryd.prog 19 #[v] w fun e w' => e = .returned (S (showT ⟨op, n, word, fa, fb⟩ [])) ∧ Fr w w' := by
  obtain ⟨b, off, cap, hv, c0, c1, c2, c3, c4⟩ := stpAt hs 0 (by simp)
  simp only [List.getElem_cons_zero, Nat.zero_mul, Nat.add_zero, List.length_singleton] at hv c0 c1 c2 c3 c4
  subst hv
  have l1 : ¬ 9223372036854775807 < word.length + 1 := by omega
  have l2 : word.length + 1 ≤ 9223372036854775807 := by omega
  rcases ho with rfl | rfl
  · go_enter Tryd.func19, Tryd.ntmps19
    go_wp2_with fail
    go_ret
    exact ⟨rfl, (Fr.refl w).alloc _⟩
  · go_enter Tryd.func19, Tryd.ntmps19
    go_wp2_with fail
    go_ret
    refine ⟨congrArg Ending.returned ?_, (Fr.refl w).alloc _⟩
    show Value.string ((⟨word.toArray⟩ : ByteArray) ++ ⟨[42].toArray⟩) = S (word ++ [42])
    rw [b_add]
set_option maxRecDepth 100000 in
set_option maxHeartbeats 2000000 in
theorem RShow_span1 (v : Value) (op n : Int) (o c : UInt8) (ho : op = 3 ∧ o = 91 ∧ c = 93 ∨ op = 4 ∧ o = 60 ∧ c = 62) (word d1 d2 : List UInt8) (a b : Nat) (fa fb : UInt64) (w : World) (ha : a < 18446744073709551616) (hb : b < 18446744073709551616) (g1 : Hid (Lib.decDigits a = d1)) (g2 : Hid (Lib.decDigits b = d2)) (e1 : d1.length ≤ 20) (e2 : d2.length ≤ 20)
    (ga : fa.toNat = a) (gb : fb.toNat = b) (hs : See w eT v [⟨op, n, word, fa, fb⟩]) :
    Calls Tryd.prog 19 #[v] w fun e w' => e = .returned (S (o :: (d1 ++ 46 :: 46 :: (d2 ++ [c])))) ∧ Fr w w' := by
  obtain ⟨bb, off, cap, hv, c0, c1, c2, c3, c4⟩ := stpAt hs 0 (by simp)
  simp only [List.getElem_cons_zero, Nat.zero_mul, Nat.add_zero, List.length_singleton] at hv c0 c1 c2 c3 c4
  rw [ga] at c3
  rw [gb] at c4
  subst hv
  have HD1 : Hid (∀ W : World, Calls Tryd.prog 33 #[.int .u64 a] W fun e w' => e = .returned (S d1) ∧ Fr W w') := fun W => (Digits_any a ha W).mono (by rintro e w' ⟨rfl, hf⟩; exact ⟨by rw [g1.out], hf⟩)
  have HD2 : Hid (∀ W : World, Calls Tryd.prog 33 #[.int .u64 b] W fun e w' => e = .returned (S d2) ∧ Fr W w') := fun W => (Digits_any b hb W).mono (by rintro e w' ⟨rfl, hf⟩; exact ⟨by rw [g2.out], hf⟩)
  clear g1 g2 ha hb hs ga gb
  have l0 : ¬ 9223372036854775807 < 1 + d1.length := by omega
  have l1 : ¬ 9223372036854775807 < 1 + d1.length + 2 := by omega
  have l2 : ¬ 9223372036854775807 < 1 + d1.length + 2 + d2.length := by omega
  have l3 : ¬ 9223372036854775807 < 1 + d1.length + 2 + d2.length + 1 := by omega
  have n0 : 1 + d1.length ≤ 9223372036854775807 := by omega
  have n1 : 1 + d1.length + 2 ≤ 9223372036854775807 := by omega
  have n2 : 1 + d1.length + 2 + d2.length ≤ 9223372036854775807 := by omega
  have n3 : 1 + d1.length + 2 + d2.length + 1 ≤ 9223372036854775807 := by omega
  clear e1 e2
  rcases ho with ⟨rfl, rfl, rfl⟩ | ⟨rfl, rfl, rfl⟩
  · go_enter Tryd.func19, Tryd.ntmps19
    go_upto_region 7 with fail
    generalize hW : w.alloc (.cells #[.int .i64 3, .int .i64 n, S word, .int .u64 a, .int .u64 b] 34) = W
    have hf0 : Fr w W := by rw [← hW]; exact (Fr.refl w).alloc _
    have hc0 : W.cell? ⟨w.heap.size, 3, none⟩ = some (.int .u64 a) ∧ W.cell? ⟨w.heap.size, 4, none⟩ = some (.int .u64 b) := by
      rw [← hW]; refine ⟨?_, ?_⟩ <;> rw [World.cell?_alloc_at _ _ _ _ rfl] <;> rfl
    obtain ⟨a0, a1⟩ := hc0
    have HF := hid hf0
    clear hW hf0 c0 c1 c2 c3 c4
    go_region_held3 (fun w' => w'.cell? ⟨w.heap.size, 3, none⟩ = some (.int .u64 a) ∧ w'.cell? ⟨w.heap.size, 4, none⟩ = some (.int .u64 b))
      (first | go_keep)
      ((first
        | (go_at_call_of 33 (Value.int IntKind.u64 (a : Int)); refine (HD1.out _).mono ?_; rintro e w1 ⟨rfl, hf1⟩; have b0 := hf1.cell a0; have b1 := hf1.cell a1)
        | (go_at_call_of 33 (Value.int IntKind.u64 (b : Int)); refine (HD2.out _).mono ?_; rintro e w2 ⟨rfl, hf2⟩; have y0 := hf2.cell b0; have y1 := hf2.cell b1)))
    go_wp2_with fail
    go_ret
    refine ⟨congrArg Ending.returned ?_, ((HF.out.trans (Fr.drew (Fr.refl _))).trans hf1).trans hf2⟩
    show Value.string ((⟨[91].toArray⟩ : ByteArray) ++ ⟨d1.toArray⟩ ++ ⟨[46, 46].toArray⟩ ++ ⟨d2.toArray⟩ ++ ⟨[93].toArray⟩) = _
    simp only [b_add]
    simp [S]
  · go_enter Tryd.func19, Tryd.ntmps19
    go_upto_region 9 with fail
    generalize hW : w.alloc (.cells #[.int .i64 4, .int .i64 n, S word, .int .u64 a, .int .u64 b] 34) = W
    have hf0 : Fr w W := by rw [← hW]; exact (Fr.refl w).alloc _
    have hc0 : W.cell? ⟨w.heap.size, 3, none⟩ = some (.int .u64 a) ∧ W.cell? ⟨w.heap.size, 4, none⟩ = some (.int .u64 b) := by
      rw [← hW]; refine ⟨?_, ?_⟩ <;> rw [World.cell?_alloc_at _ _ _ _ rfl] <;> rfl
    obtain ⟨a0, a1⟩ := hc0
    have HF := hid hf0
    clear hW hf0 c0 c1 c2 c3 c4
    go_region_held3 (fun w' => w'.cell? ⟨w.heap.size, 3, none⟩ = some (.int .u64 a) ∧ w'.cell? ⟨w.heap.size, 4, none⟩ = some (.int .u64 b))
      (first | go_keep)
      ((first
        | (go_at_call_of 33 (Value.int IntKind.u64 (a : Int)); refine (HD1.out _).mono ?_; rintro e w1 ⟨rfl, hf1⟩; have b0 := hf1.cell a0; have b1 := hf1.cell a1)
        | (go_at_call_of 33 (Value.int IntKind.u64 (b : Int)); refine (HD2.out _).mono ?_; rintro e w2 ⟨rfl, hf2⟩; have y0 := hf2.cell b0; have y1 := hf2.cell b1)))
    go_wp2_with fail
    go_ret
    refine ⟨congrArg Ending.returned ?_, ((HF.out.trans (Fr.drew (Fr.refl _))).trans hf1).trans hf2⟩
    show Value.string ((⟨[60].toArray⟩ : ByteArray) ++ ⟨d1.toArray⟩ ++ ⟨[46, 46].toArray⟩ ++ ⟨d2.toArray⟩ ++ ⟨[62].toArray⟩) = _
    simp only [b_add]
    simp [S]
end Go.Proofs.YtjepodlalcnecaaDoor
namespace Go.Proofs.YtjepodlalcnecaaDoor
open Go.RowKit Go.Fk
set_option maxRecDepth 100000 in
set_option maxHeartbeats 8000000 in
theorem RShow_join5 (n : Int) (word : List UInt8) (fa fb : UInt64) (ps : List (List Stp)) (hr : rightB ⟨5, n, word, fa, fb⟩ = true) (hn : (ps.length : Int) = takesZ ⟨5, n, word, fa, fb⟩) (hp : ∀ p ∈ ps, IsQ p) (hlen : ps.flatten.length ≤ 1000)
    (IH : ∀ p ∈ ps, ∀ v W, See W eT v p → Calls Tryd.prog 19 #[v] W fun e w' => e = .returned (S (shQ p).1) ∧ Fr W w') (v : Value) (w : World) (hs : See w eT v (ps.flatten ++ [⟨5, n, word, fa, fb⟩])) :
    Calls Tryd.prog 19 #[v] w fun e w' => e = .returned (S (showT ⟨5, n, word, fa, fb⟩ (ps.map shQ))) ∧ Fr w w' := by
  have HPT : Hid (∀ W, Fr w W → Calls Tryd.prog 34 #[v] W fun e w' => ∃ v' hs, e = .returned v' ∧ Sees2 w' eH eT v' hs ps ∧ Fr W w') := fun W hf => Parts_any v _ ps W hr hn hp hlen (hs.fr hf)
  have hm1 : ps.length = 1 := by have : takesZ ⟨5, n, word, fa, fb⟩ = 1 := rfl; omega
  have HE : Hid (showT ⟨5, n, word, fa, fb⟩ (ps.map shQ) = 33 :: acc 5 ps ps.length) := show_not n word fa fb ps hm1
  have hcnt := flat_count ps hp
  have HAL : Hid (∀ k, (acc 5 ps k).length ≤ 49000) := fun k => by have := acc_len dec_le 5 ps hp k; omega
  have HTL : Hid (∀ p ∈ ps, (shQ p).1.length ≤ 49000) := fun p hm => by have := sh_len dec_le p (hp p hm); have := flat_mem ps p hm; omega
  have HPS := hid hp
  have HIH := hid IH
  obtain ⟨b, off, cap, hv, c0, c1, c2, c3, c4⟩ := stpAt hs ps.flatten.length (by rw [List.length_append]; show _ < _ + 1; omega)
  have hlast : (ps.flatten ++ [(⟨5, n, word, fa, fb⟩ : Stp)])[ps.flatten.length]'(by rw [List.length_append]; show _ < _ + 1; omega) = ⟨5, n, word, fa, fb⟩ := by simp
  rw [hlast] at c0 c1 c2 c3 c4
  rw [show (ps.flatten ++ [(⟨5, n, word, fa, fb⟩ : Stp)]).length = ps.flatten.length + 1 from List.length_append] at hv
  subst hv
  simp only at c0 c1 c2 c3 c4
  have HFM : Hid (∀ p ∈ ps, p.length ≤ 1000) := fun p hm => by have := flat_mem ps p hm; omega
  clear hlast hp IH hr hn hs
  generalize ps.flatten.length = L at *
  have i1 : (0 : Int) ≤ L := by omega
  have i2 : (L : Int) < L + 1 := by omega
  go_enter Tryd.func19, Tryd.ntmps19
  go_wp2_with fail
  refine (HPT.out _ ((Fr.refl w).alloc _)).mono ?_
  rintro e w1 ⟨pv, hd, rfl, hsee, hf1⟩
  obtain ⟨x0, x1, x2, x3, x4, xs⟩ := five_cells hf1
  have hf01 : Fr w w1 := ((Fr.refl w).alloc _).trans hf1
  obtain ⟨pa, pc, hpv, _⟩ := hsee.1.shape
  subst hpv
  have hhl := hsee.2.1
  clear c0 c1 c2 c3 c4 x1 x2 x3 x4 hf1
  rw [hhl]
  go_wp2_with fail
  go_loopw [5, 6] (fun ov iv wr => ∃ k : Nat, k ≤ ps.length ∧ iv = N k ∧ ov = S (acc 5 ps k) ∧ Fr w1 wr) (fun _ iv _ => ps.length - (intOf iv).toNat)
  case atStart => exact ⟨0, Nat.zero_le _, rfl, by rw [acc_zero], Fr.refl w1⟩
  case round =>
    obtain ⟨k, hk, rfl, rfl, hf⟩ := hrel
    have y0 := hf.cell x0
    by_cases hlt : k < ps.length
    · have hsee2 := hsee.fr hf
      obtain ⟨bb, off2, cap', hv3, e0⟩ := hsee2.1.cell1 (fun (h : Hd) => h.v) rfl k (by rw [hhl]; exact hlt)
      have hsp := hsee2.2.2 k (by rw [hhl]; exact hlt) hlt
      have hmem : ps[k] ∈ ps := List.getElem_mem hlt
      have hshow := HIH.out _ hmem
      have htl := HTL.out _ hmem
      have hol := HAL.out k
      have hfm := HFM.out _ hmem
      obtain ⟨p', s', hp', hop'⟩ := sh_op _ (HPS.out _ hmem)
      obtain rfl : k = 0 := by omega
      have HA : Hid (acc 5 ps 1 = within 5 (shQ ps[0])) := acc_one 5 ps hlt
      have hhk : hd[0]'(by rw [hhl]; exact hlt) = hd[0]'(by rw [hhl]; exact hlt) := rfl
      generalize hd[0]'(by rw [hhl]; exact hlt) = h at *
      generalize ps[0] = p at *
      obtain ⟨ha, hn2, hcc⟩ := h
      simp only [Hd.v] at e0 hsp
      obtain ⟨b3, off3, cap3, hv4, f0, hrest⟩ := stpAt hsp p'.length (by rw [hp', List.length_append]; show _ < _ + 1; omega)
      clear hrest
      have hl3 : p[p'.length]'(by rw [hp', List.length_append]; show _ < _ + 1; omega) = s' := by subst hp'; simp
      rw [hl3, ← hop'] at f0
      have hpl : p.length = p'.length + 1 := by rw [hp', List.length_append]; rfl
      rw [hpl] at hv4
      have hwP : IntKind.i64.wrap (p'.length : Int) = p'.length := IntWalk.i64_in _ (by omega)
      simp only [Value.slice.injEq] at hv4
      obtain ⟨rfl, rfl, rfl⟩ := hv4
      rw [hhl] at hv3
      cases hv3
      have i3 : (0 : Int) ≤ p'.length := by omega
      have i4 : (p'.length : Int) < (p'.length : Int) + 1 := by omega
      have i5 : (0 : Int) ≤ 0 := by omega
      have i6 : (0 : Int) < ps.length := by omega
      have HSH := hid hshow
      clear hfm hshow hl3 hop' hp' hpl hmem hhk
      generalize p'.length = P at *
      have HW0 : ∀ op : Int, within op (shQ p) = if (shQ p).2 = 7 ∨ (shQ p).2 = 6 ∧ op ≠ 7 then 40 :: ((shQ p).1 ++ [41]) else (shQ p).1 := fun _ => rfl
      have HW := hid (HW0 5)
      clear HW0
      generalize within 5 (shQ p) = X at *
      generalize (shQ p).1 = t at *
      generalize (shQ p).2 = c at *
      generalize hacc : acc 5 ps 0 = oo at *
      obtain rfl : oo = [] := by rw [← hacc]; exact acc_zero 5 ps
      clear hacc
      rw [Nat.add_zero] at e0
      by_cases h7 : c = 7
      · subst h7
        have HX : Hid (X = 40 :: (t ++ [41])) := by show _ = _; rw [HW.out, if_pos (by simp [*])]
        clear HW
        have m0 : ¬ 9223372036854775807 < 1 + t.length := by omega
        have n0 : 1 + t.length ≤ 9223372036854775807 := by omega
        have m1 : ¬ 9223372036854775807 < 1 + t.length + 1 := by omega
        have n1 : 1 + t.length + 1 ≤ 9223372036854775807 := by omega
        have m9 : ¬ 9223372036854775807 < t.length := by omega
        have n9 : t.length ≤ 9223372036854775807 := by omega
        clear htl hol
        go_wp2_with fail
        refine (HSH.out _ _ hsp).mono ?_
        rintro e w2 ⟨rfl, hf2⟩
        have e02 := hf2.cell e0
        have f02 := hf2.cell f0
        have z0 := hf2.cell y0
        clear e0 f0 y0
        go_wp2_with fail
        go_quiet (fail)
        go_wp2_with fail
        go_roundw
        case rel =>
          refine ⟨0 + 1, by omega, by go_num, ?_, (hf.trans hf2).drewN _⟩
          rw [HA.out, HX.out]
          show Value.string ((⟨[].toArray⟩ : ByteArray) ++ ((⟨[40].toArray⟩ : ByteArray) ++ ⟨t.toArray⟩ ++ ⟨[41].toArray⟩)) = _
          simp only [b_add]
          simp [S]
        case measure => simp [intOf]; omega
      · have h7b : (c == 7) = false := by simp [h7]
        by_cases h6 : c = 6
        · subst h6
          have HX : Hid (X = 40 :: (t ++ [41])) := by show _ = _; rw [HW.out, if_pos (by simp [*])]
          clear HW
          have m0 : ¬ 9223372036854775807 < 1 + t.length := by omega
          have n0 : 1 + t.length ≤ 9223372036854775807 := by omega
          have m1 : ¬ 9223372036854775807 < 1 + t.length + 1 := by omega
          have n1 : 1 + t.length + 1 ≤ 9223372036854775807 := by omega
          have m9 : ¬ 9223372036854775807 < t.length := by omega
          have n9 : t.length ≤ 9223372036854775807 := by omega
          clear htl hol
          go_wp2_with fail
          refine (HSH.out _ _ hsp).mono ?_
          rintro e w2 ⟨rfl, hf2⟩
          have e02 := hf2.cell e0
          have f02 := hf2.cell f0
          have z0 := hf2.cell y0
          clear e0 f0 y0
          go_wp2_with fail
          go_quiet (fail)
          go_wp2_with fail
          go_roundw
          case rel =>
            refine ⟨0 + 1, by omega, by go_num, ?_, (hf.trans hf2).drewN _⟩
            rw [HA.out, HX.out]
            show Value.string ((⟨[].toArray⟩ : ByteArray) ++ ((⟨[40].toArray⟩ : ByteArray) ++ ⟨t.toArray⟩ ++ ⟨[41].toArray⟩)) = _
            simp only [b_add]
            simp [S]
          case measure => simp [intOf]; omega
        · have h6b : (c == 6) = false := by simp [h6]
          have HX : Hid (X = t) := by show _ = _; rw [HW.out, if_neg (by simp [*])]
          clear HW
          have m9 : ¬ 9223372036854775807 < t.length := by omega
          have n9 : t.length ≤ 9223372036854775807 := by omega
          clear htl hol
          go_wp2_with fail
          refine (HSH.out _ _ hsp).mono ?_
          rintro e w2 ⟨rfl, hf2⟩
          have e02 := hf2.cell e0
          have f02 := hf2.cell f0
          have z0 := hf2.cell y0
          clear e0 f0 y0
          go_wp2_with fail
          go_quiet (fail)
          go_wp2_with fail
          go_roundw
          case rel =>
            refine ⟨0 + 1, by omega, by go_num, ?_, (hf.trans hf2).drewN _⟩
            rw [HA.out, HX.out]
            show Value.string ((⟨[].toArray⟩ : ByteArray) ++ ((⟨t.toArray⟩ : ByteArray))) = _
            simp only [b_add]
            simp [S]
          case measure => simp [intOf]; omega
    · obtain rfl : k = ps.length := by omega
      have hnl : ¬ ((ps.length : Int) < ps.length) := by omega
      have hal := HAL.out ps.length
      generalize acc 5 ps ps.length = oo at *
      have l1 : ¬ 9223372036854775807 < 1 + oo.length := by omega
      have l2 : 1 + oo.length ≤ 9223372036854775807 := by omega
      clear hal
      go_wp2_with fail
      go_ret
      refine ⟨congrArg Ending.returned ?_, hf01.trans hf⟩
      rw [HE.out]
      show Value.string ((⟨[33].toArray⟩ : ByteArray) ++ ⟨oo.toArray⟩) = _
      rw [b_add]; rfl
set_option maxRecDepth 100000 in
set_option maxHeartbeats 8000000 in
theorem RShow_join6 (n : Int) (word : List UInt8) (fa fb : UInt64) (ps : List (List Stp)) (hr : rightB ⟨6, n, word, fa, fb⟩ = true) (hn : (ps.length : Int) = takesZ ⟨6, n, word, fa, fb⟩) (hp : ∀ p ∈ ps, IsQ p) (hlen : ps.flatten.length ≤ 1000)
    (IH : ∀ p ∈ ps, ∀ v W, See W eT v p → Calls Tryd.prog 19 #[v] W fun e w' => e = .returned (S (shQ p).1) ∧ Fr W w') (v : Value) (w : World) (hs : See w eT v (ps.flatten ++ [⟨6, n, word, fa, fb⟩])) :
    Calls Tryd.prog 19 #[v] w fun e w' => e = .returned (S (showT ⟨6, n, word, fa, fb⟩ (ps.map shQ))) ∧ Fr w w' := by
  have HPT : Hid (∀ W, Fr w W → Calls Tryd.prog 34 #[v] W fun e w' => ∃ v' hs, e = .returned v' ∧ Sees2 w' eH eT v' hs ps ∧ Fr W w') := fun W hf => Parts_any v _ ps W hr hn hp hlen (hs.fr hf)
  have HE : Hid (showT ⟨6, n, word, fa, fb⟩ (ps.map shQ) = acc 6 ps ps.length) := show_join 6 n word fa fb ps (by omega)
  have hcnt := flat_count ps hp
  have HAL : Hid (∀ k, (acc 6 ps k).length ≤ 49000) := fun k => by have := acc_len dec_le 6 ps hp k; omega
  have HTL : Hid (∀ p ∈ ps, (shQ p).1.length ≤ 49000) := fun p hm => by have := sh_len dec_le p (hp p hm); have := flat_mem ps p hm; omega
  have HPS := hid hp
  have HIH := hid IH
  obtain ⟨b, off, cap, hv, c0, c1, c2, c3, c4⟩ := stpAt hs ps.flatten.length (by rw [List.length_append]; show _ < _ + 1; omega)
  have hlast : (ps.flatten ++ [(⟨6, n, word, fa, fb⟩ : Stp)])[ps.flatten.length]'(by rw [List.length_append]; show _ < _ + 1; omega) = ⟨6, n, word, fa, fb⟩ := by simp
  rw [hlast] at c0 c1 c2 c3 c4
  rw [show (ps.flatten ++ [(⟨6, n, word, fa, fb⟩ : Stp)]).length = ps.flatten.length + 1 from List.length_append] at hv
  subst hv
  simp only at c0 c1 c2 c3 c4
  have HFM : Hid (∀ p ∈ ps, p.length ≤ 1000) := fun p hm => by have := flat_mem ps p hm; omega
  clear hlast hp IH hr hn hs
  generalize ps.flatten.length = L at *
  have i1 : (0 : Int) ≤ L := by omega
  have i2 : (L : Int) < L + 1 := by omega
  go_enter Tryd.func19, Tryd.ntmps19
  go_wp2_with fail
  refine (HPT.out _ ((Fr.refl w).alloc _)).mono ?_
  rintro e w1 ⟨pv, hd, rfl, hsee, hf1⟩
  obtain ⟨x0, x1, x2, x3, x4, xs⟩ := five_cells hf1
  have hf01 : Fr w w1 := ((Fr.refl w).alloc _).trans hf1
  obtain ⟨pa, pc, hpv, _⟩ := hsee.1.shape
  subst hpv
  have hhl := hsee.2.1
  clear c0 c1 c2 c3 c4 x1 x2 x3 x4 hf1
  rw [hhl]
  go_wp2_with fail
  go_loopw [5, 6] (fun ov iv wr => ∃ k : Nat, k ≤ ps.length ∧ iv = N k ∧ ov = S (acc 6 ps k) ∧ Fr w1 wr) (fun _ iv _ => ps.length - (intOf iv).toNat)
  case atStart => exact ⟨0, Nat.zero_le _, rfl, by rw [acc_zero], Fr.refl w1⟩
  case round =>
    obtain ⟨k, hk, rfl, rfl, hf⟩ := hrel
    have y0 := hf.cell x0
    by_cases hlt : k < ps.length
    · have hsee2 := hsee.fr hf
      obtain ⟨bb, off2, cap', hv3, e0⟩ := hsee2.1.cell1 (fun (h : Hd) => h.v) rfl k (by rw [hhl]; exact hlt)
      have hsp := hsee2.2.2 k (by rw [hhl]; exact hlt) hlt
      have hmem : ps[k] ∈ ps := List.getElem_mem hlt
      have hshow := HIH.out _ hmem
      have htl := HTL.out _ hmem
      have hol := HAL.out k
      have hfm := HFM.out _ hmem
      obtain ⟨p', s', hp', hop'⟩ := sh_op _ (HPS.out _ hmem)
      have HA : Hid (k = 0 → acc 6 ps (k + 1) = within 6 (shQ ps[k])) := by intro h; subst h; exact acc_one 6 ps hlt
      have HA2 : Hid (0 < k → acc 6 ps (k + 1) = acc 6 ps k ++ (sepO 6 ++ within 6 (shQ ps[k]))) := acc_succ 6 ps k hlt
      have hhk : hd[k]'(by rw [hhl]; exact hlt) = hd[k]'(by rw [hhl]; exact hlt) := rfl
      generalize hd[k]'(by rw [hhl]; exact hlt) = h at *
      generalize ps[k] = p at *
      obtain ⟨ha, hn2, hcc⟩ := h
      simp only [Hd.v] at e0 hsp
      obtain ⟨b3, off3, cap3, hv4, f0, hrest⟩ := stpAt hsp p'.length (by rw [hp', List.length_append]; show _ < _ + 1; omega)
      clear hrest
      have hl3 : p[p'.length]'(by rw [hp', List.length_append]; show _ < _ + 1; omega) = s' := by subst hp'; simp
      rw [hl3, ← hop'] at f0
      have hpl : p.length = p'.length + 1 := by rw [hp', List.length_append]; rfl
      rw [hpl] at hv4
      have hwP : IntKind.i64.wrap (p'.length : Int) = p'.length := IntWalk.i64_in _ (by omega)
      simp only [Value.slice.injEq] at hv4
      obtain ⟨rfl, rfl, rfl⟩ := hv4
      rw [hhl] at hv3
      cases hv3
      have i3 : (0 : Int) ≤ p'.length := by omega
      have i4 : (p'.length : Int) < (p'.length : Int) + 1 := by omega
      have i5 : (0 : Int) ≤ k := by omega
      have i6 : (k : Int) < ps.length := by omega
      have HSH := hid hshow
      clear hfm hshow hl3 hop' hp' hpl hmem hhk
      generalize p'.length = P at *
      have HW0 : ∀ op : Int, within op (shQ p) = if (shQ p).2 = 7 ∨ (shQ p).2 = 6 ∧ op ≠ 7 then 40 :: ((shQ p).1 ++ [41]) else (shQ p).1 := fun _ => rfl
      have HW := hid (HW0 6)
      clear HW0
      generalize within 6 (shQ p) = X at *
      generalize (shQ p).1 = t at *
      generalize (shQ p).2 = c at *
      generalize hacc : acc 6 ps k = oo at *
      rcases Nat.eq_zero_or_pos k with hk0 | hk0
      · subst hk0
        obtain rfl : oo = [] := by rw [← hacc]; exact acc_zero 6 ps
        clear hacc
        rw [Nat.add_zero] at e0
        by_cases h7 : c = 7
        · subst h7
          have HX : Hid (X = 40 :: (t ++ [41])) := by show _ = _; rw [HW.out, if_pos (by simp [*])]
          clear HW
          have m0 : ¬ 9223372036854775807 < 1 + t.length := by omega
          have n0 : 1 + t.length ≤ 9223372036854775807 := by omega
          have m1 : ¬ 9223372036854775807 < 1 + t.length + 1 := by omega
          have n1 : 1 + t.length + 1 ≤ 9223372036854775807 := by omega
          have m9 : ¬ 9223372036854775807 < t.length := by omega
          have n9 : t.length ≤ 9223372036854775807 := by omega
          clear htl hol
          go_wp2_with fail
          refine (HSH.out _ _ hsp).mono ?_
          rintro e w2 ⟨rfl, hf2⟩
          have e02 := hf2.cell e0
          have f02 := hf2.cell f0
          have z0 := hf2.cell y0
          clear e0 f0 y0
          go_wp2_with fail
          go_quiet (fail)
          go_wp2_with fail
          go_roundw
          case rel =>
            refine ⟨0 + 1, by omega, by go_num, ?_, (hf.trans hf2).drewN _⟩
            rw [HA.out (by trivial), HX.out]
            show Value.string ((⟨[].toArray⟩ : ByteArray) ++ ((⟨[40].toArray⟩ : ByteArray) ++ ⟨t.toArray⟩ ++ ⟨[41].toArray⟩)) = _
            simp only [b_add]
            simp [S]
          case measure => simp [intOf]; omega
        · have h7b : (c == 7) = false := by simp [h7]
          by_cases h6 : c = 6
          · subst h6
            have HX : Hid (X = 40 :: (t ++ [41])) := by show _ = _; rw [HW.out, if_pos (by simp [*])]
            clear HW
            have m0 : ¬ 9223372036854775807 < 1 + t.length := by omega
            have n0 : 1 + t.length ≤ 9223372036854775807 := by omega
            have m1 : ¬ 9223372036854775807 < 1 + t.length + 1 := by omega
            have n1 : 1 + t.length + 1 ≤ 9223372036854775807 := by omega
            have m9 : ¬ 9223372036854775807 < t.length := by omega
            have n9 : t.length ≤ 9223372036854775807 := by omega
            clear htl hol
            go_wp2_with fail
            refine (HSH.out _ _ hsp).mono ?_
            rintro e w2 ⟨rfl, hf2⟩
            have e02 := hf2.cell e0
            have f02 := hf2.cell f0
            have z0 := hf2.cell y0
            clear e0 f0 y0
            go_wp2_with fail
            go_quiet (fail)
            go_wp2_with fail
            go_roundw
            case rel =>
              refine ⟨0 + 1, by omega, by go_num, ?_, (hf.trans hf2).drewN _⟩
              rw [HA.out (by trivial), HX.out]
              show Value.string ((⟨[].toArray⟩ : ByteArray) ++ ((⟨[40].toArray⟩ : ByteArray) ++ ⟨t.toArray⟩ ++ ⟨[41].toArray⟩)) = _
              simp only [b_add]
              simp [S]
            case measure => simp [intOf]; omega
          · have h6b : (c == 6) = false := by simp [h6]
            have HX : Hid (X = t) := by show _ = _; rw [HW.out, if_neg (by simp [*])]
            clear HW
            have m9 : ¬ 9223372036854775807 < t.length := by omega
            have n9 : t.length ≤ 9223372036854775807 := by omega
            clear htl hol
            go_wp2_with fail
            refine (HSH.out _ _ hsp).mono ?_
            rintro e w2 ⟨rfl, hf2⟩
            have e02 := hf2.cell e0
            have f02 := hf2.cell f0
            have z0 := hf2.cell y0
            clear e0 f0 y0
            go_wp2_with fail
            go_quiet (fail)
            go_wp2_with fail
            go_roundw
            case rel =>
              refine ⟨0 + 1, by omega, by go_num, ?_, (hf.trans hf2).drewN _⟩
              rw [HA.out (by trivial), HX.out]
              show Value.string ((⟨[].toArray⟩ : ByteArray) ++ ((⟨t.toArray⟩ : ByteArray))) = _
              simp only [b_add]
              simp [S]
            case measure => simp [intOf]; omega
      · have hk1 : (0 : Int) < k := by omega
        clear hacc
        by_cases h7 : c = 7
        · subst h7
          have HX : Hid (X = 40 :: (t ++ [41])) := by show _ = _; rw [HW.out, if_pos (by simp [*])]
          clear HW
          have m0 : ¬ 9223372036854775807 < 1 + t.length := by omega
          have n0 : 1 + t.length ≤ 9223372036854775807 := by omega
          have m1 : ¬ 9223372036854775807 < 1 + t.length + 1 := by omega
          have n1 : 1 + t.length + 1 ≤ 9223372036854775807 := by omega
          have m2 : ¬ 9223372036854775807 < oo.length + 3 := by omega
          have n2 : oo.length + 3 ≤ 9223372036854775807 := by omega
          have m3 : ¬ 9223372036854775807 < oo.length + 3 + (1 + t.length + 1) := by omega
          have n3 : oo.length + 3 + (1 + t.length + 1) ≤ 9223372036854775807 := by omega
          clear htl hol
          go_wp2_with fail
          refine (HSH.out _ _ hsp).mono ?_
          rintro e w2 ⟨rfl, hf2⟩
          have e02 := hf2.cell e0
          have f02 := hf2.cell f0
          have z0 := hf2.cell y0
          clear e0 f0 y0
          go_wp2_with fail
          go_quiet (fail)
          go_wp2_with fail
          go_roundw
          case rel =>
            refine ⟨k + 1, by omega, by go_num, ?_, (hf.trans hf2).drewN _⟩
            rw [HA2.out hk0, HX.out]
            show Value.string ((⟨oo.toArray⟩ : ByteArray) ++ ⟨[32, 38, 32].toArray⟩ ++ ((⟨[40].toArray⟩ : ByteArray) ++ ⟨t.toArray⟩ ++ ⟨[41].toArray⟩)) = _
            simp only [b_add]
            simp [S, sepO]
          case measure => simp [intOf]; omega
        · have h7b : (c == 7) = false := by simp [h7]
          by_cases h6 : c = 6
          · subst h6
            have HX : Hid (X = 40 :: (t ++ [41])) := by show _ = _; rw [HW.out, if_pos (by simp [*])]
            clear HW
            have m0 : ¬ 9223372036854775807 < 1 + t.length := by omega
            have n0 : 1 + t.length ≤ 9223372036854775807 := by omega
            have m1 : ¬ 9223372036854775807 < 1 + t.length + 1 := by omega
            have n1 : 1 + t.length + 1 ≤ 9223372036854775807 := by omega
            have m2 : ¬ 9223372036854775807 < oo.length + 3 := by omega
            have n2 : oo.length + 3 ≤ 9223372036854775807 := by omega
            have m3 : ¬ 9223372036854775807 < oo.length + 3 + (1 + t.length + 1) := by omega
            have n3 : oo.length + 3 + (1 + t.length + 1) ≤ 9223372036854775807 := by omega
            clear htl hol
            go_wp2_with fail
            refine (HSH.out _ _ hsp).mono ?_
            rintro e w2 ⟨rfl, hf2⟩
            have e02 := hf2.cell e0
            have f02 := hf2.cell f0
            have z0 := hf2.cell y0
            clear e0 f0 y0
            go_wp2_with fail
            go_quiet (fail)
            go_wp2_with fail
            go_roundw
            case rel =>
              refine ⟨k + 1, by omega, by go_num, ?_, (hf.trans hf2).drewN _⟩
              rw [HA2.out hk0, HX.out]
              show Value.string ((⟨oo.toArray⟩ : ByteArray) ++ ⟨[32, 38, 32].toArray⟩ ++ ((⟨[40].toArray⟩ : ByteArray) ++ ⟨t.toArray⟩ ++ ⟨[41].toArray⟩)) = _
              simp only [b_add]
              simp [S, sepO]
            case measure => simp [intOf]; omega
          · have h6b : (c == 6) = false := by simp [h6]
            have HX : Hid (X = t) := by show _ = _; rw [HW.out, if_neg (by simp [*])]
            clear HW
            have m0 : ¬ 9223372036854775807 < oo.length + 3 := by omega
            have n0 : oo.length + 3 ≤ 9223372036854775807 := by omega
            have m1 : ¬ 9223372036854775807 < oo.length + 3 + t.length := by omega
            have n1 : oo.length + 3 + t.length ≤ 9223372036854775807 := by omega
            clear htl hol
            go_wp2_with fail
            refine (HSH.out _ _ hsp).mono ?_
            rintro e w2 ⟨rfl, hf2⟩
            have e02 := hf2.cell e0
            have f02 := hf2.cell f0
            have z0 := hf2.cell y0
            clear e0 f0 y0
            go_wp2_with fail
            go_quiet (fail)
            go_wp2_with fail
            go_roundw
            case rel =>
              refine ⟨k + 1, by omega, by go_num, ?_, (hf.trans hf2).drewN _⟩
              rw [HA2.out hk0, HX.out]
              show Value.string ((⟨oo.toArray⟩ : ByteArray) ++ ⟨[32, 38, 32].toArray⟩ ++ ((⟨t.toArray⟩ : ByteArray))) = _
              simp only [b_add]
              simp [S, sepO]
            case measure => simp [intOf]; omega
    · obtain rfl : k = ps.length := by omega
      have hnl : ¬ ((ps.length : Int) < ps.length) := by omega
      have hal := HAL.out ps.length
      generalize acc 6 ps ps.length = oo at *
      have l1 : ¬ 9223372036854775807 < 1 + oo.length := by omega
      have l2 : 1 + oo.length ≤ 9223372036854775807 := by omega
      clear hal
      go_wp2_with fail
      go_ret
      exact ⟨by rw [HE.out]; rfl, hf01.trans hf⟩
set_option maxRecDepth 100000 in
set_option maxHeartbeats 8000000 in
theorem RShow_join7 (n : Int) (word : List UInt8) (fa fb : UInt64) (ps : List (List Stp)) (hr : rightB ⟨7, n, word, fa, fb⟩ = true) (hn : (ps.length : Int) = takesZ ⟨7, n, word, fa, fb⟩) (hp : ∀ p ∈ ps, IsQ p) (hlen : ps.flatten.length ≤ 1000)
    (IH : ∀ p ∈ ps, ∀ v W, See W eT v p → Calls Tryd.prog 19 #[v] W fun e w' => e = .returned (S (shQ p).1) ∧ Fr W w') (v : Value) (w : World) (hs : See w eT v (ps.flatten ++ [⟨7, n, word, fa, fb⟩])) :
    Calls Tryd.prog 19 #[v] w fun e w' => e = .returned (S (showT ⟨7, n, word, fa, fb⟩ (ps.map shQ))) ∧ Fr w w' := by
  have HPT : Hid (∀ W, Fr w W → Calls Tryd.prog 34 #[v] W fun e w' => ∃ v' hs, e = .returned v' ∧ Sees2 w' eH eT v' hs ps ∧ Fr W w') := fun W hf => Parts_any v _ ps W hr hn hp hlen (hs.fr hf)
  have HE : Hid (showT ⟨7, n, word, fa, fb⟩ (ps.map shQ) = acc 7 ps ps.length) := show_join 7 n word fa fb ps (by omega)
  have hcnt := flat_count ps hp
  have HAL : Hid (∀ k, (acc 7 ps k).length ≤ 49000) := fun k => by have := acc_len dec_le 7 ps hp k; omega
  have HTL : Hid (∀ p ∈ ps, (shQ p).1.length ≤ 49000) := fun p hm => by have := sh_len dec_le p (hp p hm); have := flat_mem ps p hm; omega
  have HPS := hid hp
  have HIH := hid IH
  obtain ⟨b, off, cap, hv, c0, c1, c2, c3, c4⟩ := stpAt hs ps.flatten.length (by rw [List.length_append]; show _ < _ + 1; omega)
  have hlast : (ps.flatten ++ [(⟨7, n, word, fa, fb⟩ : Stp)])[ps.flatten.length]'(by rw [List.length_append]; show _ < _ + 1; omega) = ⟨7, n, word, fa, fb⟩ := by simp
  rw [hlast] at c0 c1 c2 c3 c4
  rw [show (ps.flatten ++ [(⟨7, n, word, fa, fb⟩ : Stp)]).length = ps.flatten.length + 1 from List.length_append] at hv
  subst hv
  simp only at c0 c1 c2 c3 c4
  have HFM : Hid (∀ p ∈ ps, p.length ≤ 1000) := fun p hm => by have := flat_mem ps p hm; omega
  clear hlast hp IH hr hn hs
  generalize ps.flatten.length = L at *
  have i1 : (0 : Int) ≤ L := by omega
  have i2 : (L : Int) < L + 1 := by omega
  go_enter Tryd.func19, Tryd.ntmps19
  go_wp2_with fail
  refine (HPT.out _ ((Fr.refl w).alloc _)).mono ?_
  rintro e w1 ⟨pv, hd, rfl, hsee, hf1⟩
  obtain ⟨x0, x1, x2, x3, x4, xs⟩ := five_cells hf1
  have hf01 : Fr w w1 := ((Fr.refl w).alloc _).trans hf1
  obtain ⟨pa, pc, hpv, _⟩ := hsee.1.shape
  subst hpv
  have hhl := hsee.2.1
  clear c0 c1 c2 c3 c4 x1 x2 x3 x4 hf1
  rw [hhl]
  go_wp2_with fail
  go_loopw [5, 6] (fun ov iv wr => ∃ k : Nat, k ≤ ps.length ∧ iv = N k ∧ ov = S (acc 7 ps k) ∧ Fr w1 wr) (fun _ iv _ => ps.length - (intOf iv).toNat)
  case atStart => exact ⟨0, Nat.zero_le _, rfl, by rw [acc_zero], Fr.refl w1⟩
  case round =>
    obtain ⟨k, hk, rfl, rfl, hf⟩ := hrel
    have y0 := hf.cell x0
    by_cases hlt : k < ps.length
    · have hsee2 := hsee.fr hf
      obtain ⟨bb, off2, cap', hv3, e0⟩ := hsee2.1.cell1 (fun (h : Hd) => h.v) rfl k (by rw [hhl]; exact hlt)
      have hsp := hsee2.2.2 k (by rw [hhl]; exact hlt) hlt
      have hmem : ps[k] ∈ ps := List.getElem_mem hlt
      have hshow := HIH.out _ hmem
      have htl := HTL.out _ hmem
      have hol := HAL.out k
      have hfm := HFM.out _ hmem
      obtain ⟨p', s', hp', hop'⟩ := sh_op _ (HPS.out _ hmem)
      have HA : Hid (k = 0 → acc 7 ps (k + 1) = within 7 (shQ ps[k])) := by intro h; subst h; exact acc_one 7 ps hlt
      have HA2 : Hid (0 < k → acc 7 ps (k + 1) = acc 7 ps k ++ (sepO 7 ++ within 7 (shQ ps[k]))) := acc_succ 7 ps k hlt
      have hhk : hd[k]'(by rw [hhl]; exact hlt) = hd[k]'(by rw [hhl]; exact hlt) := rfl
      generalize hd[k]'(by rw [hhl]; exact hlt) = h at *
      generalize ps[k] = p at *
      obtain ⟨ha, hn2, hcc⟩ := h
      simp only [Hd.v] at e0 hsp
      obtain ⟨b3, off3, cap3, hv4, f0, hrest⟩ := stpAt hsp p'.length (by rw [hp', List.length_append]; show _ < _ + 1; omega)
      clear hrest
      have hl3 : p[p'.length]'(by rw [hp', List.length_append]; show _ < _ + 1; omega) = s' := by subst hp'; simp
      rw [hl3, ← hop'] at f0
      have hpl : p.length = p'.length + 1 := by rw [hp', List.length_append]; rfl
      rw [hpl] at hv4
      have hwP : IntKind.i64.wrap (p'.length : Int) = p'.length := IntWalk.i64_in _ (by omega)
      simp only [Value.slice.injEq] at hv4
      obtain ⟨rfl, rfl, rfl⟩ := hv4
      rw [hhl] at hv3
      cases hv3
      have i3 : (0 : Int) ≤ p'.length := by omega
      have i4 : (p'.length : Int) < (p'.length : Int) + 1 := by omega
      have i5 : (0 : Int) ≤ k := by omega
      have i6 : (k : Int) < ps.length := by omega
      have HSH := hid hshow
      clear hfm hshow hl3 hop' hp' hpl hmem hhk
      generalize p'.length = P at *
      have HW0 : ∀ op : Int, within op (shQ p) = if (shQ p).2 = 7 ∨ (shQ p).2 = 6 ∧ op ≠ 7 then 40 :: ((shQ p).1 ++ [41]) else (shQ p).1 := fun _ => rfl
      have HW := hid (HW0 7)
      clear HW0
      generalize within 7 (shQ p) = X at *
      generalize (shQ p).1 = t at *
      generalize (shQ p).2 = c at *
      generalize hacc : acc 7 ps k = oo at *
      rcases Nat.eq_zero_or_pos k with hk0 | hk0
      · subst hk0
        obtain rfl : oo = [] := by rw [← hacc]; exact acc_zero 7 ps
        clear hacc
        rw [Nat.add_zero] at e0
        by_cases h7 : c = 7
        · subst h7
          have HX : Hid (X = 40 :: (t ++ [41])) := by show _ = _; rw [HW.out, if_pos (by simp [*])]
          clear HW
          have m0 : ¬ 9223372036854775807 < 1 + t.length := by omega
          have n0 : 1 + t.length ≤ 9223372036854775807 := by omega
          have m1 : ¬ 9223372036854775807 < 1 + t.length + 1 := by omega
          have n1 : 1 + t.length + 1 ≤ 9223372036854775807 := by omega
          have m9 : ¬ 9223372036854775807 < t.length := by omega
          have n9 : t.length ≤ 9223372036854775807 := by omega
          clear htl hol
          go_wp2_with fail
          refine (HSH.out _ _ hsp).mono ?_
          rintro e w2 ⟨rfl, hf2⟩
          have e02 := hf2.cell e0
          have f02 := hf2.cell f0
          have z0 := hf2.cell y0
          clear e0 f0 y0
          go_wp2_with fail
          go_quiet (fail)
          go_wp2_with fail
          go_roundw
          case rel =>
            refine ⟨0 + 1, by omega, by go_num, ?_, (hf.trans hf2).drewN _⟩
            rw [HA.out (by trivial), HX.out]
            show Value.string ((⟨[].toArray⟩ : ByteArray) ++ ((⟨[40].toArray⟩ : ByteArray) ++ ⟨t.toArray⟩ ++ ⟨[41].toArray⟩)) = _
            simp only [b_add]
            simp [S]
          case measure => simp [intOf]; omega
        · have h7b : (c == 7) = false := by simp [h7]
          by_cases h6 : c = 6
          · subst h6
            have HX : Hid (X = t) := by show _ = _; rw [HW.out, if_neg (by simp [*])]
            clear HW
            have m9 : ¬ 9223372036854775807 < t.length := by omega
            have n9 : t.length ≤ 9223372036854775807 := by omega
            clear htl hol
            go_wp2_with fail
            refine (HSH.out _ _ hsp).mono ?_
            rintro e w2 ⟨rfl, hf2⟩
            have e02 := hf2.cell e0
            have f02 := hf2.cell f0
            have z0 := hf2.cell y0
            clear e0 f0 y0
            go_wp2_with fail
            go_quiet (fail)
            go_wp2_with fail
            go_roundw
            case rel =>
              refine ⟨0 + 1, by omega, by go_num, ?_, (hf.trans hf2).drewN _⟩
              rw [HA.out (by trivial), HX.out]
              show Value.string ((⟨[].toArray⟩ : ByteArray) ++ ((⟨t.toArray⟩ : ByteArray))) = _
              simp only [b_add]
              simp [S]
            case measure => simp [intOf]; omega
          · have h6b : (c == 6) = false := by simp [h6]
            have HX : Hid (X = t) := by show _ = _; rw [HW.out, if_neg (by simp [*])]
            clear HW
            have m9 : ¬ 9223372036854775807 < t.length := by omega
            have n9 : t.length ≤ 9223372036854775807 := by omega
            clear htl hol
            go_wp2_with fail
            refine (HSH.out _ _ hsp).mono ?_
            rintro e w2 ⟨rfl, hf2⟩
            have e02 := hf2.cell e0
            have f02 := hf2.cell f0
            have z0 := hf2.cell y0
            clear e0 f0 y0
            go_wp2_with fail
            go_quiet (fail)
            go_wp2_with fail
            go_roundw
            case rel =>
              refine ⟨0 + 1, by omega, by go_num, ?_, (hf.trans hf2).drewN _⟩
              rw [HA.out (by trivial), HX.out]
              show Value.string ((⟨[].toArray⟩ : ByteArray) ++ ((⟨t.toArray⟩ : ByteArray))) = _
              simp only [b_add]
              simp [S]
            case measure => simp [intOf]; omega
      · have hk1 : (0 : Int) < k := by omega
        clear hacc
        by_cases h7 : c = 7
        · subst h7
          have HX : Hid (X = 40 :: (t ++ [41])) := by show _ = _; rw [HW.out, if_pos (by simp [*])]
          clear HW
          have m0 : ¬ 9223372036854775807 < 1 + t.length := by omega
          have n0 : 1 + t.length ≤ 9223372036854775807 := by omega
          have m1 : ¬ 9223372036854775807 < 1 + t.length + 1 := by omega
          have n1 : 1 + t.length + 1 ≤ 9223372036854775807 := by omega
          have m2 : ¬ 9223372036854775807 < oo.length + 3 := by omega
          have n2 : oo.length + 3 ≤ 9223372036854775807 := by omega
          have m3 : ¬ 9223372036854775807 < oo.length + 3 + (1 + t.length + 1) := by omega
          have n3 : oo.length + 3 + (1 + t.length + 1) ≤ 9223372036854775807 := by omega
          clear htl hol
          go_wp2_with fail
          refine (HSH.out _ _ hsp).mono ?_
          rintro e w2 ⟨rfl, hf2⟩
          have e02 := hf2.cell e0
          have f02 := hf2.cell f0
          have z0 := hf2.cell y0
          clear e0 f0 y0
          go_wp2_with fail
          go_quiet (fail)
          go_wp2_with fail
          go_roundw
          case rel =>
            refine ⟨k + 1, by omega, by go_num, ?_, (hf.trans hf2).drewN _⟩
            rw [HA2.out hk0, HX.out]
            show Value.string ((⟨oo.toArray⟩ : ByteArray) ++ ⟨[32, 124, 32].toArray⟩ ++ ((⟨[40].toArray⟩ : ByteArray) ++ ⟨t.toArray⟩ ++ ⟨[41].toArray⟩)) = _
            simp only [b_add]
            simp [S, sepO]
          case measure => simp [intOf]; omega
        · have h7b : (c == 7) = false := by simp [h7]
          by_cases h6 : c = 6
          · subst h6
            have HX : Hid (X = t) := by show _ = _; rw [HW.out, if_neg (by simp [*])]
            clear HW
            have m0 : ¬ 9223372036854775807 < oo.length + 3 := by omega
            have n0 : oo.length + 3 ≤ 9223372036854775807 := by omega
            have m1 : ¬ 9223372036854775807 < oo.length + 3 + t.length := by omega
            have n1 : oo.length + 3 + t.length ≤ 9223372036854775807 := by omega
            clear htl hol
            go_wp2_with fail
            refine (HSH.out _ _ hsp).mono ?_
            rintro e w2 ⟨rfl, hf2⟩
            have e02 := hf2.cell e0
            have f02 := hf2.cell f0
            have z0 := hf2.cell y0
            clear e0 f0 y0
            go_wp2_with fail
            go_quiet (fail)
            go_wp2_with fail
            go_roundw
            case rel =>
              refine ⟨k + 1, by omega, by go_num, ?_, (hf.trans hf2).drewN _⟩
              rw [HA2.out hk0, HX.out]
              show Value.string ((⟨oo.toArray⟩ : ByteArray) ++ ⟨[32, 124, 32].toArray⟩ ++ ((⟨t.toArray⟩ : ByteArray))) = _
              simp only [b_add]
              simp [S, sepO]
            case measure => simp [intOf]; omega
          · have h6b : (c == 6) = false := by simp [h6]
            have HX : Hid (X = t) := by show _ = _; rw [HW.out, if_neg (by simp [*])]
            clear HW
            have m0 : ¬ 9223372036854775807 < oo.length + 3 := by omega
            have n0 : oo.length + 3 ≤ 9223372036854775807 := by omega
            have m1 : ¬ 9223372036854775807 < oo.length + 3 + t.length := by omega
            have n1 : oo.length + 3 + t.length ≤ 9223372036854775807 := by omega
            clear htl hol
            go_wp2_with fail
            refine (HSH.out _ _ hsp).mono ?_
            rintro e w2 ⟨rfl, hf2⟩
            have e02 := hf2.cell e0
            have f02 := hf2.cell f0
            have z0 := hf2.cell y0
            clear e0 f0 y0
            go_wp2_with fail
            go_quiet (fail)
            go_wp2_with fail
            go_roundw
            case rel =>
              refine ⟨k + 1, by omega, by go_num, ?_, (hf.trans hf2).drewN _⟩
              rw [HA2.out hk0, HX.out]
              show Value.string ((⟨oo.toArray⟩ : ByteArray) ++ ⟨[32, 124, 32].toArray⟩ ++ ((⟨t.toArray⟩ : ByteArray))) = _
              simp only [b_add]
              simp [S, sepO]
            case measure => simp [intOf]; omega
    · obtain rfl : k = ps.length := by omega
      have hnl : ¬ ((ps.length : Int) < ps.length) := by omega
      have hal := HAL.out ps.length
      generalize acc 7 ps ps.length = oo at *
      have l1 : ¬ 9223372036854775807 < 1 + oo.length := by omega
      have l2 : 1 + oo.length ≤ 9223372036854775807 := by omega
      clear hal
      go_wp2_with fail
      go_ret
      exact ⟨by rw [HE.out]; rfl, hf01.trans hf⟩
end Go.Proofs.YtjepodlalcnecaaDoor
