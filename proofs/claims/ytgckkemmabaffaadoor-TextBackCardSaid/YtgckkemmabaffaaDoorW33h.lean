/- Walks of text: quoted. -/
import Derived.Test.YtgckkemmabaffaaDoorW33g
import Derived.WalkMore
import Derived.Deep.LoopGhost
set_option linter.unusedVariables false
namespace Go.Proofs.YtgckkemmabaffaaDoor
open Go.RowKit Go.Fk
/-- the text found from a place on, and the bytes to its end -/
def scanFrom (s : List UInt8) (i : Nat) : Option (List UInt8 × Nat) := scan (s.drop i)
theorem scanFrom_end (s : List UInt8) (i : Nat) (h : s.length ≤ i) : scanFrom s i = none := by
  unfold scanFrom; rw [List.drop_eq_nil_of_le h]; simp [scan]
theorem scanFrom_close (s : List UInt8) (i : Nat) (h : i < s.length) (hc : s[i] = 34) : scanFrom s i = some ([], 1) := by
  unfold scanFrom; rw [List.drop_eq_getElem_cons h, hc, scan_end]
theorem scanFrom_esc (s : List UInt8) (i : Nat) (h : i + 2 < s.length) (hc : s[i] = 92) : scanFrom s i = if hexV s[i + 1] < 16 ∧ hexV s[i + 2] < 16 ∧ plainB (byte2 s[i + 1] s[i + 2]) = false then (scanFrom s (i + 3)).map fun x => (byte2 s[i + 1] s[i + 2] :: x.1, x.2 + 3) else none := by
  unfold scanFrom
  rw [List.drop_eq_getElem_cons (by omega : i < s.length), List.drop_eq_getElem_cons (by omega : i + 1 < s.length), List.drop_eq_getElem_cons (by omega : i + 1 + 1 < s.length), hc, scan_esc]
theorem scanFrom_esc0 (s : List UInt8) (i : Nat) (h : i < s.length) (h2 : ¬ i + 2 < s.length) (hc : s[i] = 92) : scanFrom s i = none := by
  unfold scanFrom
  rw [List.drop_eq_getElem_cons h, hc]
  have hl : (s.drop (i + 1)).length ≤ 1 := by rw [List.length_drop]; omega
  match s.drop (i + 1), hl with
  | [], _ => exact scan_esc0
  | [a], _ => exact scan_esc1 a
theorem scanFrom_plain (s : List UInt8) (i : Nat) (h : i < s.length) (h1 : s[i] ≠ 34) (h2 : s[i] ≠ 92) : scanFrom s i = if plainB s[i] then (scanFrom s (i + 1)).map fun x => (s[i] :: x.1, x.2 + 1) else none := by
  unfold scanFrom
  rw [List.drop_eq_getElem_cons h, scan_plain _ _ h1 h2]
/-- the state of the scan: so much is found, at place i -/
def Scans (s o : List UInt8) (i : Nat) : Prop := scanFrom s 1 = (scanFrom s i).map fun x => (o ++ x.1, x.2 + (i - 1))
theorem Scans.start (s : List UInt8) : Scans s [] 1 := by
  unfold Scans; cases scanFrom s 1 <;> simp
theorem Scans.none {s o : List UInt8} {i : Nat} (h : Scans s o i) (hn : scanFrom s i = none) : scanFrom s 1 = none := by
  unfold Scans at h; rw [h, hn]; rfl
theorem Scans.close {s o : List UInt8} {i : Nat} (h : Scans s o i) (hi : 1 ≤ i) (hn : scanFrom s i = some ([], 1)) : scanFrom s 1 = some (o, i) := by
  unfold Scans at h; rw [h, hn]; simp; omega
theorem Scans.step {s o : List UInt8} {i j : Nat} (b : UInt8) (h : Scans s o i) (hi : 1 ≤ i) (hn : scanFrom s i = (scanFrom s (i + j)).map fun x => (b :: x.1, x.2 + j)) : Scans s (o ++ [b]) (i + j) := by
  unfold Scans at *
  rw [h, hn]
  cases scanFrom s (i + j) with
  | none => rfl
  | some x => simp; omega
theorem quotedOf_at (s : List UInt8) (h : 0 < s.length) (h0 : s[0] = 34) : quotedOf s = match scanFrom s 1 with
    | some (t, n) => (t, n + 1)
    | none => ([], 0) := by
  match s with
  | c :: rest =>
    have : c = 34 := h0
    subst this
    exact quotedOf_cons rest
theorem quotedOf_not (s : List UInt8) (h : 0 < s.length) (h0 : s[0] ≠ 34) : quotedOf s = ([], 0) := by
  match s with
  | c :: rest =>
    have : c ≠ 34 := h0
    rw [quotedOf, if_neg this]
theorem hi_lo (a b : UInt8) (hx : hexV a < 16) (hy : hexV b < 16) : bits BinOp.or IntKind.u8 ((hexV a : Nat) * 16 : Int) (hexV b : Nat) = ((byte2 a b).toNat : Int) := by
  have h : ∀ n m : Fin 16, bits BinOp.or IntKind.u8 (((n : Nat) : Int) * 16) ((m : Nat) : Int) = ((16 * (n : Nat) + (m : Nat) : Nat) : Int) := by decide +kernel
  rw [byte2_toNat a b hx hy]
  exact h ⟨hexV a, hx⟩ ⟨hexV b, hy⟩
theorem digit_yes (c : UInt8) (w : World) (hd : Dig w) (h : hexV c < 16) : Calls Tryd.prog 45 #[u8 c] w fun e w' => e = .returned (.tuple #[.int .u8 (hexV c : Nat), .bool true]) ∧ w = w' := by
  have := digit_any c w hd
  simpa only [h, if_true, decide_true] using this
theorem digit_no (c : UInt8) (w : World) (hd : Dig w) (h : ¬ hexV c < 16) : Calls Tryd.prog 45 #[u8 c] w fun e w' => e = .returned (.tuple #[.int .u8 0, .bool false]) ∧ w = w' := by
  have := digit_any c w hd
  simp only [h, if_false, decide_false] at this
  exact this
set_option maxRecDepth 100000 in
set_option maxHeartbeats 1600000 in
theorem quoted_any (s : List UInt8) (w : World) (hd : Dig w) (hlen : s.length ≤ 1000000000) :
    Calls Tryd.prog 34 #[S s] w fun e w' => e = .returned (.tuple #[S (quotedOf s).1, N (quotedOf s).2]) ∧ Fr w w' := by
  go_enter Tryd.func34, Tryd.ntmps34
  by_cases h0 : s.length = 0
  · obtain rfl := List.eq_nil_of_length_eq_zero h0
    go_wp2_with fail
    go_step3
    go_wp2_with fail
    rw [Exit.noGoto_ret]
    go_ret2
    exact ⟨rfl, Fr.refl w⟩
  · obtain ⟨c0, hc0⟩ : ∃ c, s[0] = c := ⟨_, rfl⟩
    have hcb : (⟨s.toArray⟩ : ByteArray)[0]'(by simpa [ByteArray.size] using (by omega : 0 < s.length)) = c0 := hc0
    have hb := c_bound c0
    obtain ⟨hb1, hb0⟩ := hb
    have hne : ¬ s = [] := fun h => h0 (by rw [h]; rfl)
    have hie : s.isEmpty = false := by cases s with | nil => exact absurd rfl hne | cons a l => rfl
    by_cases h34 : c0 = 34
    · have hq := quotedOf_at s (by omega) (hc0.trans h34)
      have hbn : ((c0.toNat : Int) != 34) = false := by rw [h34]; rfl
      have HQ := hid hq
      clear hq h34
      go_wp2_with fail
      go_step3
      go_wp2_with fail
      go_step3
      go_wp2_with fail
      go_loopw [4, 5] (fun ov iv wr => ∃ (i : Nat) (o : List UInt8), 1 ≤ i ∧ i ≤ s.length ∧ iv = N i ∧ o.length ≤ i ∧ Scans s o i ∧ Own wr w.heap.size eB ov o ∧ Fr w wr) (fun _ iv _ => s.length - (intOf iv).toNat)
      case atStart => exact ⟨1, [], by omega, by omega, rfl, by simp, Scans.start s, Own.nil, Fr.refl w⟩
      case round =>
        obtain ⟨i, o, hi1, hi2, rfl, ho, hsc, hown, hf⟩ := hrel
        have HSC := hid hsc
        clear hsc
        by_cases hlt : i < s.length
        · obtain ⟨c, hc⟩ : ∃ c, s[i] = c := ⟨_, rfl⟩
          have hcb1 : (⟨s.toArray⟩ : ByteArray)[i]'(by simpa [ByteArray.size] using hlt) = c := hc
          have HC := hid hc
          clear hc
          by_cases k1 : c = 34
          · have hE : Hid (quotedOf s = (o, i + 1)) := by
              show _ = _
              rw [HQ.out, HSC.out.close hi1 (scanFrom_close s i hlt (HC.out.trans k1))]
            have hbn1 : ((c.toNat : Int) == 34) = true := by rw [k1]; rfl
            clear k1
            have hcv := run_conv_see eB wr 52 9 Tryd.underlying52 Tryd.underlying5 Tryd.underlying9 rfl rfl hown.see
            have hw1 : IntKind.i64.wrap ((i : Int) + 1) = (i : Int) + 1 := IntWalk.i64_in _ (by omega)
            go_wp2_with fail
            rw [Exit.noGoto_ret]
            go_ret2
            refine ⟨?_, hf⟩
            show Ending.returned (.tuple #[S o, .int .i64 ((i : Int) + 1)]) = _
            rw [hE.out]; simp
          · have hbn1 : ((c.toNat : Int) == 34) = false := by simp; exact fun h => k1 (UInt8.toNat_inj.1 (by show c.toNat = 34; omega))
            by_cases k2 : c = 92 ∧ i + 2 < s.length
            · obtain ⟨k2, k3⟩ := k2
              obtain ⟨a, ha⟩ : ∃ c, s[i + 1] = c := ⟨_, rfl⟩
              obtain ⟨b, hb⟩ : ∃ c, s[i + 2] = c := ⟨_, rfl⟩
              have hesc := scanFrom_esc s i k3 (HC.out.trans k2)
              rw [ha, hb] at hesc
              have HE := hid hesc
              have hbn2 : ((c.toNat : Int) == 92) = true := by rw [k2]; rfl
              have hca : (⟨s.toArray⟩ : ByteArray)[i + 1]'(by simp [ByteArray.size]; omega) = a := ha
              have hcb : (⟨s.toArray⟩ : ByteArray)[i + 2]'(by simpa [ByteArray.size] using k3) = b := hb
              clear hesc ha hb k2
              have hw1 : IntKind.i64.wrap ((i : Int) + 1) = (i : Int) + 1 := IntWalk.i64_in _ (by omega)
              have hw2 : IntKind.i64.wrap ((i : Int) + 2) = (i : Int) + 2 := IntWalk.i64_in _ (by omega)
              have hw3 : IntKind.i64.wrap ((i : Int) + 3) = (i : Int) + 3 := IntWalk.i64_in _ (by omega)
              by_cases ka : hexV a < 16
              · by_cases kb : hexV b < 16
                · go_wp2_with fail
                  refine (digit_yes a _ (hd.fr hf) ka).mono ?_
                  rintro e w' ⟨rfl, rfl⟩
                  go_wp2_with fail
                  refine (digit_yes b _ (hd.fr hf) kb).mono ?_
                  rintro e w' ⟨rfl, rfl⟩
                  have hor := hi_lo a b ka kb
                  go_wp2_with fail
                  first | rw [hor] | skip
                  cases hp : plainB (byte2 a b) with
                  | true =>
                    have hE : Hid (quotedOf s = ([], 0)) := by
                      show _ = _
                      rw [HQ.out, HSC.out.none (by rw [HE.out, if_neg (fun h => by rw [hp] at h; exact absurd h.2.2 (by decide))])]
                    refine (plain_any (byte2 a b) _).mono ?_
                    rintro e w' ⟨he, rfl⟩
                    rw [hp] at he
                    subst he
                    go_wp2_with fail
                    rw [Exit.noGoto_ret]
                    go_ret2
                    exact ⟨by rw [hE.out]; rfl, hf⟩
                  | false =>
                    have hst : Hid (Scans s (o ++ [byte2 a b]) (i + 3)) := HSC.out.step (byte2 a b) hi1 (by rw [HE.out, if_pos ⟨ka, kb, hp⟩])
                    refine (plain_any (byte2 a b) _).mono ?_
                    rintro e w' ⟨he, rfl⟩
                    rw [hp] at he
                    subst he
                    clear hp
                    go_wp2_with (at_builtin; refine wpList_app1 eB rfl (.tmp 71) (.tmp 76) 52 rfl Tryd.underlying52 w.heap.size rfl hown [byte2 a b] _ _ _ (by first | rfl | (rw [hor]; rfl)) rfl rfl ?c1 ?c2 ?_)
                    case c1 => simp; omega
                    case c2 => exact hf.size
                    intro v' w1 hap
                    go_wp2_with fail
                    go_roundw
                    case rel => exact ⟨i + 3, o ++ [byte2 a b], by omega, by omega, by go_num, by simp; omega, hst.out, hap.own, hap.below hown hf (Nat.le_refl _) hf.size⟩
                    case measure => simp [intOf]; omega
                · have hE : Hid (quotedOf s = ([], 0)) := by
                    show _ = _
                    rw [HQ.out, HSC.out.none (by rw [HE.out, if_neg (fun h => kb h.2.1)])]
                  go_wp2_with fail
                  refine (digit_yes a _ (hd.fr hf) ka).mono ?_
                  rintro e w' ⟨rfl, rfl⟩
                  go_wp2_with fail
                  refine (digit_no b _ (hd.fr hf) kb).mono ?_
                  rintro e w' ⟨rfl, rfl⟩
                  go_wp2_with fail
                  rw [Exit.noGoto_ret]
                  go_ret2
                  exact ⟨by rw [hE.out]; rfl, hf⟩
              · have hE : Hid (quotedOf s = ([], 0)) := by
                  show _ = _
                  rw [HQ.out, HSC.out.none (by rw [HE.out, if_neg (fun h => ka h.1)])]
                have hbd := c_bound b
                go_wp2_with fail
                refine (digit_no a _ (hd.fr hf) ka).mono ?_
                rintro e w' ⟨rfl, rfl⟩
                go_wp2_with fail
                by_cases kb : hexV b < 16
                · refine (digit_yes b _ (hd.fr hf) kb).mono ?_
                  rintro e w' ⟨rfl, rfl⟩
                  go_wp2_with fail
                  rw [Exit.noGoto_ret]
                  go_ret2
                  exact ⟨by rw [hE.out]; rfl, hf⟩
                · refine (digit_no b _ (hd.fr hf) kb).mono ?_
                  rintro e w' ⟨rfl, rfl⟩
                  go_wp2_with fail
                  rw [Exit.noGoto_ret]
                  go_ret2
                  exact ⟨by rw [hE.out]; rfl, hf⟩
            · have k2' : ¬ (((c.toNat : Int) == 92) = true ∧ (i : Int) + 2 < s.length) := by
                rintro ⟨h1, h2⟩
                refine k2 ⟨UInt8.toNat_inj.1 ?_, by omega⟩
                have := of_decide_eq_true h1
                show c.toNat = 92; omega
              have hw1 : IntKind.i64.wrap ((i : Int) + 1) = (i : Int) + 1 := IntWalk.i64_in _ (by omega)
              have hw2 : IntKind.i64.wrap ((i : Int) + 2) = (i : Int) + 2 := IntWalk.i64_in _ (by omega)
              have hcbd := c_bound c
              by_cases k4 : c = 92
              · have k5 : ¬ (i : Int) + 2 < s.length := by have hk : ¬ i + 2 < s.length := (fun h => k2 ⟨k4, h⟩); omega
                have hbn2 : ((c.toNat : Int) == 92) = true := by rw [k4]; rfl
                have hpl : plainB c = false := by rw [k4]; rfl
                have hE : Hid (quotedOf s = ([], 0)) := by
                  show _ = _
                  rw [HQ.out, HSC.out.none (scanFrom_esc0 s i hlt (by omega) (HC.out.trans k4))]
                clear k4
                go_wp2_with fail
                refine (plain_any c _).mono ?_
                rintro e w' ⟨he, rfl⟩
                rw [hpl] at he
                subst he
                go_wp2_with fail
                rw [Exit.noGoto_ret]
                go_ret2
                exact ⟨by rw [hE.out]; rfl, hf⟩
              · have hbn2 : ((c.toNat : Int) == 92) = false := by simp; exact fun h => k4 (UInt8.toNat_inj.1 (by show c.toNat = 92; omega))
                have hpn := scanFrom_plain s i hlt (by rw [HC.out]; exact k1) (by rw [HC.out]; exact k4)
                rw [HC.out] at hpn
                have HP := hid hpn
                clear hpn
                cases hp : plainB c with
                | false =>
                  have hE : Hid (quotedOf s = ([], 0)) := by
                    show _ = _
                    rw [HQ.out, HSC.out.none (by rw [HP.out, if_neg (by rw [hp]; decide)])]
                  go_wp2_with fail
                  refine (plain_any c _).mono ?_
                  rintro e w' ⟨he, rfl⟩
                  rw [hp] at he
                  subst he
                  go_wp2_with fail
                  rw [Exit.noGoto_ret]
                  go_ret2
                  exact ⟨by rw [hE.out]; rfl, hf⟩
                | true =>
                  have hst : Hid (Scans s (o ++ [c]) (i + 1)) := HSC.out.step c hi1 (by rw [HP.out, if_pos hp])
                  have Hp := hid hp
                  clear hp
                  go_wp2_with fail
                  refine (plain_any c _).mono ?_
                  rintro e w' ⟨he, rfl⟩
                  rw [Hp.out] at he
                  subst he
                  go_wp2_with (at_builtin; refine wpList_app1 eB rfl (.tmp 83) (.tmp 85) 52 rfl Tryd.underlying52 w.heap.size rfl hown [c] _ _ _ rfl rfl rfl ?c1 ?c2 ?_)
                  case c1 => simp; omega
                  case c2 => exact hf.size
                  intro v' w1 hap
                  go_wp2_with fail
                  go_roundw
                  case rel => exact ⟨i + 1, o ++ [c], by omega, by omega, by go_num, by simp; omega, hst.out, hap.own, hap.below hown hf (Nat.le_refl _) hf.size⟩
                  case measure => simp [intOf]; omega
        · have hE : Hid (quotedOf s = ([], 0)) := by
            show _ = _
            rw [HQ.out, HSC.out.none (scanFrom_end s i (by omega))]
          go_wp2_with fail
          rw [Exit.noGoto_ret]
          go_ret2
          exact ⟨by rw [hE.out]; rfl, hf⟩
    · have hq := quotedOf_not s (by omega) (by rw [hc0]; exact h34)
      have hbn : ((c0.toNat : Int) != 34) = true := by simp; exact fun h => h34 (UInt8.toNat_inj.1 (by show c0.toNat = 34; omega))
      have HQ := hid hq
      clear hq
      go_wp2_with fail
      go_step3
      go_wp2_with fail
      rw [Exit.noGoto_ret]
      go_ret2
      exact ⟨by rw [HQ.out]; rfl, Fr.refl w⟩
end Go.Proofs.YtgckkemmabaffaaDoor
