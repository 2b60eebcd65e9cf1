/- Walks of ask: Check; Same; leaves of numbers. -/
import Derived.Test.YtjepodlalcnecaaDoorW28e
set_option linter.unusedVariables false
namespace Go.Proofs.YtjepodlalcnecaaDoor
open Go.RowKit Go.Fk
theorem depthQ_err (q : List Stp) (n : Int) (h : depthQ q = .error n) : n = 6 ∨ n = 10 := by
  unfold depthQ at h
  split at h
  · cases h; exact .inl rfl
  · unfold depthE at h
    split at h
    · cases h
    · cases h; exact .inr rfl
set_option maxRecDepth 100000 in
theorem Check_any (v : Value) (q : List Stp) (w : World) (hs : See w eT v q) :
    Calls Tryd.prog 12 #[v] w fun e w' => e = .returned (.int .i64 (checkQ q)) ∧ Fr w w' := by
  have D := Depth_any v q w hs
  have hq : Hid (checkQ q = match depthQ q with
    | .error n => n
    | .ok d => if 64 < d then 11 else 0) := rfl
  have herr := depthQ_err q
  obtain ⟨a, cap, hv, _⟩ := hs.shape
  generalize depthQ q = x at *
  subst hv
  have HD := hid D
  clear D
  go_enter Tryd.func12, Tryd.ntmps12
  go_wp2_with fail
  refine HD.out.mono ?_
  rintro e w' ⟨rfl, hf⟩
  cases x with
  | error n =>
    have hn : (n == 0) = false := by rcases herr n rfl with rfl | rfl <;> rfl
    rw [depthV_err]
    clear herr
    go_wp2_with fail
    go_ret
    exact ⟨by rw [hq.out]; rfl, hf⟩
  | ok d =>
    rw [depthV_ok]
    clear herr
    by_cases h64 : 64 < d
    · have h64' : (64 : Int) < d := by omega
      have hO : Hid (checkQ q = 11) := by show _ = _; rw [hq.out]; simp only; rw [if_pos h64]
      clear h64
      go_wp2_with fail
      go_ret
      exact ⟨by rw [hO.out]; rfl, hf⟩
    · have h64' : ¬ (64 : Int) < d := by omega
      have hO : Hid (checkQ q = 0) := by show _ = _; rw [hq.out]; simp only; rw [if_neg h64]
      clear h64
      go_wp2_with fail
      go_ret
      exact ⟨by rw [hO.out]; rfl, hf⟩
set_option maxRecDepth 100000 in
theorem RCheck_any (v : Value) (q : List Stp) (w : World) (hs : See w eT v q) :
    Calls Tryd.prog 13 #[v] w fun e w' => e = .returned (.int .i64 (checkQ q)) ∧ Fr w w' := by
  have D := RDepth_any v q w hs
  have hq : Hid (checkQ q = match depthQ q with
    | .error n => n
    | .ok d => if 64 < d then 11 else 0) := rfl
  have herr := depthQ_err q
  obtain ⟨a, cap, hv, _⟩ := hs.shape
  generalize depthQ q = x at *
  subst hv
  have HD := hid D
  clear D
  go_enter Tryd.func13, Tryd.ntmps13
  go_wp2_with fail
  refine HD.out.mono ?_
  rintro e w' ⟨rfl, hf⟩
  cases x with
  | error n =>
    have hn : (n == 0) = false := by rcases herr n rfl with rfl | rfl <;> rfl
    rw [depthV_err]
    clear herr
    go_wp2_with fail
    go_ret
    exact ⟨by rw [hq.out]; rfl, hf⟩
  | ok d =>
    rw [depthV_ok]
    clear herr
    by_cases h64 : 64 < d
    · have h64' : (64 : Int) < d := by omega
      have hO : Hid (checkQ q = 11) := by show _ = _; rw [hq.out]; simp only; rw [if_pos h64]
      clear h64
      go_wp2_with fail
      go_ret
      exact ⟨by rw [hO.out]; rfl, hf⟩
    · have h64' : ¬ (64 : Int) < d := by omega
      have hO : Hid (checkQ q = 0) := by show _ = _; rw [hq.out]; simp only; rw [if_neg h64]
      clear h64
      go_wp2_with fail
      go_ret
      exact ⟨by rw [hO.out]; rfl, hf⟩
theorem stp_ne (s t : Stp) : s = t ↔ s.op = t.op ∧ s.n = t.n ∧ s.word = t.word ∧ (s.fa.toNat : Int) = t.fa.toNat ∧ (s.fb.toNat : Int) = t.fb.toNat := by
  obtain ⟨a, b, c, d, e⟩ := s
  obtain ⟨a', b', c', d', e'⟩ := t
  simp only [Stp.mk.injEq]
  constructor
  · rintro ⟨rfl, rfl, rfl, rfl, rfl⟩; simp
  · rintro ⟨h1, h2, h3, h4, h5⟩
    exact ⟨h1, h2, h3, UInt64.toNat_inj.1 (by omega), UInt64.toNat_inj.1 (by omega)⟩
set_option maxRecDepth 100000 in
set_option maxHeartbeats 3000000 in
theorem SameQ_any (va vb : Value) (la lb : List Stp) (w : World) (ha : See w eT va la) (hb : See w eT vb lb) :
    Calls Tryd.prog 17 #[va, vb] w fun e w' => e = .returned (.bool (decide (la = lb))) ∧ Fr w w' := by
  obtain ⟨aa, ca, hva, hca1, hca2, hna⟩ := ha.shape
  obtain ⟨ab, cb, hvb, hcb1, hcb2, hnb⟩ := hb.shape
  unfold maxLen at hca2 hcb2
  subst hva hvb
  go_enter Tryd.func17, Tryd.ntmps17
  by_cases hle : la.length = lb.length
  · have hle' := (by simp [hle] : ((la.length : Int) != lb.length) = false)
    have HLE := hid hle
    clear hle
    go_wp2_with fail
    go_loopw [5] (fun iv wr => ∃ k : Nat, k ≤ la.length ∧ iv = N k ∧ Hid (la.take k = lb.take k) ∧ Fr w wr) (fun iv _ => la.length - (intOf iv).toNat)
    case atStart => exact ⟨0, Nat.zero_le _, rfl, rfl, Fr.refl w⟩
    case round =>
      obtain ⟨k, hk, rfl, HT, hf⟩ := hrel
      by_cases hlt : k < la.length
      · have hlt2 : k < lb.length := by have := HLE.out; omega
        obtain ⟨b1, o1, cap1, hv1, c0, c1, c2, c3, c4⟩ := stpAt (ha.fr hf) k hlt
        obtain ⟨b2, o2, cap2, hv2, d0, d1, d2, d3, d4⟩ := stpAt (hb.fr hf) k hlt2
        obtain ⟨⟨t1, n1, l1, s1, x1⟩, hr⟩ : ∃ r, la[k] = r := ⟨_, rfl⟩
        obtain ⟨⟨t2, n2, l2, s2, x2⟩, hq⟩ : ∃ q, lb[k] = q := ⟨_, rfl⟩
        rw [hr] at c0 c1 c2 c3 c4
        rw [hq] at d0 d1 d2 d3 d4
        simp only at c0 c1 c2 c3 c4 d0 d1 d2 d3 d4
        have i1 : (0 : Int) ≤ k := by omega
        have i2 : (k : Int) < la.length := by omega
        have i3 : (k : Int) < lb.length := by omega
        have hsame := stp_ne ⟨t1, n1, l1, s1, x1⟩ ⟨t2, n2, l2, s2, x2⟩
        simp only at hsame
        have hne : ¬ (t1 = t2 ∧ n1 = n2 ∧ l1 = l2 ∧ (s1.toNat : Int) = s2.toNat ∧ (x1.toNat : Int) = x2.toNat) → decide (la = lb) = false := by
          intro h; simp; rintro rfl; exact h (hsame.1 (hr.symm.trans hq))
        have hyes : (t1 = t2 ∧ n1 = n2 ∧ l1 = l2 ∧ (s1.toNat : Int) = s2.toNat ∧ (x1.toNat : Int) = x2.toNat) → la.take (k + 1) = lb.take (k + 1) := by
          intro h; rw [List.take_succ_eq_append_getElem hlt, List.take_succ_eq_append_getElem hlt2, HT.out, hr, hq, hsame.2 h]
        have HN := hid hne
        have HY := hid hyes
        clear hr hq hsame hne hyes
        cases hv1
        cases hv2
        by_cases e1 : t1 = t2
        · subst e1
          by_cases e2 : n1 = n2
          · subst e2
            by_cases e3 : l1 = l2
            · subst e3
              by_cases e4 : (s1.toNat : Int) = s2.toNat
              · obtain rfl : s1 = s2 := UInt64.toNat_inj.1 (by omega)
                by_cases e5 : (x1.toNat : Int) = x2.toNat
                · obtain rfl : x1 = x2 := UInt64.toNat_inj.1 (by omega)
                  have HK := hid (HY.out ⟨rfl, rfl, rfl, rfl, rfl⟩)
                  clear e4 e5
                  go_wp2_with fail
                  go_quiet (fail)
                  go_wp2_with fail
                  go_roundw
                  case rel => exact ⟨k + 1, by omega, by go_num, HK, hf.drewN _⟩
                  case measure => simp [intOf]; omega
                · have HE := hid (HN.out (fun h => e5 h.2.2.2.2))
                  clear e4
                  go_wp2_with fail
                  go_quiet (fail)
                  go_wp2_with fail
                  go_ret
                  exact ⟨by rw [HE.out]; rfl, hf.drewN _⟩
              · have HE := hid (HN.out (fun h => e4 h.2.2.2.1))
                go_wp2_with fail
                go_quiet (fail)
                go_wp2_with fail
                go_ret
                exact ⟨by rw [HE.out]; rfl, hf.drewN _⟩
            · have HE := hid (HN.out (fun h => e3 h.2.2.1))
              go_wp2_with fail
              go_quiet (fail)
              go_wp2_with fail
              go_ret
              exact ⟨by rw [HE.out]; rfl, hf.drewN _⟩
          · have HE := hid (HN.out (fun h => e2 h.2.1))
            go_wp2_with fail
            go_quiet (fail)
            go_wp2_with fail
            go_ret
            exact ⟨by rw [HE.out]; rfl, hf.drewN _⟩
        · have HE := hid (HN.out (fun h => e1 h.1))
          go_wp2_with fail
          go_quiet (fail)
          go_wp2_with fail
          go_ret
          exact ⟨by rw [HE.out]; rfl, hf.drewN _⟩
      · have HE : Hid (decide (la = lb) = true) := by
          show _ = _; simp; have h1 := HT.out; rw [List.take_of_length_le (by omega), List.take_of_length_le (by have := HLE.out; omega)] at h1; exact h1
        go_wp2_with fail
        go_ret
        exact ⟨by rw [HE.out]; rfl, hf⟩
  · have hle' := (by simp; omega : ((la.length : Int) == lb.length) = false)
    have HE : Hid (decide (la = lb) = false) := by show _ = _; simp; intro e; exact hle (by rw [e])
    clear hle
    go_wp2_with fail
    go_ret
    exact ⟨by rw [HE.out]; rfl, Fr.refl _⟩
end Go.Proofs.YtjepodlalcnecaaDoor
