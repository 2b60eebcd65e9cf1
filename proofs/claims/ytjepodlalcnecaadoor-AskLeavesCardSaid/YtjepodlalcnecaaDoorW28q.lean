/- Walks of ask: a not read. -/
import Derived.Test.YtjepodlalcnecaaDoorW28p
set_option linter.unusedVariables false
namespace Go.Proofs.YtjepodlalcnecaaDoor
open Go.RowKit Go.Fk
set_option maxRecDepth 100000 in
set_option maxHeartbeats 4000000 in
theorem not_step (B : Nat) (s : List UInt8) (n : Nat) (ih : PartOK B s n 62 (notP n)) (hlen : s.length ≤ 1000000) (hn : n ≤ 1000000) (hL : LibB B) :
    PartOK B s (n + 1) 62 (notP (n + 1)) := by
  intro l w hl hr hB hT
  have hany := any_ok B s n (bothW (notP n)) (both_ok B s n (notP n) ih (not_len n) hlen (by omega) hL) (both_len _ (not_len n)) hlen (by omega) hL
  have hnot : notP (n + 1) l = if (takeB 33 l).1 then
      match notP n (takeB 33 l).2 with
      | .error e => .error e
      | .ok (q, l1) => .ok (q ++ [stepN 5 0], l1)
    else if (takeB 40 (takeB 33 l).2).1 then closeP (anyW (notP n) (takeB 40 (takeB 33 l).2).2)
    else leafP (takeB 40 (takeB 33 l).2).2 := rfl
  have C1 := take_any 33 (by decide) B s l w hr (by omega)
  have t1 := take_le 33 l
  have nlen := not_len n
  generalize notP (n + 1) l = Y at *
  generalize hb1 : (takeB 33 l).1 = b1 at *
  generalize hl1 : (takeB 33 l).2 = l1 at *
  have HC1 := hid C1
  clear C1 hb1 hl1
  have HI := hid ih
  have HA := hid hany
  have HN := hid nlen
  clear ih hany nlen
  cases b1 with
  | true =>
    have HY : Hid (Y = match notP n l1 with
      | .error e => .error e
      | .ok (q, l1) => .ok (q ++ [stepN 5 0], l1)) := hnot
    have t2 := t1.2 rfl
    clear hnot t1
    go_enter Tryd.func62, Tryd.ntmps62
    go_wp2_with fail
    refine HC1.out.mono ?_
    rintro e w1 ⟨rfl, hrd, hc1⟩
    have hs1 := hc1.size
    have hT1 := hT.chb hL hc1
    go_wp2_with fail
    refine (HI.out l1 w1 (by omega) hrd (by omega) hT1).mono ?_
    intro e w2 h2
    cases hq : notP n l1 with
    | error m =>
      rw [hq] at h2
      obtain ⟨⟨k, hk, rfl⟩, hc2, hs2⟩ := h2
      have HY2 : Hid (Y = .error m) := by show _ = _; rw [HY.out, hq]
      rw [HY2.out]
      exact ⟨rfl, ⟨k, hk, rfl⟩, hc1.trans hc2, by omega⟩
    | ok y =>
      obtain ⟨q, l2⟩ := y
      rw [hq] at h2
      obtain ⟨v, rfl, hown, hrd2, hc2⟩ := h2
      have HY2 : Hid (Y = .ok (q ++ [stepN 5 0], l2)) := by show _ = _; rw [HY.out, hq]
      have hql := HN.out l1 q l2 hq
      have hc12 := hc1.trans hc2
      obtain ⟨va, vc, hv⟩ := hown.shape'
      subst hv
      clear hq HY
      go_wp2_with fail
      refine (Not_any _ q _ hown.see (by omega)).mono ?_
      rintro e w3 ⟨v3, rfl, hown3, hf3⟩
      go_wp2_with fail
      go_ret
      rw [HY2.out]
      exact ⟨_, rfl, hown3.rebase hc12.size, hrd2.fr hf3, hc12.fr hf3⟩
  | false =>
    have HY : Hid (Y = if (takeB 40 l1).1 then closeP (anyW (notP n) (takeB 40 l1).2) else leafP (takeB 40 l1).2) := hnot
    have t2 := t1.1
    have t3 := take_le 40 l1
    clear hnot t1
    have C2 := fun W hr hl => take_any 40 (by decide) B s l1 W hr hl
    generalize hb2 : (takeB 40 l1).1 = b2 at *
    generalize hl2 : (takeB 40 l1).2 = l2 at *
    have HC2 := hid C2
    clear C2 hb2 hl2
    cases b2 with
    | true =>
      have HY3 : Hid (Y = closeP (anyW (notP n) l2)) := HY.out
      have t4 := t3.2 rfl
      clear HY t3
      go_enter Tryd.func62, Tryd.ntmps62
      go_wp2_with fail
      refine HC1.out.mono ?_
      rintro e w1 ⟨rfl, hrd, hc1⟩
      have hs1 := hc1.size
      have hT1 := hT.chb hL hc1
      go_wp2_with fail
      refine (HC2.out w1 hrd (by omega)).mono ?_
      rintro e w2 ⟨rfl, hrd2, hc2⟩
      have hs2 := hc2.size
      have hT2 := hT1.chb hL hc2
      have hc12 := hc1.trans hc2
      go_wp2_with fail
      refine (HA.out l2 w2 (by omega) hrd2 (by omega) hT2).mono ?_
      intro e w3 h3
      have HAW : Hid (anyW (notP n) l2 = joinP (bothW (notP n)) 124 7 l2) := rfl
      cases hq : joinP (bothW (notP n)) 124 7 l2 with
      | error m =>
        rw [hq] at h3
        obtain ⟨⟨k, hk, rfl⟩, hc3, hs3⟩ := h3
        have HY2 : Hid (Y = .error m) := by show _ = _; rw [HY3.out, HAW.out, hq]; rfl
        rw [HY2.out]
        exact ⟨rfl, ⟨k, hk, rfl⟩, hc12.trans hc3, by omega⟩
      | ok y =>
        obtain ⟨q, l3⟩ := y
        rw [hq] at h3
        obtain ⟨v, rfl, hown, hrd3, hc3⟩ := h3
        have hc13 := hc12.trans hc3
        have C4 := take_any 41 (by decide) B s l3 w3 hrd3 (by omega)
        have HY2 : Hid (Y = if (takeB 41 l3).1 then .ok (q, (takeB 41 l3).2) else .error (takeB 41 l3).2.length) := by show _ = _; rw [HY3.out, HAW.out, hq]; rfl
        generalize (takeB 41 l3).1 = b4 at *
        generalize (takeB 41 l3).2 = l4 at *
        have HC4 := hid C4
        have hs13 := hc13.size
        obtain ⟨va, vc, hv⟩ := hown.shape'
        subst hv
        clear C4 hq HY3 HAW
        go_wp2_with fail
        refine HC4.out.mono ?_
        rintro e w4 ⟨rfl, hrd4, hc4⟩
        have hc14 := hc13.trans hc4
        have hown4 := own_chb hown (by omega) hc4
        cases b4 with
        | true =>
          go_wp2_with fail
          go_ret
          rw [HY2.out]
          exact ⟨_, rfl, hown4.rebase hc12.size, hrd4, hc14⟩
        | false =>
          have hs14 := hc14.size
          obtain ⟨lq, ⟨i, q1, q2, q3⟩, q4⟩ := hrd4
          obtain ⟨c0, c1, g1⟩ := rd_cells q3
          have HQ := hid q1
          clear q1 q2 q3 q4
          go_wp2_with fail
          refine ⟨rfl, ?_⟩
          rw [HY2.out]
          exact ⟨⟨i, by have := HQ.out; omega, rfl⟩, hc14, hs14⟩
    | false =>
      have HY3 : Hid (Y = leafP l2) := HY.out
      clear HY
      go_enter Tryd.func62, Tryd.ntmps62
      go_wp2_with fail
      refine HC1.out.mono ?_
      rintro e w1 ⟨rfl, hrd, hc1⟩
      have hs1 := hc1.size
      have hT1 := hT.chb hL hc1
      go_wp2_with fail
      refine (HC2.out w1 hrd (by omega)).mono ?_
      rintro e w2 ⟨rfl, hrd2, hc2⟩
      have hs2 := hc2.size
      have hT2 := hT1.chb hL hc2
      have hc12 := hc1.trans hc2
      go_wp2_with fail
      refine (leaf_rd B s l2 w2 hrd2 (by omega) (by omega) hT2 hL).mono ?_
      intro e w3 h3
      cases hq : leafP l2 with
      | error m =>
        rw [hq] at h3
        obtain ⟨⟨k, hk, rfl⟩, hc3, hs3⟩ := h3
        have HY2 : Hid (Y = .error m) := by show _ = _; rw [HY3.out, hq]
        rw [HY2.out]
        exact ⟨rfl, ⟨k, hk, rfl⟩, hc12.trans hc3, by omega⟩
      | ok y =>
        obtain ⟨q, l3⟩ := y
        rw [hq] at h3
        obtain ⟨v, rfl, hown, hrd3, hc3⟩ := h3
        have HY2 : Hid (Y = .ok (q, l3)) := by show _ = _; rw [HY3.out, hq]
        clear hq HY3
        go_wp2_with fail
        go_ret
        rw [HY2.out]
        exact ⟨_, rfl, hown.rebase hc12.size, hrd3, hc12.trans hc3⟩
theorem not_ok (B : Nat) (s : List UInt8) (hlen : s.length ≤ 1000000) (hL : LibB B) : ∀ n, n ≤ 1000001 → PartOK B s n 62 (notP n) := by
  intro n
  induction n with
  | zero => intro _ l w hl; omega
  | succ n ih => intro hn; exact not_step B s n (ih (by omega)) hlen (by omega) hL
theorem anyP_ok (B : Nat) (s : List UInt8) (hlen : s.length ≤ 1000000) (hL : LibB B) (n : Nat) (hn : n ≤ 1000001) : PartOK B s n 45 (anyW (notP n)) :=
  any_ok B s n (bothW (notP n)) (both_ok B s n (notP n) (not_ok B s hlen hL n hn) (not_len n) hlen hn hL) (both_len _ (not_len n)) hlen hn hL
end Go.Proofs.YtjepodlalcnecaaDoor
