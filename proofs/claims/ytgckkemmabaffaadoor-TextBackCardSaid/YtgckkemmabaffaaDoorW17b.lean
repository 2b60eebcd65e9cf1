/- Walks of records: Same. -/
import Derived.Test.YtgckkemmabaffaaDoorW17
set_option linter.unusedVariables false
namespace Go.Proofs.YtgckkemmabaffaaDoor
open Go.RowKit Go.Fk
set_option maxRecDepth 100000 in
set_option maxHeartbeats 3000000 in
theorem Same_any (va vb : Value) (la lb : List Rec) (w : World) (ha : See w eR va la) (hb : See w eR vb lb) (hl : la.length ≤ 1000000000) :
    Calls Tryd.prog 25 #[va, vb] w fun e w' => e = .returned (.bool (decide (la = lb))) ∧ Fr w w' := by
  obtain ⟨aa, ca, hva, hca1, hca2, hna⟩ := ha.shape
  obtain ⟨ab, cb, hvb, hcb1, hcb2, hnb⟩ := hb.shape
  subst hva hvb
  go_enter Tryd.func25, Tryd.ntmps25
  by_cases hle : la.length = lb.length
  · have hle' := (by simp [hle] : ((la.length : Int) == lb.length) = true)
    have HLE := hid hle
    clear hle
    go_wp2_with fail
    go_loopw [5] (fun iv wr => ∃ k : Nat, k ≤ la.length ∧ iv = N k ∧ Hid (la.take k = lb.take k) ∧ Fr w wr) (fun iv _ => la.length - (intOf iv).toNat)
    case atStart => exact ⟨0, Nat.zero_le _, rfl, rfl, Fr.refl w⟩
    case round =>
      obtain ⟨k, hk, rfl, HT, hf⟩ := hrel
      by_cases hlt : k < la.length
      · have hlt2 : k < lb.length := by have := HLE.out; omega
        obtain ⟨b1, o1, cap1, hv1, c0, c1, c2, c3⟩ := recAt (ha.fr hf) k hlt
        obtain ⟨b2, o2, cap2, hv2, d0, d1, d2, d3⟩ := recAt (hb.fr hf) k hlt2
        obtain ⟨⟨t1, l1, s1, x1⟩, hr⟩ : ∃ r, la[k] = r := ⟨_, rfl⟩
        obtain ⟨⟨t2, l2, s2, x2⟩, hq⟩ : ∃ q, lb[k] = q := ⟨_, rfl⟩
        rw [hr] at c0 c1 c2 c3
        rw [hq] at d0 d1 d2 d3
        simp only at c0 c1 c2 c3 d0 d1 d2 d3
        have i1 : (0 : Int) ≤ k := by omega
        have i2 : (k : Int) < la.length := by omega
        have i3 : (k : Int) < lb.length := by omega
        have HR := hid hr
        have HQ := hid hq
        clear hr hq
        cases hv1
        cases hv2
        by_cases e1 : t1 = t2
        · subst e1
          by_cases e2 : l1 = l2
          · subst e2
            by_cases e3 : s1 = s2
            · subst e3
              by_cases e4 : x1 = x2
              · subst e4
                have HK : Hid (la.take (k + 1) = lb.take (k + 1)) := by
                  show _ = _; rw [List.take_succ_eq_append_getElem hlt, List.take_succ_eq_append_getElem hlt2, HT.out, HR.out, HQ.out]
                clear HR HQ
                go_wp2_with fail
                go_quiet (fail)
                go_wp2_with fail
                go_roundw
                case rel => exact ⟨k + 1, by omega, by go_num, HK, hf.drewN _⟩
                case measure => simp [intOf]; omega
              · have HE : Hid (decide (la = lb) = false) := by show _ = _; simp; intro e; subst e; exact e4 (by have := HR.out.symm.trans HQ.out; simp at this; simp [this])
                clear HR HQ
                go_wp2_with fail
                go_quiet (fail)
                go_wp2_with fail
                go_ret
                exact ⟨by rw [HE.out]; rfl, hf.drewN _⟩
            · have HE : Hid (decide (la = lb) = false) := by show _ = _; simp; intro e; subst e; exact e3 (by have := HR.out.symm.trans HQ.out; simp at this; simp [this])
              clear HR HQ
              go_wp2_with fail
              go_quiet (fail)
              go_wp2_with fail
              go_ret
              exact ⟨by rw [HE.out]; rfl, hf.drewN _⟩
          · have e2' : ¬ ((l1.toNat : Int) = l2.toNat) := fun h => e2 (UInt8.toNat_inj.1 (by omega))
            have HE : Hid (decide (la = lb) = false) := by show _ = _; simp; intro e; subst e; exact e2 (by have := HR.out.symm.trans HQ.out; simp at this; simp [this])
            clear HR HQ
            go_wp2_with fail
            go_quiet (fail)
            go_wp2_with fail
            go_ret
            exact ⟨by rw [HE.out]; rfl, hf.drewN _⟩
        · have e1' : ¬ ((t1.toNat : Int) = t2.toNat) := fun h => e1 (UInt64.toNat_inj.1 (by omega))
          have HE : Hid (decide (la = lb) = false) := by show _ = _; simp; intro e; subst e; exact e1 (by have := HR.out.symm.trans HQ.out; simp at this; simp [this])
          clear HR HQ
          go_wp2_with fail
          go_quiet (fail)
          go_wp2_with fail
          go_ret
          exact ⟨by rw [HE.out]; rfl, hf.drewN _⟩
      · have HE : Hid (decide (la = lb) = true) := by
          show _ = _; simp; have h1 := HT.out; rw [List.take_of_length_le (by omega), List.take_of_length_le (by have := HLE.out; omega)] at h1; exact h1
        go_wp2_with fail
        go_ret
        exact ⟨by rw [HE.out]; rfl, hf⟩
  · have hle' := (by simp; omega : ((la.length : Int) == lb.length) = false)
    have HE : Hid (decide (la = lb) = false) := by show _ = _; simp; intro e; exact hle (by rw [e])
    clear hle
    go_wp2_with fail
    go_ret
    exact ⟨by rw [HE.out]; rfl, Fr.refl _⟩
end Go.Proofs.YtgckkemmabaffaaDoor
