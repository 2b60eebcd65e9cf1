/- Parts of the proof of ThreeMends: Me1. -/
import Derived.Test.YtfhdgenlpmlajaaGreatDoorM42
import Derived.Test.YtfhdgenlpmlajaaGreatDoorM13
import Derived.Test.YtfhdgenlpmlajaaGreatDoorM11
import Derived.Test.YtfhdgenlpmlajaaGreatDoorM45
set_option linter.unusedVariables false
set_option linter.unusedSectionVars false
set_option linter.unusedSimpArgs false
set_option maxHeartbeats 8000000
namespace Go.Proofs.YtfhdgenlpmlajaaGreatDoor
open Go.RowKit Go.Fk
set_option maxRecDepth 100000
theorem ThreeMends_any (v : Value) (b : List UInt8) (w : World) (ht : Crc w) (hs : See w eB v b) :
    Calls Tryz.prog 3 #[v] w fun e w' => e = .returned (.bool true) ∧ Fr w w' := by
  have HA := hid (alive0_any w ht)
  have HS := hid hs
  obtain ⟨a0, cap, hv, hc1, hc2, _⟩ := hs.shape
  subst hv
  unfold maxLen at hc2
  by_cases hl : 1500 < b.length
  · have j1 : (1500 : Int) < b.length := by omega
    clear hs ht
    go_enter Tryz.func3, Tryz.ntmps3
    go_wp2_with fail
    refine HA.out.mono ?_
    rintro e w1 ⟨rfl, hf1⟩
    go_wp2_with fail
    go_ret
    exact ⟨rfl, hf1⟩
  · have j1 : ¬ (1500 : Int) < b.length := by omega
    have HM := hid (fun W (h : Fr w W) => Mended_any _ b W (hs.fr h) (by omega) (ht.fr h))
    have HR := hid (fun W (h : Fr w W) => RMended_any _ b W (hs.fr h) (by omega))
    have HH := hid (fun W (h : Fr w W) => THas_any _ b W (hs.fr h) (by omega) (ht.fr h))
    have HRH := hid (fun W (h : Fr w W) => RHas_any _ b W (hs.fr h) (by omega))
    clear hs ht hl
    generalize (decide (42 ≤ b.length) && hasB b) = hb at *
    generalize (mendR b).2.1 = X at *
    generalize (mendR b).2.2 = n at *
    generalize (mendR b).1 = er at *
    go_enter Tryz.func3, Tryz.ntmps3
    go_wp2_with fail
    refine HA.out.mono ?_
    rintro e w1 ⟨rfl, hf1⟩
    have HM1 := hid (HM.out w1 hf1)
    go_wp2_with fail
    refine HM1.out.mono ?_
    rintro e w2 ⟨u2, rfl, hO2, hf2⟩
    have hf02 := hf1.trans hf2
    have HR1 := hid (HR.out w2 hf02)
    go_wp2_with fail
    refine HR1.out.mono ?_
    rintro e w3 ⟨u3, rfl, hO3, hf3⟩
    have hf03 := hf02.trans hf3
    have HH1 := hid (HH.out w3 hf03)
    go_wp2_with fail
    refine HH1.out.mono ?_
    rintro e w4 ⟨rfl, hf4⟩
    have hf04 := hf03.trans hf4
    have HRH1 := hid (HRH.out w4 hf04)
    go_wp2_with fail
    refine HRH1.out.mono ?_
    rintro e w5 ⟨rfl, hf5⟩
    have hf05 := hf04.trans hf5
    have HSm := hid (RSame1_any u2 u3 X X w5 ((((hO2.fr hf3).fr hf4).fr hf5).see) (((hO3.fr hf4).fr hf5).see))
    rw [show decide (X = X) = true from decide_eq_true rfl] at HSm
    clear HM HR HH HRH HM1 HR1 HH1 HRH1 hO2 hO3
    go_wp2_with fail
    refine HSm.out.mono ?_
    rintro e w6 ⟨rfl, rfl⟩
    go_wp2_with fail
    go_ret
    exact ⟨rfl, hf05⟩
set_option maxRecDepth 512
end Go.Proofs.YtfhdgenlpmlajaaGreatDoor
