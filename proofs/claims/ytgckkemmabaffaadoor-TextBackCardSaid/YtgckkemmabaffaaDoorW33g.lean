/- Walks of text: a digit of 16. -/
import Derived.Test.YtgckkemmabaffaaDoorW33
import Derived.Test.YtgckkemmabaffaaDoorSpec33b
import Derived.ChangeKeysEq
set_option linter.unusedVariables false
namespace Go.Proofs.YtgckkemmabaffaaDoor
open Go.RowKit Go.Fk
theorem run_index_arr {P : Program} {w : World} {t e : TypeId} {n k : Nat} {cs : Array Value} {v : Value} {inf : TypeInfo} (h : P.underlying t = some (.array n e)) (he : P.plainKey e = true) (hi : P.info? e = some inf) (hc : P.cellsOf e = 1) (hk : k < n) (hv : cs[k]? = some v) :
    (Instr.index t (.agg cs) (.int .i64 k)).run P w = .ok v w := by
  have h1 : (0 : Int) ≤ (k : Int) ∧ (k : Int) < n := by omega
  have h2 := run_part_plain (P := P) (w := w) he hv
  have h3 := run_sizeOf (P := P) w hi
  unfold Instr.index
  simp [run_underlying h, asIntOf, h1, h3, hc, Sem.run_bind, Result.andThen_ok]
  rw [if_pos hk]
  exact h2
set_option maxRecDepth 100000 in
theorem digit_any (c : UInt8) (w : World) (hd : Dig w) :
    Calls Tryd.prog 45 #[u8 c] w fun e w' => e = .returned (.tuple #[.int .u8 (if hexV c < 16 then (hexV c : Nat) else 0 : Nat), .bool (decide (hexV c < 16))]) ∧ w = w' := by
  have hb := c_bound c
  obtain ⟨hb1, hb0⟩ := hb
  have z0 := hd.at 0 (by decide); have z1 := hd.at 1 (by decide); have z2 := hd.at 2 (by decide); have z3 := hd.at 3 (by decide)
  have z4 := hd.at 4 (by decide); have z5 := hd.at 5 (by decide); have z6 := hd.at 6 (by decide); have z7 := hd.at 7 (by decide)
  have z8 := hd.at 8 (by decide); have z9 := hd.at 9 (by decide); have z10 := hd.at 10 (by decide); have z11 := hd.at 11 (by decide)
  have z12 := hd.at 12 (by decide); have z13 := hd.at 13 (by decide); have z14 := hd.at 14 (by decide); have z15 := hd.at 15 (by decide)
  go_enter Tryd.func45, Tryd.ntmps45
  go_wp2_with fail
  have HI : ∀ k, k < 16 → (#[u8 (hexd 0), u8 (hexd 1), u8 (hexd 2), u8 (hexd 3), u8 (hexd 4), u8 (hexd 5), u8 (hexd 6), u8 (hexd 7), u8 (hexd 8), u8 (hexd 9), u8 (hexd 10), u8 (hexd 11), u8 (hexd 12), u8 (hexd 13), u8 (hexd 14), u8 (hexd 15)] : Array Value)[k]? = some (u8 (hexd k)) := by
    intro i hi
    match i, hi with
    | 0, _ => rfl
    | 1, _ => rfl
    | 2, _ => rfl
    | 3, _ => rfl
    | 4, _ => rfl
    | 5, _ => rfl
    | 6, _ => rfl
    | 7, _ => rfl
    | 8, _ => rfl
    | 9, _ => rfl
    | 10, _ => rfl
    | 11, _ => rfl
    | 12, _ => rfl
    | 13, _ => rfl
    | 14, _ => rfl
    | 15, _ => rfl
    | n + 16, h => exact absurd h (by omega)
  clear z0 z1 z2 z3 z4 z5 z6 z7 z8 z9 z10 z11 z12 z13 z14 z15
  generalize (#[u8 (hexd 0), u8 (hexd 1), u8 (hexd 2), u8 (hexd 3), u8 (hexd 4), u8 (hexd 5), u8 (hexd 6), u8 (hexd 7), u8 (hexd 8), u8 (hexd 9), u8 (hexd 10), u8 (hexd 11), u8 (hexd 12), u8 (hexd 13), u8 (hexd 14), u8 (hexd 15)] : Array Value) = arr at HI ⊢
  have HH := hid HI
  clear HI
  go_loopw [7] (fun iv wr => ∃ k : Nat, k ≤ 16 ∧ iv = N k ∧ (∀ i, i < k → hexV c ≠ i) ∧ wr = w) (fun iv _ => 16 - (intOf iv).toNat)
  case atStart => exact ⟨0, by omega, rfl, by omega, rfl⟩
  case round =>
    obtain ⟨k, hk, rfl, hne, rfl⟩ := hrel
    by_cases hlt : k < 16
    · have hix : (Instr.index 61 (.agg arr) (N k)).run Tryd.prog wr = .ok (.int .u8 (hexd k).toNat) wr := run_index_arr Tryd.underlying61 (by kernel_rfl) rfl (by kernel_rfl) hlt (HH.out k hlt)
      by_cases heq : hexV c = k
      · have h2 : (hexd k).toNat = c.toNat := congrArg UInt8.toNat ((hexV_iff c k hlt).2 heq)
        have hw : IntKind.u8.wrap (k : Int) = k := IntWalk.u8_in _ (by omega)
        rw [h2] at hix
        go_wp2_with fail
        go_ret2
        all_goals first | exact ⟨rfl, rfl⟩ | (exfalso; omega)
      · have h2 : (hexd k).toNat ≠ c.toNat := fun h => heq ((hexV_iff c k hlt).1 (UInt8.toNat_inj.1 h))
        have h3 : (((hexd k).toNat : Int) == c.toNat) = false := by simp; omega
        go_wp2_with fail
        go_roundw
        case rel => exact ⟨k + 1, by omega, by go_num, fun i hi => by rcases Nat.lt_succ_iff_lt_or_eq.1 hi with h | rfl; exact hne i h; exact heq, by trivial⟩
        case measure => simp [intOf]; omega
    · have h16 : ¬ hexV c < 16 := fun h => hne (hexV c) (by omega) rfl
      go_wp2_with fail
      go_ret2
      exact ⟨by simp, rfl⟩
end Go.Proofs.YtgckkemmabaffaaDoor
