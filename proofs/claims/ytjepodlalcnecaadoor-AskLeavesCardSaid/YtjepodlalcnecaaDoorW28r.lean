/- Walks of ask: a whole text read. -/
import Derived.Test.YtjepodlalcnecaaDoorW28q
import Derived.Defers
import Derived.Recover
set_option linter.unusedVariables false
namespace Go.Proofs.YtjepodlalcnecaaDoor
open Go.RowKit Go.Fk
theorem ta_wrong (k : Int) (W : World) : (Instr.typeAssert (.iface 67 (.int .i64 k)) 20 67 true).run Tryd.prog W = .ok (.tuple #[.int .i64 k, .bool true]) W := by kernel_rfl
theorem ta_nil (W : World) : (Instr.typeAssert .nilIface 20 67 true).run Tryd.prog W = .ok (.tuple #[.int .i64 0, .bool false]) W := by kernel_rfl
theorem rep9 : Array.replicate 9 undef = #[undef, undef, undef, undef, undef, undef, undef, undef, undef] := rfl
set_option maxRecDepth 100000 in
theorem catch_panicking (b : Nat) (k : Int) (older : List PanicEntry) (w : World) (x1 x2 x3 : Value) (h1 : w.cell? ⟨b, 0, none⟩ = some x1) (h2 : w.cell? ⟨b + 1, 0, none⟩ = some x2) (h3 : w.cell? ⟨b + 2, 0, none⟩ = some x3) (f1 : w.frozen? ⟨b, 0, none⟩ = false) (f2 : w.frozen? ⟨b + 1, 0, none⟩ = false) (f3 : w.frozen? ⟨b + 2, 0, none⟩ = false) :
    CallsD Tryd.prog 44 #[.pointer (some ⟨b, 0, none⟩), .pointer (some ⟨b + 1, 0, none⟩), .pointer (some ⟨b + 2, 0, none⟩)] (.panicking ({ v := .iface 67 (.int .i64 k), recovered := false } :: older)) w fun e u' w' =>
      e = .returned (.tuple #[]) ∧ u' = .panicking ({ v := .iface 67 (.int .i64 k), recovered := true } :: older) ∧ w' = ((w.setCell ⟨b, 0, none⟩ (.slice none 0 0)).setCell ⟨b + 1, 0, none⟩ (.int .i64 k)).setCell ⟨b + 2, 0, none⟩ (.int .i64 10) := by
  refine callsD_of_wpS Tryd.func44 rfl fun c₀ cs hu => ?_
  apply wpS_seq
  apply wpS_region
  simp [wpOpsS, go_sem, recoverD, hu, Tryd.ntmps44, Exit.thenS, rep9, ta_wrong]
  apply wpS_seq
  apply wpS_region
  simp [wpOpsS, go_sem, Exit.thenS]
  refine wpS_cond (t := true) (by simp [Act.eval]) ?_
  simp only [if_true]
  apply wpS_region
  simp [wpOpsS, go_sem, h1, h2, h3, f1, f2, f3, bodyPostS, results, Tryd.results44]
set_option maxRecDepth 100000 in
theorem catch_idle (b : Nat) (w : World) :
    CallsD Tryd.prog 44 #[.pointer (some ⟨b, 0, none⟩), .pointer (some ⟨b + 1, 0, none⟩), .pointer (some ⟨b + 2, 0, none⟩)] .returning w fun e u' w' => e = .returned (.tuple #[]) ∧ u' = .returning ∧ w' = w := by
  refine callsD_of_wpS Tryd.func44 rfl fun c₀ cs hu => ?_
  apply wpS_seq
  apply wpS_region
  simp [wpOpsS, go_sem, recoverD, hu, Tryd.ntmps44, Exit.thenS, rep9, ta_nil]
  apply wpS_seq
  apply wpS_region
  simp [wpOpsS, go_sem, Exit.thenS]
  refine wpS_cond (t := false) (by simp [Act.eval]) ?_
  simp only [Bool.false_eq_true, if_false]
  refine wpS_of_wp (wp_skip ?_)
  cases c₀
  simp_all [bodyPostS, results, Tryd.results44]
end Go.Proofs.YtjepodlalcnecaaDoor
