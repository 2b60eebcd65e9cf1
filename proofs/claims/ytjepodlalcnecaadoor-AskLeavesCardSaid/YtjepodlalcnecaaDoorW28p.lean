/- Walks of ask: what is read, part by part. -/
import Derived.Test.YtjepodlalcnecaaDoorW28o
set_option linter.unusedVariables false
namespace Go.Proofs.YtjepodlalcnecaaDoor
open Go.RowKit Go.Fk
theorem enters28 {f : FuncId} {fn : Func} {c : Code} (hf : Tryd.prog.funcs[f]? = some fn) (hname : (fn.name == "runtime.NumGoroutine") = false) (hb : fn.body = some c) (args : Array Value) (w : World) : (callFunc f args).run Tryd.prog w = .ok (.enter f args) w := by
  have h1 : fn.name ≠ "runtime.NumGoroutine" := by simpa using hname
  simp [callFunc, hf, h1, hb, mark]
theorem ent_not (args : Array Value) (W : World) : (callFunc 62 args).run Tryd.prog W = .ok (.enter 62 args) W :=
  enters28 (fn := Tryd.f62) Tryd.func62 (by kernel_rfl) rfl args W
theorem ent_both (args : Array Value) (W : World) : (callFunc 55 args).run Tryd.prog W = .ok (.enter 55 args) W :=
  enters28 (fn := Tryd.f55) Tryd.func55 (by kernel_rfl) rfl args W
theorem Prts.sees {w : World} {base : Nat} {v : Value} {hs : List Hd} {xs : List (List Stp)} (h : Prts w base hs xs) (ho : Own w base eH v hs) : Sees2 w eH eT v hs xs :=
  ⟨ho.see, h.1, fun i h1 h2 => (h.2 i h1 h2).see⟩
set_option maxRecDepth 100000 in
set_option maxHeartbeats 2000000 in
theorem both_ok (B : Nat) (s : List UInt8) (n : Nat) (part : List UInt8 → Rd) (hp : PartOK B s n 62 part) (hpl : PLen part) (hlen : s.length ≤ 1000000) (hn : n ≤ 1000001) (hL : LibB B) :
    PartOK B s n 55 (bothW part) := by
  intro l w hl hr hB hT
  have C := row_any 38 (by decide) B s l n 62 part ent_not hp hpl hl w hr hlen (by omega) hB hT hL
  have hlen2 := fun xs l1 => row_len part hpl 38 (l.length + 1) l xs l1
  have hJ : bothW part l = match rowP part 38 (l.length + 1) l with
    | .error e => .error e
    | .ok (xs, l1) => .ok (joinL 6 xs, l1) := rfl
  generalize rowP part 38 (l.length + 1) l = X at *
  have HC := hid C
  have HJ := hid hJ
  have HL := hid hlen2
  have hmf : ∀ (fn : Fn) (first cap : Array Value) (w : World), (Instr.makeFunc fn first cap).run Tryd.prog w = .ok (.func fn first cap) w := fun _ _ _ _ => rfl
  clear C hJ hlen2 hp hpl hT hL
  generalize bothW part l = Y at *
  go_enter Tryd.func55, Tryd.ntmps55
  go_wp2_with fail
  refine HC.out.mono ?_
  intro e w1 h1
  cases X with
  | error m =>
    obtain ⟨⟨k, hk, rfl⟩, hc1, hs1⟩ := h1
    have hY : Hid (Y = .error m) := HJ.out
    rw [hY.out]
    exact ⟨rfl, ⟨k, hk, rfl⟩, hc1, hs1⟩
  | ok y =>
    obtain ⟨xs, l1⟩ := y
    obtain ⟨v, hs, rfl, hown, hpr, hrd, hc1⟩ := h1
    have hY : Hid (Y = .ok (joinL 6 xs, l1)) := HJ.out
    have hl2 := (HL.out xs l1 rfl).1
    have hsee := hpr.sees hown
    obtain ⟨va, vc, hv⟩ := hown.shape'
    subst hv
    go_wp2_with fail
    refine (Both_any _ hs xs _ hsee (by omega)).mono ?_
    rintro e w2 ⟨v2, rfl, hown2, hf2⟩
    go_wp2_with fail
    go_ret
    rw [hY.out]
    exact ⟨_, rfl, hown2.rebase hc1.size, hrd.fr hf2, hc1.fr hf2⟩
set_option maxRecDepth 100000 in
set_option maxHeartbeats 2000000 in
theorem any_ok (B : Nat) (s : List UInt8) (n : Nat) (part : List UInt8 → Rd) (hp : PartOK B s n 55 part) (hpl : PLen part) (hlen : s.length ≤ 1000000) (hn : n ≤ 1000001) (hL : LibB B) :
    PartOK B s n 45 (joinP part 124 7) := by
  intro l w hl hr hB hT
  have C := row_any 124 (by decide) B s l n 55 part ent_both hp hpl hl w hr hlen (by omega) hB hT hL
  have hlen2 := fun xs l1 => row_len part hpl 124 (l.length + 1) l xs l1
  have hJ : joinP part 124 7 l = match rowP part 124 (l.length + 1) l with
    | .error e => .error e
    | .ok (xs, l1) => .ok (joinL 7 xs, l1) := rfl
  generalize rowP part 124 (l.length + 1) l = X at *
  have HC := hid C
  have HJ := hid hJ
  have HL := hid hlen2
  have hmf : ∀ (fn : Fn) (first cap : Array Value) (w : World), (Instr.makeFunc fn first cap).run Tryd.prog w = .ok (.func fn first cap) w := fun _ _ _ _ => rfl
  clear C hJ hlen2 hp hpl hT hL
  generalize joinP part 124 7 l = Y at *
  go_enter Tryd.func45, Tryd.ntmps45
  go_wp2_with fail
  refine HC.out.mono ?_
  intro e w1 h1
  cases X with
  | error m =>
    obtain ⟨⟨k, hk, rfl⟩, hc1, hs1⟩ := h1
    have hY : Hid (Y = .error m) := HJ.out
    rw [hY.out]
    exact ⟨rfl, ⟨k, hk, rfl⟩, hc1, hs1⟩
  | ok y =>
    obtain ⟨xs, l1⟩ := y
    obtain ⟨v, hs, rfl, hown, hpr, hrd, hc1⟩ := h1
    have hY : Hid (Y = .ok (joinL 7 xs, l1)) := HJ.out
    have hl2 := (HL.out xs l1 rfl).1
    have hsee := hpr.sees hown
    obtain ⟨va, vc, hv⟩ := hown.shape'
    subst hv
    go_wp2_with fail
    refine (Any_any _ hs xs _ hsee (by omega)).mono ?_
    rintro e w2 ⟨v2, rfl, hown2, hf2⟩
    go_wp2_with fail
    go_ret
    rw [hY.out]
    exact ⟨_, rfl, hown2.rebase hc1.size, hrd.fr hf2, hc1.fr hf2⟩
end Go.Proofs.YtjepodlalcnecaaDoor
