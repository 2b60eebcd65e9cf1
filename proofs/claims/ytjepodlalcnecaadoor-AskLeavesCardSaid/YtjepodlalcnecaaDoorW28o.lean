/- Walks of ask: a row of parts. -/
import Derived.Test.YtjepodlalcnecaaDoorW28n
import Derived.Test.YtjepodlalcnecaaDoorW28k
set_option linter.unusedVariables false
namespace Go.Proofs.YtjepodlalcnecaaDoor
open Go.RowKit Go.Fk
theorem take_any (c : UInt8) (hc : c ≠ 0) (B : Nat) (s l : List UInt8) (w : World) (hr : RdS w B s l) (hlen : s.length ≤ 1000000000) :
    Calls Tryd.prog 61 #[.pointer (some ⟨B, 0, none⟩), Fk.u8 c] w fun e w' => e = .returned (.bool (takeB c l).1) ∧ RdS w' B s (takeB c l).2 ∧ ChB B w w' := by
  by_cases h : (skipB l).head? = some c
  · exact take_yes_any c hc B s l w hr hlen h
  · exact take_no_any c hc B s l w hr hlen h
/-- a part's reader does what it should -/
def PartOK (B : Nat) (s : List UInt8) (n : Nat) (fid : Nat) (part : List UInt8 → Rd) : Prop :=
  ∀ l W, l.length < n → RdS W B s l → B < W.heap.size → LibT W → Calls Tryd.prog fid #[.pointer (some ⟨B, 0, none⟩)] W (PartPost W B s (part l))
/-- behind a part of a row -/
def rowR (part : List UInt8 → Rd) (c : UInt8) (f : Nat) (l1 : List UInt8) : Except Nat (List (List Stp) × List UInt8) :=
  if (takeB c l1).1 then rowP part c f (takeB c l1).2 else .ok ([], (takeB c l1).2)
theorem rowP_succ (part : List UInt8 → Rd) (c : UInt8) (f : Nat) (l : List UInt8) : rowP part c (f + 1) l = match part l with
    | .error e => .error e
    | .ok (x, l1) => match rowR part c f l1 with
      | .error e => .error e
      | .ok (xs, l3) => .ok (x :: xs, l3) := by
  rw [rowP]
  cases part l with
  | error e => rfl
  | ok p =>
    obtain ⟨x, l1⟩ := p
    simp only
    unfold rowR
    split
    · rfl
    · rfl
/-- slices of one's own that hold the lists -/
def Prts (w : World) (base : Nat) (hs : List Hd) (xs : List (List Stp)) : Prop := hs.length = xs.length ∧ ∀ i (h : i < hs.length) (h' : i < xs.length), Own w base eT hs[i].v xs[i]
/-- what a row's reader leaves -/
def RowPost (w : World) (B : Nat) (s : List UInt8) (x : Except Nat (List (List Stp) × List UInt8)) (e : Ending) (w' : World) : Prop :=
  match x with
  | .ok (xs, l) => ∃ v hs, e = .returned v ∧ Own w' w.heap.size eH v hs ∧ Prts w' w.heap.size hs xs ∧ RdS w' B s l ∧ ChB B w w'
  | .error _ => Gave s e ∧ ChB B w w' ∧ w.heap.size ≤ w'.heap.size
theorem own_chb {α : Type} {E : Elt Tryd.prog α} {w w' : World} {B base : Nat} {v : Value} {l : List α} (h : Own w base E v l) (hb : B < base) (hc : ChB B w w') : Own w' base E v l :=
  h.chg hc (fun k hk e => by have := (h.lt k hk).1; omega)
theorem own_apart {w : World} {base : Nat} {v u : Value} {hs : List Hd} {q : List Stp} (h : Own w base eH v hs) (k : Own w base eT u q) : u.ownBlock = none ∨ u.ownBlock ≠ v.ownBlock := by
  cases hu : u.ownBlock with
  | none => exact .inl rfl
  | some b =>
    right
    intro e
    rcases h.2 with ⟨hv, _⟩ | ⟨g, cap, cur, hv, _, hg, _⟩
    · rw [hv] at e; cases e
    · rw [hv] at e
      simp only [Value.ownBlock, Option.some.injEq] at e
      subst e
      exact k.ne_cells hg (by decide) hu
theorem Prts.chb {w w' : World} {base B : Nat} {hs : List Hd} {xs : List (List Stp)} (h : Prts w base hs xs) (hb : B < base) (hc : ChB B w w') : Prts w' base hs xs :=
  ⟨h.1, fun i h1 h2 => own_chb (h.2 i h1 h2) hb hc⟩
theorem Prts.app {w w' : World} {base : Nat} {hs : List Hd} {xs : List (List Stp)} {ov ov' : Value} {l : List Hd} {x : Hd} {q : List Stp} (h : Prts w base hs xs) (ho : Own w base eH ov hs) (hx : Own w base eT x.v q) (ha : App base eH l w ov ov' w') : Prts w' base (hs ++ [x]) (xs ++ [q]) := by
  refine ⟨by simp [h.1], fun i h1 h2 => ?_⟩
  by_cases hi : i < hs.length
  · have hi2 : i < xs.length := by rw [← h.1]; exact hi
    simp only [List.getElem_append_left hi, List.getElem_append_left hi2]
    exact (h.2 i hi hi2).kept ha.chg (own_apart ho (h.2 i hi hi2))
  · have e1 : i = hs.length := by simp at h1; omega
    subst e1
    simp only [List.getElem_append_right (Nat.le_refl _), Nat.sub_self]
    have e2 : hs.length = xs.length := h.1
    simp only [e2, List.getElem_append_right (Nat.le_refl _), Nat.sub_self]
    exact hx.kept ha.chg (own_apart ho hx)
/-- how long a slice is -/
def slLen : Value → Nat | .slice _ n _ => n | _ => 0
theorem rowR_no (part : List UInt8 → Rd) (c : UInt8) (f : Nat) (l1 : List UInt8) (h : (takeB c l1).1 = false) : rowR part c f l1 = .ok ([], (takeB c l1).2) := by unfold rowR; rw [h]; rfl
theorem rowR_yes (part : List UInt8 → Rd) (c : UInt8) (f : Nat) (l1 : List UInt8) (h : (takeB c l1).1 = true) : rowR part c (f + 1) l1 = match part (takeB c l1).2 with
    | .error e => .error e
    | .ok (x, l3) => match rowR part c f l3 with
      | .error e => .error e
      | .ok (xs, l4) => .ok (x :: xs, l4) := by unfold rowR; rw [if_pos h, rowP_succ]; rfl
set_option maxRecDepth 100000 in
set_option maxHeartbeats 8000000 in
theorem row_any (c : UInt8) (hc : c ≠ 0) (B : Nat) (s l : List UInt8) (n fid : Nat) (part : List UInt8 → Rd) (hent : ∀ args W, (callFunc fid args).run Tryd.prog W = .ok (.enter fid args) W) (hp : PartOK B s n fid part) (hpl : PLen part) (hl : l.length < n) (w : World) (hr : RdS w B s l) (hlen : s.length ≤ 1000000) (hls : l.length ≤ 1000000) (hB : B < w.heap.size) (hT : LibT w) (hL : LibB B) :
    Calls Tryd.prog 54 #[.pointer (some ⟨B, 0, none⟩), Fk.u8 c, .func (.func fid) #[.pointer (some ⟨B, 0, none⟩)] #[]] w (RowPost w B s (rowP part c (l.length + 1) l)) := by
  have hrow := rowP_succ part c l.length l
  have HP := hid hp
  have HE := hid hent
  have HPL := hid hpl
  generalize hF : rowP part c (l.length + 1) l = X at *
  have HR := hid hrow
  clear hrow hF hp hpl
  go_enter Tryd.func54, Tryd.ntmps54
  go_wp2_with fail
  refine (HP.out l w hl hr hB hT).mono ?_
  intro e w1 h1
  cases hp1 : part l with
  | error m =>
    rw [hp1] at h1
    obtain ⟨⟨k, hk, rfl⟩, hc1, hs1⟩ := h1
    have HX : Hid (X = .error m) := by show _ = _; rw [HR.out, hp1]
    rw [HX.out]
    exact ⟨rfl, ⟨k, hk, rfl⟩, hc1, hs1⟩
  | ok y =>
    obtain ⟨x, l1⟩ := y
    rw [hp1] at h1
    obtain ⟨v, rfl, hown, hrd, hc1⟩ := h1
    have hpl1 := HPL.out l x l1 hp1
    have HX : Hid (X = match rowR part c l.length l1 with
      | .error e => .error e
      | .ok (xs, l3) => .ok ([x] ++ xs, l3)) := by show _ = _; rw [HR.out, hp1]; rfl
    obtain ⟨va, vc, hv⟩ := hown.shape'
    subst hv
    have hs1 := hc1.size
    have hown0 := own_lit eH w1 #[.slice va x.length vc] [(⟨va, x.length, vc⟩ : Hd)] 1 rfl (by simp [maxLen]) hs1 rfl
    have hf2 := (Fr.refl w1).alloc (.cells #[.slice va x.length vc] eH.e)
    have HO := hid hown0
    have hown2 := hown.fr hf2
    have hrd2 := hrd.fr hf2
    have hc2 := hc1.fr hf2
    have hT2 := (hT.chb hL hc1).fr hf2
    have hB2 : B < (w1.alloc (.cells #[.slice va x.length vc] eH.e)).heap.size := by simp; omega
    clear hown0 hown hrd hf2 hp1 HR
    go_wp2_with fail
    go_loopw [7] (fun ov wr => ∃ (hs : List Hd) (xs : List (List Stp)) (l1 : List UInt8) (f : Nat), Own wr w.heap.size eH ov hs ∧ Prts wr w.heap.size hs xs ∧ RdS wr B s l1 ∧ ChB B w wr ∧ l1.length ≤ f ∧ l1.length ≤ l.length ∧ xs.length + l1.length ≤ l.length + 1 ∧ Hid (X = match rowR part c f l1 with
      | .error e => .error e
      | .ok (ys, l3) => .ok (xs ++ ys, l3))) (fun ov wr => l.length + 2 - slLen ov)
    case atStart =>
      refine ⟨[⟨va, x.length, vc⟩], [x], l1, l.length, HO.out, ⟨rfl, ?_⟩, hrd2, hc2, by omega, by omega, by simp; omega, HX⟩
      intro i h h'
      have : i = 0 := by simp at h; omega
      subst this
      exact hown2
    case round =>
      clear hown2 hrd2 hc2 hB2 HO hT2 HX
      obtain ⟨hs, xs, l2, f, hown, hpr, hrd, hcw, hf, hll, hxl, HX⟩ := hrel
      obtain ⟨oa, oc, hov⟩ := hown.shape'
      subst hov
      have hlx := hpr.1
      have tk := take_le c l2
      cases htk : (takeB c l2).1 with
      | false =>
        have HTk := hid htk
        have HX2 : Hid (X = .ok (xs, (takeB c l2).2)) := by show _ = _; rw [HX.out, rowR_no part c f l2 htk]; simp
        clear htk HX hlx
        go_wp2_with fail
        refine (take_any c hc B s l2 _ hrd (by omega)).mono ?_
        rintro e w2 ⟨he, hrd3, hc3⟩
        rw [HTk.out] at he
        subst he
        go_wp2_with fail
        go_ret
        rw [HX2.out]
        exact ⟨_, hs, rfl, own_chb hown hB hc3, hpr.chb hB hc3, hrd3, hcw.trans hc3⟩
      | true =>
        have tk2 := tk.2 htk
        obtain ⟨f, rfl⟩ : ∃ g, f = g + 1 := ⟨f - 1, by omega⟩
        have HTk := hid htk
        have hyes := rowR_yes part c f l2 htk
        have HY := hid hyes
        have HLX := hid hlx
        clear htk hyes hlx tk
        generalize hl3 : (takeB c l2).2 = l3 at *
        have HL3 := hid hl3
        clear hl3
        go_wp2_with fail
        refine (take_any c hc B s l2 _ hrd (by omega)).mono ?_
        rintro e w2 ⟨he, hrd3, hc3⟩
        rw [HTk.out] at he
        rw [HL3.out] at hrd3
        subst he
        have hcw2 := hcw.trans hc3
        have hown2 := own_chb hown hB hc3
        have hpr2 := hpr.chb hB hc3
        have hB2 : B < w2.heap.size := by have := hcw2.size; omega
        have hT2 := hT.chb hL hcw2
        clear hown hpr hrd hc3
        go_wp2_with fail
        refine (HP.out l3 w2 (by omega) hrd3 hB2 hT2).mono ?_
        intro e w3 h3
        cases hp3 : part l3 with
        | error m =>
          rw [hp3] at h3
          obtain ⟨⟨k, hk, rfl⟩, hc4, hs4⟩ := h3
          have HX2 : Hid (X = .error m) := by show _ = _; rw [HX.out, HY.out, hp3]
          go_wp2_with fail
          refine ⟨rfl, ?_⟩
          rw [HX2.out]
          exact ⟨⟨k, hk, rfl⟩, hcw2.trans hc4, by have := hcw2.size; omega⟩
        | ok y =>
          obtain ⟨z, l4⟩ := y
          rw [hp3] at h3
          obtain ⟨v, rfl, hownz, hrd4, hc4⟩ := h3
          have hpl3 := HPL.out l3 z l4 hp3
          have HX2 : Hid (X = match rowR part c f l4 with
            | .error e => .error e
            | .ok (ys, l5) => .ok ((xs ++ [z]) ++ ys, l5)) := by
            show _ = _; rw [HX.out, HY.out, hp3]; simp only; cases rowR part c f l4 with
            | error e => rfl
            | ok y => simp
          obtain ⟨za, zc, hz⟩ := hownz.shape'
          subst hz
          have hcw3 := hcw2.trans hc4
          have hown3 := own_chb hown2 hB hc4
          have hpr3 := hpr2.chb hB hc4
          have hownz2 := hownz.rebase hcw2.size
          clear hown2 hpr2 hownz hp3 hrd3 HX HY hT2
          go_wp2_with (at_builtin; refine wpList_app1 eH rfl (.tmp 14) (.tmp 17) 31 rfl Tryd.underlying31 w.heap.size rfl hown3 [(⟨za, z.length, zc⟩ : Hd)] _ _ _ rfl rfl rfl ?c1 ?c2 ?_)
          case c1 => simp; have := HLX.out; omega
          case c2 => exact hcw3.size
          intro v' w4 hap
          have hx3 := hpr3.app hown3 (x := ⟨za, z.length, zc⟩) hownz2 hap
          obtain ⟨va', vc', hv'⟩ := hap.own.shape'
          subst hv'
          have hBne : ∀ k, (Value.slice oa hs.length oc).ownBlock = some k → ¬ k = B := fun k hk e => by have := (hown3.lt k hk).1; omega
          have hrd5 : RdS w4 B s l4 := by
            obtain ⟨lq, ⟨i, q1, q2, q3⟩, q4⟩ := hrd4
            exact ⟨lq, ⟨i, q1, q2, hap.chg'.heap q3 (fun e => hBne B e rfl)⟩, q4⟩
          have hcw4 : ChB B w w4 := Chg.trans hcw3 hap.chg' (fun i hi hk => by have := (hown3.lt i hk).1; omega)
          have hap2 := hap.own
          go_wp2_with fail
          go_roundw
          case rel => exact ⟨hs ++ [⟨za, z.length, zc⟩], xs ++ [z], l4, f, hap2, hx3, hrd5, hcw4, by omega, by omega, by simp; omega, HX2⟩
          case measure => simp [slLen]; have := HLX.out; omega
end Go.Proofs.YtjepodlalcnecaaDoor
