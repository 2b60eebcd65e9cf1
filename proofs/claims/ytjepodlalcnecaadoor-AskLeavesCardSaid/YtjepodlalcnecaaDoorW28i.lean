/- Walks of ask: the reader's signs. -/
import Derived.Test.YtjepodlalcnecaaDoorW28h
import Derived.Test.YtjepodlalcnecaaDoorSpec28d
set_option linter.unusedVariables false
namespace Go.Proofs.YtjepodlalcnecaaDoor
open Go.RowKit Go.Fk
/-- the reader in block B stands ahead of l -/
def RdL (w : World) (B : Nat) (s l : List UInt8) : Prop := ∃ i : Nat, i + l.length = s.length ∧ s.drop i = l ∧ w.heap[B]? = some (.cells #[S s, .int .i64 i] 71 (0, 0))
/-- nothing has turned but the reader -/
def ChB (B : Nat) (w w' : World) : Prop := Chg (fun k => k = B) w w'
theorem ChB.refl (B : Nat) (w : World) : ChB B w w := Chg.refl _ w
theorem ChB.trans {B : Nat} {a b c : World} (h : ChB B a b) (k : ChB B b c) : ChB B a c := Chg.trans h k (fun _ _ h => h)
theorem ChB.fr {B : Nat} {a b c : World} (h : ChB B a b) (k : Fr b c) : ChB B a c := ChB.trans h (k.chg _)
theorem RdL.fr {w w' : World} {B : Nat} {s l : List UInt8} (h : RdL w B s l) (hf : Fr w w') : RdL w' B s l := by
  obtain ⟨i, h1, h2, h3⟩ := h
  exact ⟨i, h1, h2, hf.heap h3⟩
theorem rd_cells {w : World} {B : Nat} {s : List UInt8} {i : Int} (h : w.heap[B]? = some (.cells #[S s, .int .i64 i] 71 (0, 0))) :
    w.cell? ⟨B, 0, none⟩ = some (S s) ∧ w.cell? ⟨B, 1, none⟩ = some (.int .i64 i) ∧ w.frozen? ⟨B, 1, none⟩ = false :=
  ⟨cell_of_heap h 0, cell_of_heap h 1, frozen_of_heap h 1⟩
theorem rd_set {w : World} {B : Nat} {s : List UInt8} {i : Int} (h : w.heap[B]? = some (.cells #[S s, .int .i64 i] 71 (0, 0))) (j : Int) :
    (w.setCell ⟨B, 1, none⟩ (.int .i64 j)).heap[B]? = some (.cells #[S s, .int .i64 j] 71 (0, 0)) ∧ ChB B w (w.setCell ⟨B, 1, none⟩ (.int .i64 j)) :=
  ⟨heap_setCell_own h 1 _, by show Chg (fun k => k = B) _ _; exact setCell_chg w ⟨B, 1, none⟩ _⟩
theorem heap_drewN (w : World) (n : Nat) : (w.drewN n).heap = w.heap := by
  have := (Fr.drewN (Fr.refl w) n)
  induction n with
  | zero => rfl
  | succ n ih => simp
theorem drop_at {s l : List UInt8} {i : Nat} {c : UInt8} (h : s.drop i = c :: l) : ∃ hi : i < s.length, s[i] = c ∧ s.drop (i + 1) = l := by
  have hi : i < s.length := by
    apply Classical.byContradiction; intro hn; rw [List.drop_eq_nil_of_le (by omega)] at h; cases h
  rw [List.drop_eq_getElem_cons hi] at h
  simp only [List.cons.injEq] at h
  exact ⟨hi, h.1, h.2⟩
/-- the byte of a sign -/
def sgn (l : List UInt8) : UInt8 := (skipB l).headD 0
set_option maxRecDepth 100000 in
set_option maxHeartbeats 1000000 in
theorem sign_any (B : Nat) (s l : List UInt8) (w : World) (hr : RdL w B s l) (hlen : s.length ≤ 1000000000) :
    Calls Tryd.prog 46 #[.pointer (some ⟨B, 0, none⟩)] w fun e w' => e = .returned (Fk.u8 (sgn l)) ∧ RdL w' B s (skipB l) ∧ ChB B w w' := by
  go_enter Tryd.func46, Tryd.ntmps46
  go_wp2_with fail
  go_loopw [] (fun wr => ∃ l1 : List UInt8, RdL wr B s l1 ∧ Hid (skipB l = skipB l1) ∧ ChB B w wr) (fun wr => match wr.heap[B]? with | some (.cells cs _ _) => s.length - (intOf (cs.getD 1 undef)).toNat | _ => 0)
  case atStart => exact ⟨l, hr, rfl, ChB.refl B w⟩
  case round =>
    obtain ⟨l1, ⟨i, hil, hd, hb⟩, HS, hc⟩ := hrel
    obtain ⟨c0, c1, g1⟩ := rd_cells hb
    have i0 : (0 : Int) ≤ i := by omega
    have HB := hid hb
    have HC := hid hc
    clear hb hc
    match l1 with
    | [] =>
      have hie : ((i : Int) < s.length) = False := by simp at hil; simp; omega
      have hlt : ¬ (i : Int) < s.length := by simp at hil; omega
      have heq : ((i : Int) == s.length) = true := by simp at hil; simp; omega
      have HE : Hid (skipB l = []) := HS.out
      have HD := hid hd
      have HIL := hid hil
      clear hd hil hie
      have hq : decide (i < s.length) = false := by simp; omega
      go_wp2_with fail
      go_quiet (fail)
      go_wp2_with fail
      go_quiet (fail)
      go_wp2_with fail
      go_ret
      have hsg : sgn l = 0 := by unfold sgn; rw [HE.out]; rfl
      refine ⟨by rw [hsg]; rfl, ?_, ?_⟩
      · rw [HE.out]
        exact ⟨i, HIL.out, HD.out, (((Fr.refl _).drewN _).drewN _).heap HB.out⟩
      · exact HC.out.fr (((Fr.refl _).drewN _).drewN _)
    | c :: l2 =>
      obtain ⟨hi, hci, hd2⟩ := drop_at hd
      have hcb : (⟨s.toArray⟩ : ByteArray)[i]'(by simp [ByteArray.size]; omega) = c := hci
      have hlt : (i : Int) < s.length := by omega
      have heq : ((i : Int) == s.length) = false := by simp; omega
      have hq : decide (i < s.length) = true := by simp; omega
      have hw1 : IntKind.i64.wrap ((i : Int) + 1) = (i : Int) + 1 := IntWalk.i64_in _ (by omega)
      have HD := hid hd
      have HD2 := hid hd2
      have HIL := hid hil
      clear hd hd2 hil hci
      by_cases h32 : c = 32
      · have b32 : ((c.toNat : Int) == 32) = true := by rw [h32]; rfl
        have HE : Hid (skipB l = skipB l2) := by show _ = _; rw [HS.out, h32, skip_blank]
        clear h32
        go_wp2_with fail
        go_quiet (fail)
        go_wp2_with fail
        have HBn := ((Fr.refl wr).drewN nq).heap HB.out
        obtain ⟨hb2, hc2⟩ := rd_set HBn ((i : Int) + 1)
        refine ⟨⟨l2, ⟨i + 1, by have := HIL.out; simp at this; omega, HD2.out, by rw [hb2]; rfl⟩, HE, (HC.out.fr ((Fr.refl _).drewN _)).trans hc2⟩, ?_⟩
        rw [hb2, HB.out]
        simp [intOf]
        omega
      · have b32 : ((c.toNat : Int) == 32) = false := by simp; exact fun e => h32 (UInt8.toNat_inj.1 (by show c.toNat = 32; omega))
        have HE : Hid (skipB l = c :: l2) := by show _ = _; rw [HS.out, skip_other c l2 h32]
        clear h32
        go_wp2_with fail
        go_quiet (fail)
        go_wp2_with fail
        go_quiet (fail)
        go_wp2_with fail
        go_quiet (fail)
        go_wp2_with fail
        go_ret
        have hsg : sgn l = c := by unfold sgn; rw [HE.out]; rfl
        refine ⟨by rw [hsg]; rfl, ?_, ?_⟩
        · rw [HE.out]
          exact ⟨i, HIL.out, HD.out, ((((Fr.refl _).drewN _).drewN _).drewN _).heap HB.out⟩
        · exact HC.out.fr ((((Fr.refl _).drewN _).drewN _).drewN _)
end Go.Proofs.YtjepodlalcnecaaDoor
