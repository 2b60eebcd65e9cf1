/- Parts of the proof of ThreeMends: Tr1. -/
import Derived.Test.YtfhdgenlpmlajaaGreatDoorM12
import Derived.Test.YtfhdgenlpmlajaaGreatDoorM27
set_option linter.unusedVariables false
set_option linter.unusedSectionVars false
set_option linter.unusedSimpArgs false
set_option maxHeartbeats 8000000
namespace Go.Proofs.YtfhdgenlpmlajaaGreatDoor
open Go.RowKit Go.Fk
theorem CurF.box {w w' : World} {T T2 : TypeId} {B base n er g : Nat} {l : List UInt8} {cs : Array Value} {f : Nat × Nat} (h : CurF w T B base l n er) (hg : w.heap[g]? = some (.cells cs T2 f)) (hT : T2 ≠ (eB : Elt Tryz.prog UInt8).e) (hgB : B ≠ g) (hc : Chg (fun k => k = g) w w') : CurF w' T B base l n er := by
 obtain ⟨⟨v, h1, h2⟩, h3⟩ := h
 exact ⟨⟨v, hc.heap h1 hgB, h2.chg hc (fun k hk e => h2.ne_cells hg hT (by rw [hk, e]))⟩, h3⟩
def optE (o : Opt) : Int := if opt3 o then 0 else 9
set_option maxRecDepth 100000
theorem head_read (v : Value) (h : List UInt8) (w : World) (hs : See w eB v h) (hl : h.length = 21) :
    Calls Tryz.prog 22 #[v] w fun e w' => Fr w w' ∧ ((1 < hX h ∧ e = .returned (.tuple #[.pointer none, .int .i64 2])) ∨ (hX h ≤ 1 ∧ ∃ g, e = .returned (.tuple #[.pointer (some ⟨g, 0, none⟩), .int .i64 (optE (optH h))]) ∧ w.heap.size ≤ g ∧ w'.heap[g]? = some (hdB (hSz h) (hP h) (hBu h) (hD h) (hQ h) (hC h) (hN h) (.int .u8 (hX h : Int))))) := by
  obtain ⟨a0, cap, hv, hc1, hc2, _⟩ := hs.shape
  subst hv
  obtain ⟨fa, fc, hfr, hfs⟩ := run_from eB 22 Tryz.underlying22 hs 5 (by omega)
  rw [hl, show 21 - 5 = 16 from rfl] at hfr hfs
  rw [hl]
  have hfr5 : ∀ W, (Instr.slice 22 (.slice a0 21 cap) (some (.int .i64 5)) none none).run Tryz.prog W = .ok (.slice fa 16 fc) W := hfr
  clear hfr
  have hl5 : (h.drop 5).length = 16 := by rw [List.length_drop, hl]
  have HNew := hid (New_any _ (h.drop 5) w hfs (by omega))
  have g0 : (h.drop 5).getD 0 0 = h.getD 5 0 := by rw [getD_at _ _ _ (by omega), getD_at _ _ _ (by omega)]; simp
  have g1 : (h.drop 5).getD 1 0 = h.getD 6 0 := by rw [getD_at _ _ _ (by omega), getD_at _ _ _ (by omega)]; simp
  have g2 : (h.drop 5).getD 2 0 = h.getD 7 0 := by rw [getD_at _ _ _ (by omega), getD_at _ _ _ (by omega)]; simp
  have g3 : (h.drop 5).getD 3 0 = h.getD 8 0 := by rw [getD_at _ _ _ (by omega), getD_at _ _ _ (by omega)]; simp
  have q1 : ((h.drop 5).drop 4).take 2 = (h.drop 9).take 2 := by rw [List.drop_drop]
  have q2 : ((h.drop 5).drop 6).take 2 = (h.drop 11).take 2 := by rw [List.drop_drop]
  have q3 : ((h.drop 5).drop 8).take 4 = (h.drop 13).take 4 := by rw [List.drop_drop]
  have HB0 := hid (fun B W (hc : CurF W 142 B w.heap.size (h.drop 5) 0 0) (hb : w.heap.size ≤ W.heap.size) => Byte_yes B w.heap.size 0 (h.drop 5) W hc (by omega) (by omega) hb)
  have HB1 := hid (fun B W (hc : CurF W 142 B w.heap.size (h.drop 5) 1 0) (hb : w.heap.size ≤ W.heap.size) => Byte_yes B w.heap.size 1 (h.drop 5) W hc (by omega) (by omega) hb)
  have HB2 := hid (fun B W (hc : CurF W 142 B w.heap.size (h.drop 5) 2 0) (hb : w.heap.size ≤ W.heap.size) => Byte_yes B w.heap.size 2 (h.drop 5) W hc (by omega) (by omega) hb)
  have HB3 := hid (fun B W (hc : CurF W 142 B w.heap.size (h.drop 5) 3 0) (hb : w.heap.size ≤ W.heap.size) => Byte_yes B w.heap.size 3 (h.drop 5) W hc (by omega) (by omega) hb)
  have HF4 := hid (fun B W (hc : CurF W 142 B w.heap.size (h.drop 5) 4 0) (hb : w.heap.size ≤ W.heap.size) => CFixed_yes B w.heap.size 4 2 (h.drop 5) W hc (by omega) (by omega) (by omega) (by omega) hb)
  have HF6 := hid (fun B W (hc : CurF W 142 B w.heap.size (h.drop 5) 6 0) (hb : w.heap.size ≤ W.heap.size) => CFixed_yes B w.heap.size 6 2 (h.drop 5) W hc (by omega) (by omega) (by omega) (by omega) hb)
  have HF8 := hid (fun B W (hc : CurF W 142 B w.heap.size (h.drop 5) 8 0) (hb : w.heap.size ≤ W.heap.size) => CFixed_yes B w.heap.size 8 4 (h.drop 5) W hc (by omega) (by omega) (by omega) (by omega) hb)
  rw [g0] at HB0
  rw [g1] at HB1
  rw [g2] at HB2
  rw [g3] at HB3
  rw [q1] at HF4
  rw [q2] at HF6
  rw [q3] at HF8
  have HO := hid (fun W => show Calls Tryz.prog 18 #[.int .i64 3, optV (optH h)] W fun e w' => e = .returned (.int .i64 (optE (optH h))) ∧ Fr W w' from OCheck3_any (optH h) W)
  have HOe : Hid (optV (optH h) = .agg #[N (leN ((h.drop 11).take 2)), .bool (decide ((h.getD 5 0).toNat = 1)), N (h.getD 6 0).toNat, N (h.getD 7 0).toNat, N (h.getD 8 0).toNat, N (leN ((h.drop 9).take 2))]) := rfl
  have HHd : Hid (∀ xv, hdB (hSz h) (hP h) (hBu h) (hD h) (hQ h) (hC h) (hN h) xv = hdB (leN ((h.drop 11).take 2)) (decide ((h.getD 5 0).toNat = 1)) (h.getD 6 0).toNat (h.getD 7 0).toNat (h.getD 8 0).toNat (leN ((h.drop 9).take 2)) (leN ((h.drop 13).take 4)) xv) := fun _ => rfl
  have HXe : Hid (hX h = (h.getD 5 0).toNat) := rfl
  rw [HOe.out] at HO
  have b1 := UInt8.toNat_lt (h.getD 5 0)
  have b2 := UInt8.toNat_lt (h.getD 6 0)
  have b3 := UInt8.toNat_lt (h.getD 7 0)
  have b4 := UInt8.toNat_lt (h.getD 8 0)
  have c1 : leN ((h.drop 9).take 2) < 256 ^ 2 := by have := leN_lt ((h.drop 9).take 2); rw [List.length_take, List.length_drop, hl] at this; exact this
  have c2 : leN ((h.drop 11).take 2) < 256 ^ 2 := by have := leN_lt ((h.drop 11).take 2); rw [List.length_take, List.length_drop, hl] at this; exact this
  have c3 : leN ((h.drop 13).take 4) < 256 ^ 4 := by have := leN_lt ((h.drop 13).take 4); rw [List.length_take, List.length_drop, hl] at this; exact this
  rw [show (256 : Nat) ^ 2 = 65536 from by decide] at c1 c2
  rw [show (256 : Nat) ^ 4 = 4294967296 from by decide] at c3
  clear g0 g1 g2 g3 q1 q2 q3 hs hfs hl5 hl HOe
  generalize optE (optH h) = OE at *
  generalize leN ((h.drop 9).take 2) = fC at *
  generalize leN ((h.drop 11).take 2) = fS at *
  generalize leN ((h.drop 13).take 4) = fN at *
  generalize (h.getD 5 0).toNat = x at *
  generalize (h.getD 6 0).toNat = xb at *
  generalize (h.getD 7 0).toNat = xd at *
  generalize (h.getD 8 0).toNat = xq at *
  generalize h.drop 5 = l5 at *
  have w1 : IntKind.i64.wrap (xb : Int) = (xb : Int) := wrap_i64 _ (by omega)
  have w2 : IntKind.i64.wrap (xd : Int) = (xd : Int) := wrap_i64 _ (by omega)
  have w3 : IntKind.i64.wrap (xq : Int) = (xq : Int) := wrap_i64 _ (by omega)
  have w4 : IntKind.i64.wrap (fC : Int) = (fC : Int) := wrap_i64 _ (by omega)
  have w5 : IntKind.i64.wrap (fS : Int) = (fS : Int) := wrap_i64 _ (by omega)
  have w6 : IntKind.i64.wrap (fN : Int) = (fN : Int) := wrap_i64 _ (by omega)
  have hpb : ((x : Int) == 1) = decide (x = 1) := by
    rw [show ((x : Int) == 1) = decide ((x : Int) = 1) from rfl]
    exact decide_eq_decide.2 ⟨fun h => by omega, fun h => by omega⟩
  generalize decide (x = 1) = p at *
  go_enter Tryz.func22, Tryz.ntmps22
  go_wp2_with fail
  refine (HNew.out).mono ?_
  rintro e W1 ⟨B, rfl, hC1, hf1, hBs⟩
  have HBB := hid (HB0.out B W1 hC1 hf1.size)
  go_wp2_with fail
  refine (HBB.out).mono ?_
  rintro e W2 ⟨rfl, hC2, hch2⟩
  have hf2 : Fr w W2 := Chg.below hf1 hch2 hf1.size (fun i e => by have e : i = B := e; omega)
  have hBW : B < W2.heap.size := by obtain ⟨⟨v, h1, _⟩, _⟩ := hC2; exact (Array.getElem?_eq_some_iff.1 h1).1
  go_wp2_with fail
  have hfA : Fr W2 (W2.alloc (.cells #[.int .i64 0, .bool p, .int .i64 0, .int .i64 0, .int .i64 0, .int .i64 0, .int .i64 0, .int .u8 (x : Int)] 38)) := (Fr.refl W2).alloc _
  have hG3 := heap_new W2 (.cells #[.int .i64 0, .bool p, .int .i64 0, .int .i64 0, .int .i64 0, .int .i64 0, .int .i64 0, .int .u8 (x : Int)] 38) W2.heap.size rfl
  generalize W2.alloc (.cells #[.int .i64 0, .bool p, .int .i64 0, .int .i64 0, .int .i64 0, .int .i64 0, .int .i64 0, .int .u8 (x : Int)] 38) = W3 at *
  have hgs : w.heap.size ≤ W2.heap.size := hf2.size
  generalize W2.heap.size = g at *
  have hf3 := hf2.trans hfA
  have hC3 := hC2.fr hfA
  have HB4 := hid (HB1.out B W3 hC3 hf3.size)
  clear HBB HNew hC1 hC2 hf1 hf2 hch2 hfA HB0 HB1
  refine (HB4.out).mono ?_
  rintro e W4 ⟨rfl, hC4, hch4⟩
  have hf4 : Fr w W4 := Chg.below hf3 hch4 hf3.size (fun i e => by have e : i = B := e; omega)
  have hG4 := hch4.heap hG3 (by omega)
  have HB5 := hid (HB2.out B W4 hC4 hf4.size)
  clear HB4 HB2 hC3 hf3 hch4 hG3
  go_wp2_with fail
  refine (HB5.out).mono ?_
  rintro e W5 ⟨rfl, hC5, hch5⟩
  have hf5 : Fr w W5 := Chg.below hf4 hch5 hf4.size (fun i e => by have e : i = B := e; omega)
  have hG5 := hch5.heap hG4 (by omega)
  have HB6 := hid (HB3.out B W5 hC5 hf5.size)
  clear HB5 HB3 hC4 hf4 hch5 hG4
  go_wp2_with fail
  refine (HB6.out).mono ?_
  rintro e W6 ⟨rfl, hC6, hch6⟩
  have hf6 : Fr w W6 := Chg.below hf5 hch6 hf5.size (fun i e => by have e : i = B := e; omega)
  have hG6 := hch6.heap hG5 (by omega)
  clear HB6 hC5 hf5 hch6 hG5
  have d2 : W6.cell? ⟨g, 2, none⟩ = some (.int .i64 0) := by rw [cell_of_heap hG6]; rfl
  have d3 : W6.cell? ⟨g, 3, none⟩ = some (.int .i64 0) := by rw [cell_of_heap hG6]; rfl
  have d4 : W6.cell? ⟨g, 4, none⟩ = some (.int .i64 0) := by rw [cell_of_heap hG6]; rfl
  have z2 := frozen_of_heap hG6 2
  have z3 := frozen_of_heap hG6 3
  have z4 := frozen_of_heap hG6 4
  go_wp2_with fail
  have hG7 := heap_setCell_own (heap_setCell_own (heap_setCell_own hG6 2 (.int .i64 (xb : Int))) 3 (.int .i64 (xd : Int))) 4 (.int .i64 (xq : Int))
  have hG7' : (((W6.setCell ⟨g, 2, none⟩ (.int .i64 (xb : Int))).setCell ⟨g, 3, none⟩ (.int .i64 (xd : Int))).setCell ⟨g, 4, none⟩ (.int .i64 (xq : Int))).heap[g]? = some (.cells #[.int .i64 0, .bool p, N xb, N xd, N xq, .int .i64 0, .int .i64 0, .int .u8 (x : Int)] 38 (0, 0)) := by simpa using hG7
  have hch7 : Chg (fun k => k = g) W6 (((W6.setCell ⟨g, 2, none⟩ (.int .i64 (xb : Int))).setCell ⟨g, 3, none⟩ (.int .i64 (xd : Int))).setCell ⟨g, 4, none⟩ (.int .i64 (xq : Int))) :=
    ((setCell_chg W6 ⟨g, 2, none⟩ _).trans (setCell_chg _ ⟨g, 3, none⟩ _) (fun _ _ e => e)).trans (setCell_chg _ ⟨g, 4, none⟩ _) (fun _ _ e => e)
  have hBg : B ≠ g := by omega
  have hC7 := hC6.box hG6 (by decide) hBg hch7
  have hf7 : Fr w (((W6.setCell ⟨g, 2, none⟩ (.int .i64 (xb : Int))).setCell ⟨g, 3, none⟩ (.int .i64 (xd : Int))).setCell ⟨g, 4, none⟩ (.int .i64 (xq : Int))) := Chg.below hf6 hch7 hf6.size (fun i e => by have e : i = g := e; omega)
  clear hG7 hch7 hC6 hf6 hG6 d2 d3 d4 z2 z3 z4
  generalize ((W6.setCell ⟨g, 2, none⟩ (.int .i64 (xb : Int))).setCell ⟨g, 3, none⟩ (.int .i64 (xd : Int))).setCell ⟨g, 4, none⟩ (.int .i64 (xq : Int)) = W7 at *
  have HB8 := hid (HF4.out B W7 hC7 hf7.size)
  refine (HB8.out).mono ?_
  rintro e W8 ⟨rfl, hC8, hch8⟩
  have hf8 : Fr w W8 := Chg.below hf7 hch8 hf7.size (fun i e => by have e : i = B := e; omega)
  have hG8 := hch8.heap hG7' (fun e => hBg e.symm)
  have HB9 := hid (HF6.out B W8 hC8 hf8.size)
  clear HB8 HF4 hC7 hf7 hch8 hG7'
  go_wp2_with fail
  refine (HB9.out).mono ?_
  rintro e W9 ⟨rfl, hC9, hch9⟩
  have hf9 : Fr w W9 := Chg.below hf8 hch9 hf8.size (fun i e => by have e : i = B := e; omega)
  have hG9 := hch9.heap hG8 (fun e => hBg e.symm)
  clear HB9 HF6 hC8 hf8 hch9 hG8
  have d5 : W9.cell? ⟨g, 5, none⟩ = some (.int .i64 0) := by rw [cell_of_heap hG9]; rfl
  have d0 : W9.cell? ⟨g, 0, none⟩ = some (.int .i64 0) := by rw [cell_of_heap hG9]; rfl
  have z5 := frozen_of_heap hG9 5
  have z0 := frozen_of_heap hG9 0
  go_wp2_with fail
  have hGa := heap_setCell_own (heap_setCell_own hG9 5 (.int .i64 (fC : Int))) 0 (.int .i64 (fS : Int))
  have hGa' : ((W9.setCell ⟨g, 5, none⟩ (.int .i64 (fC : Int))).setCell ⟨g, 0, none⟩ (.int .i64 (fS : Int))).heap[g]? = some (.cells #[N fS, .bool p, N xb, N xd, N xq, N fC, .int .i64 0, .int .u8 (x : Int)] 38 (0, 0)) := by simpa using hGa
  have hcha : Chg (fun k => k = g) W9 ((W9.setCell ⟨g, 5, none⟩ (.int .i64 (fC : Int))).setCell ⟨g, 0, none⟩ (.int .i64 (fS : Int))) :=
    (setCell_chg W9 ⟨g, 5, none⟩ _).trans (setCell_chg _ ⟨g, 0, none⟩ _) (fun _ _ e => e)
  have hCa := hC9.box hG9 (by decide) hBg hcha
  have hfa : Fr w ((W9.setCell ⟨g, 5, none⟩ (.int .i64 (fC : Int))).setCell ⟨g, 0, none⟩ (.int .i64 (fS : Int))) := Chg.below hf9 hcha hf9.size (fun i e => by have e : i = g := e; omega)
  clear hGa hcha hC9 hf9 hG9 d0 d5 z0 z5
  generalize (W9.setCell ⟨g, 5, none⟩ (.int .i64 (fC : Int))).setCell ⟨g, 0, none⟩ (.int .i64 (fS : Int)) = Wa at *
  have HBb := hid (HF8.out B Wa hCa hfa.size)
  refine (HBb.out).mono ?_
  rintro e Wb ⟨rfl, hCb, hchb⟩
  have hfb : Fr w Wb := Chg.below hfa hchb hfa.size (fun i e => by have e : i = B := e; omega)
  have hGb := hchb.heap hGa' (fun e => hBg e.symm)
  clear HBb HF8 hCa hfa hchb hGa' hCb
  have e6 : Wb.cell? ⟨g, 6, none⟩ = some (.int .i64 0) := by rw [cell_of_heap hGb]; rfl
  have z6 := frozen_of_heap hGb 6
  have hGc := heap_setCell_own hGb 6 (.int .i64 (fN : Int))
  have hGc' : (Wb.setCell ⟨g, 6, none⟩ (.int .i64 (fN : Int))).heap[g]? = some (.cells #[N fS, .bool p, N xb, N xd, N xq, N fC, N fN, .int .u8 (x : Int)] 38 (0, 0)) := by simpa using hGc
  have hfc : Fr w (Wb.setCell ⟨g, 6, none⟩ (.int .i64 (fN : Int))) := Chg.below hfb (setCell_chg Wb ⟨g, 6, none⟩ _) hfb.size (fun i e => by have e : i = g := e; omega)
  clear hGc
  have u0 : (Wb.setCell ⟨g, 6, none⟩ (.int .i64 (fN : Int))).cell? ⟨g, 0, none⟩ = some (N fS) := by rw [cell_of_heap hGc']; rfl
  have u1 : (Wb.setCell ⟨g, 6, none⟩ (.int .i64 (fN : Int))).cell? ⟨g, 1, none⟩ = some (.bool p) := by rw [cell_of_heap hGc']; rfl
  have u2 : (Wb.setCell ⟨g, 6, none⟩ (.int .i64 (fN : Int))).cell? ⟨g, 2, none⟩ = some (N xb) := by rw [cell_of_heap hGc']; rfl
  have u3 : (Wb.setCell ⟨g, 6, none⟩ (.int .i64 (fN : Int))).cell? ⟨g, 3, none⟩ = some (N xd) := by rw [cell_of_heap hGc']; rfl
  have u4 : (Wb.setCell ⟨g, 6, none⟩ (.int .i64 (fN : Int))).cell? ⟨g, 4, none⟩ = some (N xq) := by rw [cell_of_heap hGc']; rfl
  have u5 : (Wb.setCell ⟨g, 6, none⟩ (.int .i64 (fN : Int))).cell? ⟨g, 5, none⟩ = some (N fC) := by rw [cell_of_heap hGc']; rfl
  have u7 : (Wb.setCell ⟨g, 6, none⟩ (.int .i64 (fN : Int))).cell? ⟨g, 7, none⟩ = some (.int .u8 (x : Int)) := by rw [cell_of_heap hGc']; rfl
  by_cases hx : 1 < x
  · have i1 : (1 : Int) < x := by omega
    have HXX := hid (show 1 < hX h by rw [HXe.out]; exact hx)
    clear hx HO
    go_wp2_with fail
    go_ret2
    exact ⟨hfc, .inl ⟨HXX.out, rfl⟩⟩
  · have i1 : ¬ (1 : Int) < x := by omega
    have HXX := hid (show hX h ≤ 1 by rw [HXe.out]; omega)
    have HGc := hid hGc'
    clear hx hGc'
    go_wp2_with fail
    refine (HO.out _).mono ?_
    rintro e Wd ⟨rfl, hfd⟩
    have hGd := hfd.heap HGc.out
    have hfdd := hfc.trans hfd
    go_wp2_with fail
    go_ret2
    refine ⟨hfdd, .inr ⟨HXX.out, g, rfl, hgs, ?_⟩⟩
    rw [HHd.out, HXe.out]
    exact hGd
set_option maxRecDepth 512
end Go.Proofs.YtfhdgenlpmlajaaGreatDoor
