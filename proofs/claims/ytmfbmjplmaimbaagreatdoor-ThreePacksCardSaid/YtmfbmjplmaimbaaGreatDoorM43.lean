/- Parts of the proof of ThreePacks: D6 D7 D8 D9 Da Db Dc Dd. -/
import Derived.Test.YtmfbmjplmaimbaaGreatDoorM42
import Derived.Test.YtmfbmjplmaimbaaGreatDoorM13
import Derived.Test.YtmfbmjplmaimbaaGreatDoorM37
import Derived.Test.YtmfbmjplmaimbaaGreatDoorM40
import Derived.Test.YtmfbmjplmaimbaaGreatDoorM36
import Derived.Test.YtmfbmjplmaimbaaGreatDoorM01
set_option linter.unusedVariables false
set_option linter.unusedSectionVars false
set_option linter.unusedSimpArgs false
set_option maxHeartbeats 8000000
namespace Go.Proofs.YtmfbmjplmaimbaaGreatDoor
open Go.RowKit Go.Fk
set_option maxRecDepth 100000
theorem RMake_bad (o : Opt) (ho : opt2 o = true) (v : Value) (l : List Rec) (w : World) (hs : See w eR v l) (hl : okLog l = false) :
  Calls Tryz.prog 18 #[optV o, v] w fun e w' => e = .returned (.tuple #[.slice none 0 0, .int .i64 6]) ∧ Fr w w' := by
 have HC := hid (fun W => rbcheck_any o W)
 rw [if_pos ho] at HC
 have HQ := hid (fun W (h : Fr w W) => RQCheck_any v l W (hs.fr h))
 rw [if_neg (by rw [hl]; simp)] at HQ
 obtain ⟨a0, cap, hv, _⟩ := hs.shape
 subst hv
 clear hs hl ho
 go_enter Tryz.func18, Tryz.ntmps18
 go_wp2_with fail
 refine (HC.out _).mono ?_
 rintro e w1 ⟨rfl, hf1⟩
 have hf01 : Fr w w1 := ((Fr.refl w).alloc _).trans hf1
 go_wp2_with fail
 refine (HQ.out _ hf01).mono ?_
 rintro e w2 ⟨rfl, hf2⟩
 go_wp2_with fail
 go_ret2
 exact ⟨rfl, hf01.trans hf2⟩
theorem RMake_any (sz bu : Nat) (p : Bool) (d q c : Int) (h1 : 16 ≤ sz) (h2 : sz ≤ 32768) (h3 : 1 ≤ bu) (h4 : bu ≤ 64) (v : Value) (l : List Rec) (w : World) (hs : See w eR v l) (hl : SmallL l) :
  Calls Tryz.prog 18 #[optV ⟨(sz : Int), p, (bu : Int), d, q, c⟩, v] w fun e w' => ∃ u, e = .returned (.tuple #[u, .int .i64 0]) ∧ Ow w' w.heap.size eB u (bodyL sz bu p l) ∧ Fr w w' := by
 have ho : opt2 ⟨(sz : Int), p, (bu : Int), d, q, c⟩ = true := (opt2_iff _).2 ⟨by show (16 : Int) ≤ (sz : Int); omega, by show (sz : Int) ≤ 32768; omega, by show (1 : Int) ≤ (bu : Int); omega, by show (bu : Int) ≤ 64; omega⟩
 have HC := hid (fun W => rbcheck_any ⟨(sz : Int), p, (bu : Int), d, q, c⟩ W)
 rw [if_pos ho] at HC
 have HQ := hid (fun W (h : Fr w W) => RQCheck_any v l W (hs.fr h))
 rw [if_pos hl.ok] at HQ
 have hbd : ∀ r ∈ l, r.source.length ≤ 100000 ∧ r.text.length ≤ 100000 := fun r hr => by have := hl.each r hr; omega
 have HFr := hid (fun W (h : Fr w W) => RFrames_any sz (bu : Int) p d q c h1 h2 v l W (hs.fr h) hl)
 have hcsum := groupsL_sum sz (lenR false) l
 have hcl := groups_len sz (lenR false) l
 have hlen := hl.len
 have HT : Hid (bodyL sz bu p l = joinL (groupsL sz (lenR false) l) (frmL p l (groupsL sz (lenR false) l)) (putB (columnsL l)) (putB (postB bu l.length (idxT (l.map Rec.ts)) (idxL (l.map Rec.ts))))) := rfl
 have HCo := hid (fun W (h : Fr w W) => RColumns_any v l W (hs.fr h) (by have := hl.len; omega))
 have HBu := hid (fun W (h : Fr w W) => RBuild_any v l W (hs.fr h) (by have := hl.len; omega) (fun r hr => by have := hbd r hr; omega) (by have := hl.texts; omega))
 have HPB := hid (fun tv lv hs W h5 h6 => RPBytes_any bu l.length h3 h4 tv lv (idxT (l.map Rec.ts)) hs (idxL (l.map Rec.ts)) W h5 h6 hl.idx)
 have hpl := dictB_len4 bu (idxT (l.map Rec.ts)) h3 h4 (fun s h => (idxT_each _ s h).2) (by have := idxT_len (l.map Rec.ts); have := hl.texts; omega)
 have hps := hl.idx.sum
 have hpost : (postB bu l.length (idxT (l.map Rec.ts)) (idxL (l.map Rec.ts))).length ≤ 623520 := by unfold postB; rw [List.length_append]; omega
 have hcol := columnsL_len l hl.len
 have HJ := hid (fun fv cv uv xv W ps hf hc hu hx => RJoin_any fv cv uv xv ps (groupsL sz (lenR false) l) (frmL p l (groupsL sz (lenR false) l)) (columnsL l) (postB bu l.length (idxT (l.map Rec.ts)) (idxL (l.map Rec.ts))) W hf hc hu hx (by omega) (by omega) (fun k => (hl.frm p _ k).2) hcol hpost)
 rw [← HT.out, hcsum] at HJ
 obtain ⟨a0, cap, hv, hcap1, hcap2, hnone⟩ := hs.shape
 subst hv
 unfold maxLen at hcap2
 clear hs hl hnone hbd hpl hps ho HT
 generalize bodyL sz bu p l = T at *
 generalize groupsL sz (lenR false) l = cs at *
 generalize hIT : idxT (l.map Rec.ts) = IT at *
 generalize hIL : idxL (l.map Rec.ts) = IL at *
 clear hIT hIL
 generalize hPI : postB bu l.length IT IL = PI at *
 clear hPI
 generalize hCO : columnsL l = CO at *
 clear hCO
 go_enter Tryz.func18, Tryz.ntmps18
 go_wp2_with fail
 refine (HC.out _).mono ?_
 rintro e w1 ⟨rfl, hf1⟩
 have hO1 := hf1.heap (heap_new w (.cells #[N sz, .bool p, N bu, .int .i64 d, .int .i64 q, .int .i64 c] 23) _ rfl)
 have hf01 : Fr w w1 := ((Fr.refl w).alloc _).trans hf1
 clear hf1
 go_wp2_with fail
 refine (HQ.out _ hf01).mono ?_
 rintro e w2 ⟨rfl, hf2⟩
 have hf02 := hf01.trans hf2
 have hO2 := hf2.heap hO1
 have c0 : w2.cell? ⟨w.heap.size, 0, none⟩ = some (N sz) := by rw [cell_of_heap hO2]; rfl
 have c1 : w2.cell? ⟨w.heap.size, 1, none⟩ = some (.bool p) := by rw [cell_of_heap hO2]; rfl
 have c2 : w2.cell? ⟨w.heap.size, 2, none⟩ = some (N bu) := by rw [cell_of_heap hO2]; rfl
 have c3 : w2.cell? ⟨w.heap.size, 3, none⟩ = some (.int .i64 d) := by rw [cell_of_heap hO2]; rfl
 have c4 : w2.cell? ⟨w.heap.size, 4, none⟩ = some (.int .i64 q) := by rw [cell_of_heap hO2]; rfl
 have c5 : w2.cell? ⟨w.heap.size, 5, none⟩ = some (.int .i64 c) := by rw [cell_of_heap hO2]; rfl
 go_wp2_with fail
 refine (HFr.out _ hf02).mono ?_
 rintro e w3 ⟨fv, cv, rfl, ⟨ps, hF3⟩, hC3, hf3⟩
 have hf03 := hf02.trans hf3
 have hO3 := hf3.heap hO2
 have x2 : w3.cell? ⟨w.heap.size, 2, none⟩ = some (N bu) := by rw [cell_of_heap hO3]; rfl
 obtain ⟨fa, fc, hfv, _⟩ := hF3.1.shape
 subst hfv
 obtain ⟨ca, cc, hcv, _⟩ := hC3.shape
 subst hcv
 clear hf01 hf02 hf2 hf3 hO1 hO2 c0 c1 c2 c3 c4 c5
 go_upto_region 7 with fail
 go_region_held3 (fun w' => w'.cell? ⟨w.heap.size, 2, none⟩ = some (N bu))
  (first | go_keep)
  ((first
   | (go_at_call 46; refine (HBu.out _ (hf03.trans (Fr.refl w3).drew)).mono ?_; rintro e w4 ⟨tv, lv, hs4, rfl, hT4, hL4, hf4⟩; have u0 := hf4.cell x2)
   | (go_at_call 45; refine (HPB.out _ _ _ _ hT4 hL4).mono ?_; rintro e w5 ⟨v5, rfl, hO5, hf5⟩; obtain ⟨p5, z5, hq5⟩ := hO5.shape'; subst hq5; have t0 := hf5.cell u0)))
 have hf35 : Fr w3 w5 := (Fr.refl w3).drew.trans (hf4.trans hf5)
 have hf05 := hf03.trans hf35
 have hF5 := hF3.fr hf35
 have hC5 := hC3.fr hf35
 clear x2 u0 t0 hf4 hT4 hL4 hF3 hC3 hf03 hf5 hO3
 go_wp2_with fail
 refine (HCo.out _ hf05).mono ?_
 rintro e w6 ⟨v6, rfl, hO6, hf6⟩
 have hf06 := hf05.trans hf6
 have hF6 := hF5.fr hf6
 have hC6 := hC5.fr hf6
 have hX6 := hO5.fr hf6
 have HJ6 := hid (HJ.out _ _ _ _ w6 ps hF6 hC6 hO6.see hX6.see)
 obtain ⟨p6, z6, hq6⟩ := hO6.shape'
 subst hq6
 clear hF5 hC5 hO5 hF6 hC6 hX6 hO6 hf6
 go_wp2_with fail
 refine HJ6.out.mono ?_
 rintro e w7 ⟨v7, rfl, hO7, hf7⟩
 have HR := hid (hO7.rebase hf06.size)
 clear hO7
 go_wp2_with fail
 go_ret2
 exact ⟨_, rfl, HR.out, hf06.trans hf7⟩
set_option maxRecDepth 512
def headL (sz : Nat) (p : Bool) (bu d q c n : Nat) : List UInt8 := markB ++ [(if p then 1 else 0), UInt8.ofNat bu, UInt8.ofNat d, UInt8.ofNat q] ++ fixB 2 c ++ fixB 2 sz ++ fixB 4 n
theorem headL_len (sz : Nat) (p : Bool) (bu d q c n : Nat) : (headL sz p bu d q c n).length = 17 := by
 unfold headL
 simp [fixB_len, markB]
theorem all5_any (W : World) (p0 p1 p2 p3 p4 : Hd) (l0 l1 l2 l3 l4 : List UInt8) (h0 : See W eB p0.v l0) (h1 : See W eB p1.v l1) (h2 : See W eB p2.v l2) (h3 : See W eB p3.v l3) (h4 : See W eB p4.v l4) (hn : l0.length + l1.length + l2.length + l3.length + l4.length ≤ 1000000) :
  Calls Tryz.prog 35 #[.slice (some ⟨W.heap.size, 0, none⟩) 5 5] (W.alloc (.cells #[p0.v, p1.v, p2.v, p3.v, p4.v] 31)) fun e w' => ∃ v, e = .returned v ∧ Ow w' W.heap.size eB v (l0 ++ l1 ++ l2 ++ l3 ++ l4) ∧ Fr W w' := by
 have h5 := lit_sees2 W #[p0.v, p1.v, p2.v, p3.v, p4.v] 31 [p0, p1, p2, p3, p4] [l0, l1, l2, l3, l4] 5 rfl rfl rfl (by simp) (fun i ha hb => by
  match i, ha with
  | 0, _ => exact h0
  | 1, _ => exact h1
  | 2, _ => exact h2
  | 3, _ => exact h3
  | 4, _ => exact h4)
 refine (All_any _ _ _ _ h5 (by simp; omega)).mono ?_
 rintro e w' ⟨v, rfl, ho, hf⟩
 exact ⟨v, rfl, by simpa using ho.rebase (b := W.heap.size) (by simp), ((Fr.refl W).alloc _).trans hf⟩
theorem u8v (n : Nat) (h : n < 256) : Fk.u8 (UInt8.ofNat n) = .int .u8 (n : Int) := by
 show Value.int .u8 ((UInt8.ofNat n).toNat : Int) = _
 rw [UInt8.toNat_ofNat', Nat.mod_eq_of_lt h]
theorem head_all (W : World) (p0 p2 p3 p4 : Hd) (l0 l2 l3 l4 : List UInt8) (x : UInt8) (bu d q : Nat) (hb : bu < 256) (hd : d < 256) (hq : q < 256) (h0 : See W eB p0.v l0) (h2 : See W eB p2.v l2) (h3 : See W eB p3.v l3) (h4 : See W eB p4.v l4) (hn : l0.length + 4 + l2.length + l3.length + l4.length ≤ 1000000) :
  Calls Tryz.prog 35 #[.slice (some ⟨W.heap.size + 1, 0, none⟩) 5 5] ((W.alloc (.cells #[Fk.u8 x, .int .u8 (bu : Int), .int .u8 (d : Int), .int .u8 (q : Int)] 5)).alloc (.cells #[p0.v, .slice (some ⟨W.heap.size, 0, none⟩) 4 4, p2.v, p3.v, p4.v] 31)) fun e w' => ∃ v, e = .returned v ∧ Ow w' W.heap.size eB v (l0 ++ [x, UInt8.ofNat bu, UInt8.ofNat d, UInt8.ofNat q] ++ l2 ++ l3 ++ l4) ∧ Fr W w' := by
 have hf : Fr W (W.alloc (.cells #[Fk.u8 x, .int .u8 (bu : Int), .int .u8 (d : Int), .int .u8 (q : Int)] 5)) := (Fr.refl W).alloc _
 have hs : (W.alloc (.cells #[Fk.u8 x, .int .u8 (bu : Int), .int .u8 (d : Int), .int .u8 (q : Int)] 5)).heap.size = W.heap.size + 1 := by simp
 have h1 : See (W.alloc (.cells #[Fk.u8 x, .int .u8 (bu : Int), .int .u8 (d : Int), .int .u8 (q : Int)] 5)) eB (Hd.v ⟨some ⟨W.heap.size, 0, none⟩, 4, 4⟩) [x, UInt8.ofNat bu, UInt8.ofNat d, UInt8.ofNat q] :=
  see_new eB W [x, UInt8.ofNat bu, UInt8.ofNat d, UInt8.ofNat q] #[Fk.u8 x, .int .u8 (bu : Int), .int .u8 (d : Int), .int .u8 (q : Int)] 5 4 rfl (by
   show [Fk.u8 x, .int .u8 (bu : Int), .int .u8 (d : Int), .int .u8 (q : Int)] = [Fk.u8 x, Fk.u8 (UInt8.ofNat bu), Fk.u8 (UInt8.ofNat d), Fk.u8 (UInt8.ofNat q)]
   rw [u8v bu hb, u8v d hd, u8v q hq]) (by show 4 ≤ maxLen; unfold maxLen; omega)
 have := all5_any _ p0 ⟨some ⟨W.heap.size, 0, none⟩, 4, 4⟩ p2 p3 p4 l0 _ l2 l3 l4 (h0.fr hf) h1 (h2.fr hf) (h3.fr hf) (h4.fr hf) (by simp; omega)
 rw [hs] at this
 refine this.mono ?_
 rintro e w' ⟨v, rfl, ho, hf2⟩
 exact ⟨v, rfl, ho.rebase (by omega), hf.trans hf2⟩
abbrev hdB (sz : Nat) (p : Bool) (bu d q c n : Nat) : Obj := .cells #[N sz, .bool p, N bu, N d, N q, N c, N n, .int .u8 0] 46 (0, 0)
set_option maxRecDepth 100000
theorem HBytes_any (g sz bu d q c n : Nat) (p : Bool) (w : World) (hg : w.heap[g]? = some (hdB sz p bu d q c n)) (ht : Crc w) (h1 : sz ≤ 32768) (h2 : bu < 256) (h3 : d < 256) (h4 : q < 256) (h5 : c ≤ 4096) (h6 : n ≤ 1000000) :
  Calls Tryz.prog 42 #[.pointer (some ⟨g, 0, none⟩)] w fun e w' => ∃ v, e = .returned v ∧ Ow w' w.heap.size eB v (putB (headL sz p bu d q c n)) ∧ Fr w w' := by
 have hc2 : c < 256 ^ 2 := by rw [show (256 : Nat) ^ 2 = 65536 from by decide]; omega
 have hs2 : sz < 256 ^ 2 := by rw [show (256 : Nat) ^ 2 = 65536 from by decide]; omega
 have hn4 : n < 256 ^ 4 := by rw [show (256 : Nat) ^ 4 = 4294967296 from by decide]; omega
 have HFc := hid (Fixed_any c 2 (by omega) (by omega) hc2 (by omega))
 have HFs := hid (Fixed_any sz 2 (by omega) (by omega) hs2 (by omega))
 have HFn := hid (Fixed_any n 4 (by omega) (by omega) hn4 (by omega))
 have lc := fixB_len 2 c
 have ls := fixB_len 2 sz
 have ln := fixB_len 4 n
 have HM := hid (Mark_any)
 have hlen := headL_len sz p bu d q c n
 have HP := hid (fun v W (h : Fr w W) (h2 : See W eB v (headL sz p bu d q c n)) => Put_any v _ W h2 (by omega) (ht.fr h))
 have HH := hid (fun W p0 p2 p3 p4 h0 h2' h3' h4' => head_all W p0 p2 p3 p4 markB (fixB 2 c) (fixB 2 sz) (fixB 4 n) (if p then 1 else 0) bu d q h2 h3 h4 h0 h2' h3' h4' (by rw [lc, ls, ln]; simp [markB]))
 have HE : Hid (headL sz p bu d q c n = markB ++ [(if p then 1 else 0), UInt8.ofNat bu, UInt8.ofNat d, UInt8.ofNat q] ++ fixB 2 c ++ fixB 2 sz ++ fixB 4 n) := rfl
 rw [← HE.out] at HH
 have hm5 : markB.length = 5 := rfl
 have Hlc := hid lc
 have Hls := hid ls
 have Hln := hid ln
 have Hm := hid hm5
 clear hc2 hs2 hn4 ht HE hlen lc ls ln hm5
 generalize headL sz p bu d q c n = HL at *
 generalize putB HL = T at *
 generalize fixB 2 c = FC at *
 generalize fixB 2 sz = FS at *
 generalize fixB 4 n = FN at *
 generalize markB = MK at *
 have hwc : IntKind.u64.wrap (c : Int) = (c : Int) := IntWalk.u64_in _ (by omega)
 have hws : IntKind.u64.wrap (sz : Int) = (sz : Int) := IntWalk.u64_in _ (by omega)
 have hwn : IntKind.u64.wrap (n : Int) = (n : Int) := IntWalk.u64_in _ (by omega)
 have hb1 : IntKind.u8.wrap (bu : Int) = (bu : Int) := IntWalk.u8_in _ (by omega)
 have hb2 : IntKind.u8.wrap (d : Int) = (d : Int) := IntWalk.u8_in _ (by omega)
 have hb3 : IntKind.u8.wrap (q : Int) = (q : Int) := IntWalk.u8_in _ (by omega)
 go_enter Tryz.func42, Tryz.ntmps42
 go_wp2_with fail
 refine (HM.out _).mono ?_
 rintro e w1 ⟨v1, rfl, hM1, hf1⟩
 obtain ⟨p1, z1, hq1⟩ := hM1.shape'
 subst hq1
 have hg1 := hf1.heap hg
 have x1 : w1.cell? ⟨g, 1, none⟩ = some (.bool p) := by rw [cell_of_heap hg1]; rfl
 have x5 : w1.cell? ⟨g, 5, none⟩ = some (N c) := by rw [cell_of_heap hg1]; rfl
 go_upto_if 20 with fail
 go_cut [5] from 16 to 21 (fun bv wx => bv = Fk.u8 (if p then 1 else 0) ∧ wx = w1)
 case first =>
  cases p with
  | true =>
   go_wp2_with fail
   go_meet
   exact ⟨rfl, rfl⟩
  | false =>
   go_wp2_with fail
   go_meet
   exact ⟨rfl, rfl⟩
 case rest =>
  obtain ⟨rfl, hwx⟩ := hcut
  subst hwx
  generalize hpx : (if p = true then (1 : UInt8) else 0) = px at *
  clear hpx x1
  go_wp2_with fail
  refine (HFc.out _).mono ?_
  rintro e w2 ⟨v2, rfl, hC2, hf2⟩
  have hg2 := hf2.heap hg1
  have hM2 := hM1.fr hf2
  have hf02 := hf1.trans hf2
  have x0 : w2.cell? ⟨g, 0, none⟩ = some (N sz) := by rw [cell_of_heap hg2]; rfl
  obtain ⟨p2, z2, hq2⟩ := hC2.shape'
  subst hq2
  clear hM1 hg1 x5 hf1 hf2
  go_wp2_with fail
  refine (HFs.out _).mono ?_
  rintro e w3 ⟨v3, rfl, hS3, hf3⟩
  have hg3 := hf3.heap hg2
  have hM3 := hM2.fr hf3
  have hC3 := hC2.fr hf3
  have hf03 := hf02.trans hf3
  have x6 : w3.cell? ⟨g, 6, none⟩ = some (N n) := by rw [cell_of_heap hg3]; rfl
  obtain ⟨p3, z3, hq3⟩ := hS3.shape'
  subst hq3
  clear hM2 hC2 hg2 x0 hf02 hf3
  go_wp2_with fail
  refine (HFn.out _).mono ?_
  rintro e w4 ⟨v4, rfl, hN4, hf4⟩
  have hg4 := hf4.heap hg3
  have hM4 := hM3.fr hf4
  have hC4 := hC3.fr hf4
  have hS4 := hS3.fr hf4
  have hf04 := hf03.trans hf4
  have y2 : w4.cell? ⟨g, 2, none⟩ = some (N bu) := by rw [cell_of_heap hg4]; rfl
  have y3 : w4.cell? ⟨g, 3, none⟩ = some (N d) := by rw [cell_of_heap hg4]; rfl
  have y4 : w4.cell? ⟨g, 4, none⟩ = some (N q) := by rw [cell_of_heap hg4]; rfl
  obtain ⟨p4, z4, hq4⟩ := hN4.shape'
  subst hq4
  have HA := hid (HH.out w4.drew ⟨p1, MK.length, z1⟩ ⟨p2, FC.length, z2⟩ ⟨p3, FS.length, z3⟩ ⟨p4, FN.length, z4⟩ hM4.see.drew hC4.see.drew hS4.see.drew hN4.see.drew)
  clear HH hM3 hC3 hS3 hg3 x6 hf03 hf4
  go_upto_region 8 with fail
  go_region_held3 (fun w' => w'.cell? ⟨g, 2, none⟩ = some (N bu) ∧ w'.cell? ⟨g, 3, none⟩ = some (N d) ∧ w'.cell? ⟨g, 4, none⟩ = some (N q))
   (first | go_keep)
   ((first
    | (go_at_call 35; refine HA.out.mono ?_; rintro e w5 ⟨v5, rfl, hA5, hf5⟩; have u2 := hf5.cell y2; have u3 := hf5.cell y3; have u4 := hf5.cell y4)
    | (go_at_call 29; refine (HP.out _ _ (hf04.trans ((Fr.refl w4).drew.trans hf5)) hA5.see).mono ?_; rintro e w6 ⟨v6, rfl, hP6, hf6⟩; have t2 := hf6.cell u2; have t3 := hf6.cell u3; have t4 := hf6.cell u4)))
  have hf05 : Fr w w5 := hf04.trans ((Fr.refl w4).drew.trans hf5)
  have HR := hid (hP6.rebase hf05.size)
  obtain ⟨p6, z6, hq6⟩ := hP6.shape'
  subst hq6
  clear hP6 t2 t3 t4 u2 u3 u4 y2 y3 y4 hA5 hM4 hC4 hS4 hN4 hg4
  go_wp2_with fail
  go_ret
  exact ⟨_, rfl, HR.out, hf05.trans hf6⟩
set_option maxRecDepth 512
def archL (sz : Nat) (p : Bool) (bu d q c : Nat) (b : List UInt8) : List UInt8 :=
 putB (headL sz p bu d q c b.length) ++ layL b d q c (strN d c b.length) ++ putB (headL sz p bu d q c b.length)
set_option maxRecDepth 100000
theorem Archive_any (g sz bu d q c n : Nat) (p : Bool) (v : Value) (l : List UInt8) (w : World) (hg : w.heap[g]? = some (hdB sz p bu d q c n)) (hs : See w eB v l) (ht : Crc w) (h1 : sz ≤ 32768) (h2 : bu < 256) (h3 : d < 256) (h4 : q < 256) (h5 : c ≤ 4096) (h6 : n ≤ 1000000) (hl : l.length ≤ 20000000) :
  Calls Tryz.prog 17 #[.pointer (some ⟨g, 0, none⟩), v] w fun e w' => ∃ v, e = .returned v ∧ Ow w' w.heap.size eB v (putB (headL sz p bu d q c n) ++ l ++ putB (headL sz p bu d q c n)) ∧ Fr w w' := by
 have HB := hid (fun W (h : Fr w W) => HBytes_any g sz bu d q c n p W (h.heap hg) (ht.fr h) h1 h2 h3 h4 h5 h6)
 have hlh := putB_len (headL sz p bu d q c n)
 rw [headL_len] at hlh
 have Hl := hid hlh
 have HA := hid (fun W va vc (ha : See W eB va (putB (headL sz p bu d q c n))) (hb : See W eB v l) (hc : See W eB vc (putB (headL sz p bu d q c n))) => all3_big va v vc _ l _ W ha hb hc (by omega))
 clear hlh
 obtain ⟨a0, cap, hv, hcap1, hcap2, hnone⟩ := hs.shape
 have HS := hid (fun W (h : Fr w W) => hs.fr h)
 subst hv
 clear hs hnone ht hg
 generalize putB (headL sz p bu d q c n) = H at *
 go_enter Tryz.func17, Tryz.ntmps17
 go_wp2_with fail
 refine (HB.out _ (Fr.refl w)).mono ?_
 rintro e w1 ⟨v1, rfl, hA1, hf1⟩
 obtain ⟨p1, z1, hq1⟩ := hA1.shape'
 subst hq1
 go_wp2_with fail
 refine (HB.out _ hf1).mono ?_
 rintro e w2 ⟨v2, rfl, hA2, hf2⟩
 have hf02 := hf1.trans hf2
 have HH := hid (HA.out w2 _ v2 (hA1.fr hf2).see (HS.out w2 hf02) hA2.see)
 obtain ⟨p2, z2, hq2⟩ := hA2.shape'
 subst hq2
 clear hA1 hA2 hf1 hf2
 go_wp2_with fail
 refine HH.out.mono ?_
 rintro e w3 ⟨v3, rfl, hA3, hf3⟩
 have HR := hid (hA3.rebase hf02.size)
 clear hA3
 go_wp2_with fail
 go_ret
 exact ⟨_, rfl, HR.out, hf02.trans hf3⟩
set_option maxRecDepth 512
theorem lay_small (d q c n : Nat) (h1 : q ≤ 4 * d) (h2 : 4 ≤ c) (h3 : d ≤ 8) (h4 : c ≤ 100) (hn : n ≤ 1000000) : strN d c n * ((d + q) * (c + 4)) ≤ 16777216 := by
 have h5 : strN d c n * (d * c) ≤ n + d * c - 1 := Nat.div_mul_le_self _ _
 have h6 : (d + q) * (c + 4) ≤ (5 * d) * (2 * c) := Nat.mul_le_mul (by omega) (by omega)
 have h7 : (5 * d) * (2 * c) = 10 * (d * c) := by rw [Nat.mul_mul_mul_comm]
 have h8 : d * c ≤ 8 * 100 := Nat.mul_le_mul h3 h4
 have h9 : strN d c n * ((d + q) * (c + 4)) ≤ strN d c n * (10 * (d * c)) := Nat.mul_le_mul_left _ (by omega)
 have h10 : strN d c n * (10 * (d * c)) = 10 * (strN d c n * (d * c)) := by rw [Nat.mul_left_comm]
 omega
theorem bodyL_len (sz bu : Nat) (p : Bool) (l : List Rec) (h3 : 1 ≤ bu) (h4 : bu ≤ 64) (hl : SmallL l) : (bodyL sz bu p l).length ≤ 1000000 := by
 have hpl := dictB_len4 bu (idxT (l.map Rec.ts)) h3 h4 (fun s h => (idxT_each _ s h).2) (by have := idxT_len (l.map Rec.ts); have := hl.texts; omega)
 have hps := hl.idx.sum
 have hpost : (postB bu l.length (idxT (l.map Rec.ts)) (idxL (l.map Rec.ts))).length ≤ 623520 := by unfold postB; rw [List.length_append]; omega
 have hcol := columnsL_len l hl.len
 have hcsum := groupsL_sum sz (lenR false) l
 have hcl := groups_len sz (lenR false) l
 have hlen := hl.len
 have hfr := frTo_len (frmL p l (groupsL sz (lenR false) l)) 6025 (fun k => (hl.frm p _ k).2) (groupsL sz (lenR false) l).length
 have hmul : (groupsL sz (lenR false) l).length * 6025 ≤ 60 * 6025 := Nat.mul_le_mul_right _ (by omega)
 have hp1 := putB_len (columnsL l)
 have hp2 := putB_len (postB bu l.length (idxT (l.map Rec.ts)) (idxL (l.map Rec.ts)))
 have hcx : ∀ x ∈ groupsL sz (lenR false) l, x < 1000000 := fun x hx => by
  obtain ⟨i, hi, rfl⟩ := List.mem_iff_getElem.1 hx
  have h1 := groups_sum_le (groupsL sz (lenR false) l) (i + 1)
  rw [sum_snoc _ i hi] at h1
  omega
 have hpr := prTo_len (groupsL sz (lenR false) l) (frmL p l (groupsL sz (lenR false) l)) 6025 (by omega) (fun k => (hl.frm p _ k).2) hcx (groupsL sz (lenR false) l).length
 have hmul2 : (groupsL sz (lenR false) l).length * 20 ≤ 60 * 20 := Nat.mul_le_mul_right _ (by omega)
 unfold bodyL joinL
 generalize groupsL sz (lenR false) l = cs at *
 generalize frmL p l cs = fr at *
 generalize putB (columnsL l) = CO at *
 generalize putB (postB bu l.length (idxT (l.map Rec.ts)) (idxL (l.map Rec.ts))) = IX at *
 have n1 := numB_le cs.sum (by omega)
 have n2 := numB_le cs.length (by omega)
 have n3 := numB_le CO.length (by omega)
 have n4 := numB_le IX.length (by omega)
 simp only [List.length_append, putB_len, fixB_len]
 unfold dirL
 simp only [List.length_append]
 omega
set_option maxRecDepth 100000
theorem Pack_no (o : Opt) (ho : opt3 o = false) (v : Value) (l : List Rec) (w : World) (hs : See w eR v l) :
  Calls Tryz.prog 9 #[optV o, v] w fun e w' => e = .returned (.tuple #[.slice none 0 0, .int .i64 9]) ∧ Fr w w' := by
 have HC := hid (fun W => OCheck3_any o W)
 rw [if_neg (by rw [ho]; simp)] at HC
 obtain ⟨a0, cap, hv, _⟩ := hs.shape
 subst hv
 clear hs ho
 go_enter Tryz.func9, Tryz.ntmps9
 go_wp2_with fail
 refine (HC.out _).mono ?_
 rintro e w1 ⟨rfl, hf1⟩
 have hf01 : Fr w w1 := ((Fr.refl w).alloc _).trans hf1
 go_wp2_with fail
 go_ret2
 exact ⟨rfl, hf01⟩
theorem Pack_bad (o : Opt) (ho : opt3 o = true) (ho2 : opt2 o = true) (v : Value) (l : List Rec) (w : World) (hs : See w eR v l) (hl : okLog l = false) :
  Calls Tryz.prog 9 #[optV o, v] w fun e w' => e = .returned (.tuple #[.slice none 0 0, .int .i64 6]) ∧ Fr w w' := by
 have HC := hid (fun W => OCheck3_any o W)
 rw [if_pos ho] at HC
 have HM := hid (fun W (h : Fr w W) => BMake_bad o ho2 v l W (hs.fr h) hl)
 obtain ⟨a0, cap, hv, _⟩ := hs.shape
 subst hv
 clear hs ho ho2 hl
 obtain ⟨ob, opl, obu, od, op, oc⟩ := o
 go_enter Tryz.func9, Tryz.ntmps9
 go_wp2_with fail
 refine (HC.out _).mono ?_
 rintro e w1 ⟨rfl, hf1⟩
 have hO1 := hf1.heap (heap_new w (.cells #[.int .i64 ob, .bool opl, .int .i64 obu, .int .i64 od, .int .i64 op, .int .i64 oc] 23) _ rfl)
 have hf01 : Fr w w1 := ((Fr.refl w).alloc _).trans hf1
 have c0 : w1.cell? ⟨w.heap.size, 0, none⟩ = some (.int .i64 ob) := by rw [cell_of_heap hO1]; rfl
 have c1 : w1.cell? ⟨w.heap.size, 1, none⟩ = some (.bool opl) := by rw [cell_of_heap hO1]; rfl
 have c2 : w1.cell? ⟨w.heap.size, 2, none⟩ = some (.int .i64 obu) := by rw [cell_of_heap hO1]; rfl
 have c3 : w1.cell? ⟨w.heap.size, 3, none⟩ = some (.int .i64 od) := by rw [cell_of_heap hO1]; rfl
 have c4 : w1.cell? ⟨w.heap.size, 4, none⟩ = some (.int .i64 op) := by rw [cell_of_heap hO1]; rfl
 have c5 : w1.cell? ⟨w.heap.size, 5, none⟩ = some (.int .i64 oc) := by rw [cell_of_heap hO1]; rfl
 go_wp2_with fail
 refine (HM.out _ hf01).mono ?_
 rintro e w2 ⟨rfl, hf2⟩
 have hf02 := hf01.trans hf2
 go_wp2_with fail
 go_ret2
 exact ⟨rfl, hf02⟩
theorem Pack_any (sz bu d q c : Nat) (p : Bool) (h1 : 16 ≤ sz) (h2 : sz ≤ 32768) (h3 : 1 ≤ bu) (h4 : bu ≤ 64) (h5 : 1 ≤ d) (h6 : d ≤ 8) (h7 : q ≤ 8) (h8 : q ≤ 4 * d) (h9 : 4 ≤ c) (h10 : c ≤ 100) (v : Value) (l : List Rec) (w : World) (hs : See w eR v l) (hl : SmallL l) (ht : Crc w) :
  Calls Tryz.prog 9 #[optV ⟨(sz : Int), p, (bu : Int), (d : Int), (q : Int), (c : Int)⟩, v] w fun e w' => ∃ u, e = .returned (.tuple #[u, .int .i64 0]) ∧ Ow w' w.heap.size eB u (archL sz p bu d q c (bodyL sz bu p l)) ∧ Fr w w' := by
 have ho : opt3 ⟨(sz : Int), p, (bu : Int), (d : Int), (q : Int), (c : Int)⟩ = true := (opt3_iff _).2 (by refine ⟨?_, ?_, ?_, ?_, ?_, ?_, ?_, ?_, ?_, ?_⟩ <;> simp only <;> omega)
 have HC := hid (fun W => OCheck3_any ⟨(sz : Int), p, (bu : Int), (d : Int), (q : Int), (c : Int)⟩ W)
 rw [if_pos ho] at HC
 have HM := hid (fun W (h : Fr w W) => BMake_any sz bu p (d : Int) (q : Int) (c : Int) h1 h2 h3 h4 v l W (hs.fr h) hl (ht.fr h))
 have hbl := bodyL_len sz bu p l h3 h4 hl
 obtain ⟨a0, cap, hv, _⟩ := hs.shape
 subst hv
 clear hs ho hl
 generalize bodyL sz bu p l = T at *
 have hlay := lay_small d q c T.length h8 h9 h6 h10 hbl
 have HL := hid (fun u W (h : Fr w W) (h2 : See W eB u T) => Lay_any d q c u T W h2 h5 (by omega) (by omega) (by omega) hbl hlay (ht.fr h))
 have hyl := layL_len T d q c (strN d c T.length)
 have HA := hid (fun g u W (h : Fr w W) (hg : W.heap[g]? = some (hdB sz p bu d q c T.length)) (h3 : See W eB u (layL T d q c (strN d c T.length))) => Archive_any g sz bu d q c T.length p u _ W hg h3 (ht.fr h) h2 (by omega) (by omega) (by omega) (by omega) (by omega) (by omega))
 have HE : Hid (archL sz p bu d q c T = putB (headL sz p bu d q c T.length) ++ layL T d q c (strN d c T.length) ++ putB (headL sz p bu d q c T.length)) := rfl
 rw [← HE.out] at HA
 clear HE ht hyl hlay
 generalize archL sz p bu d q c T = AR at *
 generalize layL T d q c (strN d c T.length) = LY at *
 go_enter Tryz.func9, Tryz.ntmps9
 go_wp2_with fail
 refine (HC.out _).mono ?_
 rintro e w1 ⟨rfl, hf1⟩
 have hO1 := hf1.heap (heap_new w (.cells #[N sz, .bool p, N bu, N d, N q, N c] 23) _ rfl)
 have hf01 : Fr w w1 := ((Fr.refl w).alloc _).trans hf1
 have c0 : w1.cell? ⟨w.heap.size, 0, none⟩ = some (N sz) := by rw [cell_of_heap hO1]; rfl
 have c1 : w1.cell? ⟨w.heap.size, 1, none⟩ = some (.bool p) := by rw [cell_of_heap hO1]; rfl
 have c2 : w1.cell? ⟨w.heap.size, 2, none⟩ = some (N bu) := by rw [cell_of_heap hO1]; rfl
 have c3 : w1.cell? ⟨w.heap.size, 3, none⟩ = some (N d) := by rw [cell_of_heap hO1]; rfl
 have c4 : w1.cell? ⟨w.heap.size, 4, none⟩ = some (N q) := by rw [cell_of_heap hO1]; rfl
 have c5 : w1.cell? ⟨w.heap.size, 5, none⟩ = some (N c) := by rw [cell_of_heap hO1]; rfl
 go_wp2_with fail
 refine (HM.out _ hf01).mono ?_
 rintro e w2 ⟨v2, rfl, hB2, hf2⟩
 have hO2 := hf2.heap hO1
 have hf02 := hf01.trans hf2
 have HL2 := hid (HL.out v2 w2 hf02 hB2.see)
 obtain ⟨p2, z2, hq2⟩ := hB2.shape'
 subst hq2
 have d3 := hf2.cell c3
 have d4 := hf2.cell c4
 have d5 := hf2.cell c5
 clear c0 c1 c2 c3 c4 c5 hB2 hO1 hf01 hf1
 go_wp2_with fail
 refine HL2.out.mono ?_
 rintro e w3 ⟨v3, rfl, hY3, hf3⟩
 have hO3 := hf3.heap hO2
 have hf03 := hf02.trans hf3
 obtain ⟨p3, z3, hq3⟩ := hY3.shape'
 subst hq3
 have c0 : w3.cell? ⟨w.heap.size, 0, none⟩ = some (N sz) := by rw [cell_of_heap hO3]; rfl
 have c1 : w3.cell? ⟨w.heap.size, 1, none⟩ = some (.bool p) := by rw [cell_of_heap hO3]; rfl
 have c2 : w3.cell? ⟨w.heap.size, 2, none⟩ = some (N bu) := by rw [cell_of_heap hO3]; rfl
 have c3 : w3.cell? ⟨w.heap.size, 3, none⟩ = some (N d) := by rw [cell_of_heap hO3]; rfl
 have c4 : w3.cell? ⟨w.heap.size, 4, none⟩ = some (N q) := by rw [cell_of_heap hO3]; rfl
 have c5 : w3.cell? ⟨w.heap.size, 5, none⟩ = some (N c) := by rw [cell_of_heap hO3]; rfl
 clear d3 d4 d5 HL2 hO2 hf02 hf2 hf3
 go_wp2_with fail
 have hfa : Fr w3 (w3.alloc (hdB sz p bu d q c T.length)) := (Fr.refl w3).alloc _
 refine (HA.out w3.heap.size _ _ (hf03.trans hfa) (heap_new w3 (.cells #[N sz, .bool p, N bu, N d, N q, N c, N T.length, .int .u8 0] 46) _ rfl) (hY3.see.fr hfa)).mono ?_
 rintro e w4 ⟨v4, rfl, hR4, hf4⟩
 have HR := hid (hR4.rebase (hf03.trans hfa).size)
 have hf04 := (hf03.trans hfa).trans hf4
 clear hR4 hf4 hfa hY3 c0 c1 c2 c3 c4 c5 hO3
 go_wp2_with fail
 go_ret2
 exact ⟨_, rfl, HR.out, hf04⟩
set_option maxRecDepth 512
set_option maxRecDepth 100000
theorem RFlag_any (p : Bool) (w : World) : Calls Tryz.prog 51 #[.bool p] w fun e w' => e = .returned (Fk.u8 (if p then 1 else 0)) ∧ w = w' := by
 cases p with
 | true =>
  go_enter Tryz.func51, Tryz.ntmps51
  go_wp2_with fail
  go_ret
  exact ⟨rfl, rfl⟩
 | false =>
  go_enter Tryz.func51, Tryz.ntmps51
  go_wp2_with fail
  go_ret
  exact ⟨rfl, rfl⟩
theorem RHead_any (sz bu d q c n : Nat) (p : Bool) (px : UInt8) (w : World) (h1 : sz ≤ 32768) (h2 : bu < 256) (h3 : d < 256) (h4 : q < 256) (h5 : c ≤ 4096) (h6 : n ≤ 1000000) :
  Calls Tryz.prog 50 #[optV ⟨(sz : Int), p, (bu : Int), (d : Int), (q : Int), (c : Int)⟩, Fk.u8 px, N n] w fun e w' => ∃ v, e = .returned v ∧ Ow w' w.heap.size eB v (putB (markB ++ [px, UInt8.ofNat bu, UInt8.ofNat d, UInt8.ofNat q] ++ fixB 2 c ++ fixB 2 sz ++ fixB 4 n)) ∧ Fr w w' := by
 have hc2 : c < 256 ^ 2 := by rw [show (256 : Nat) ^ 2 = 65536 from by decide]; omega
 have hs2 : sz < 256 ^ 2 := by rw [show (256 : Nat) ^ 2 = 65536 from by decide]; omega
 have hn4 : n < 256 ^ 4 := by rw [show (256 : Nat) ^ 4 = 4294967296 from by decide]; omega
 have HFc := hid (RFixed_any c 2 (by omega) (by omega) hc2 (by omega))
 have HFs := hid (RFixed_any sz 2 (by omega) (by omega) hs2 (by omega))
 have HFn := hid (RFixed_any n 4 (by omega) (by omega) hn4 (by omega))
 have Hlc := hid (fixB_len 2 c)
 have Hls := hid (fixB_len 2 sz)
 have Hln := hid (fixB_len 4 n)
 have HP := hid (fun v q W (h2 : See W eB v q) (h3 : q.length ≤ 1000000) => RPut_any v q W h2 h3)
 have hlit : Ow ((w.alloc (.cells #[N sz, .bool p, N bu, N d, N q, N c] 23)).alloc (.cells #[.int .u8 70, .int .u8 73, .int .u8 82, .int .u8 75, .int .u8 3, Fk.u8 px, .int .u8 (bu : Int), .int .u8 (d : Int), .int .u8 (q : Int)] 5)) w.heap.size eB (.slice (some ⟨(w.alloc (.cells #[N sz, .bool p, N bu, N d, N q, N c] 23)).heap.size, 0, none⟩) 9 9) [70, 73, 82, 75, 3, px, UInt8.ofNat bu, UInt8.ofNat d, UInt8.ofNat q] :=
  own_lit eB _ _ _ 9 rfl (by show 9 ≤ maxLen; unfold maxLen; omega) (by simp) (by
   show [Value.int .u8 70, .int .u8 73, .int .u8 82, .int .u8 75, .int .u8 3, Fk.u8 px, .int .u8 (bu : Int), .int .u8 (d : Int), .int .u8 (q : Int)] = [Fk.u8 70, Fk.u8 73, Fk.u8 82, Fk.u8 75, Fk.u8 3, Fk.u8 px, Fk.u8 (UInt8.ofNat bu), Fk.u8 (UInt8.ofNat d), Fk.u8 (UInt8.ofNat q)]
   rw [u8v bu h2, u8v d h3, u8v q h4]; rfl)
 rw [size_alloc] at hlit
 have hO : ((w.alloc (.cells #[N sz, .bool p, N bu, N d, N q, N c] 23)).alloc (.cells #[.int .u8 70, .int .u8 73, .int .u8 82, .int .u8 75, .int .u8 3, Fk.u8 px, .int .u8 (bu : Int), .int .u8 (d : Int), .int .u8 (q : Int)] 5)).heap[w.heap.size]? = some (.cells #[N sz, .bool p, N bu, N d, N q, N c] 23 (0, 0)) := by
  rw [heap_old _ _ _ (by simp)]; exact heap_new _ _ _ rfl
 have hfW : Fr w ((w.alloc (.cells #[N sz, .bool p, N bu, N d, N q, N c] 23)).alloc (.cells #[.int .u8 70, .int .u8 73, .int .u8 82, .int .u8 75, .int .u8 3, Fk.u8 px, .int .u8 (bu : Int), .int .u8 (d : Int), .int .u8 (q : Int)] 5)) := ((Fr.refl w).alloc _).alloc _
 have hE : markB ++ [px, UInt8.ofNat bu, UInt8.ofNat d, UInt8.ofNat q] ++ fixB 2 c ++ fixB 2 sz ++ fixB 4 n = [70, 73, 82, 75, 3, px, UInt8.ofNat bu, UInt8.ofNat d, UInt8.ofNat q] ++ fixB 2 c ++ fixB 2 sz ++ fixB 4 n := rfl
 rw [hE]
 clear hE hc2 hs2 hn4
 have h9 : [70, 73, 82, 75, 3, px, UInt8.ofNat bu, UInt8.ofNat d, UInt8.ofNat q].length = 9 := rfl
 generalize [70, 73, 82, 75, 3, px, UInt8.ofNat bu, UInt8.ofNat d, UInt8.ofNat q] = L9 at *
 have H9 := hid h9
 clear h9
 generalize fixB 2 c = FC at *
 generalize fixB 2 sz = FS at *
 generalize fixB 4 n = FN at *
 have hwc : IntKind.u64.wrap (c : Int) = (c : Int) := IntWalk.u64_in _ (by omega)
 have hws : IntKind.u64.wrap (sz : Int) = (sz : Int) := IntWalk.u64_in _ (by omega)
 have hwn : IntKind.u64.wrap (n : Int) = (n : Int) := IntWalk.u64_in _ (by omega)
 have hb1 : IntKind.u8.wrap (bu : Int) = (bu : Int) := IntWalk.u8_in _ (by omega)
 have hb2 : IntKind.u8.wrap (d : Int) = (d : Int) := IntWalk.u8_in _ (by omega)
 have hb3 : IntKind.u8.wrap (q : Int) = (q : Int) := IntWalk.u8_in _ (by omega)
 generalize hT : putB (L9 ++ FC ++ FS ++ FN) = T at *
 have HT := hid hT
 clear hT
 go_enter Tryz.func50, Tryz.ntmps50
 go_wp2_with fail
 refine (HFc.out _).mono ?_
 rintro e w1 ⟨v1, rfl, hC1, hf1⟩
 have hO1 := hf1.heap hO
 have hL1 := hlit.fr hf1
 have hf01 := hfW.trans hf1
 have x0 : w1.cell? ⟨w.heap.size, 0, none⟩ = some (N sz) := by rw [cell_of_heap hO1]; rfl
 clear hO hlit hfW hf1
 go_wp2_with fail
 refine (HFs.out _).mono ?_
 rintro e w2 ⟨v2, rfl, hS2, hf2⟩
 have neS := apart_of hL1 hS2 (Nat.le_refl _)
 have hL2 := hL1.fr hf2
 have hC2 := hC1.fr hf2
 have hf02 := hf01.trans hf2
 clear hL1 hC1 hf01 hf2 x0 hO1
 go_wp2_with fail
 refine (HFn.out _).mono ?_
 rintro e w3 ⟨v3, rfl, hN3, hf3⟩
 have neN := apart_of hL2 hN3 (Nat.le_refl _)
 have hL3 := hL2.fr hf3
 have hC3 := hC2.fr hf3
 have hS3 := hS2.fr hf3
 have hf03 := hf02.trans hf3
 clear hL2 hC2 hS2 hf02 hf3
 have l9 := H9.out
 have lc := Hlc.out
 have ls := Hls.out
 have ln := Hln.out
 go_wp2_with (at_builtin; refine wpList_app eB rfl (.tmp 45) (.tmp 46) 31 rfl Tryz.underlying31 _ rfl hL3 _ _ rfl hC3.see ?c1 hf03.size ?_)
 case c1 => omega
 intro v5 w5 hap5
 have hL5 := hap5.own
 have hS5 := hap5.other hS3 neS
 have hN5 := hap5.other hN3 neN
 have neS5 := hap5.apart hS3 neS
 have neN5 := hap5.apart hN3 neN
 have hf05 : Fr w w5 := hap5.below hL3 hf03 (Nat.le_refl _) hf03.size
 obtain ⟨q5, hq5⟩ : ∃ q, q = L9 ++ FC := ⟨_, rfl⟩
 rw [← hq5] at hL5 HT
 have hl5 : q5.length ≤ 11 := by rw [hq5, List.length_append]; omega
 obtain ⟨a5, c5, hv5⟩ := hL5.shape'
 subst hv5
 clear hL3 hC3 hS3 hN3 hf03 hap5 neS neN hq5 l9 lc
 go_wp2_with (at_builtin; refine wpList_app eB rfl (.tmp 48) (.tmp 49) 31 rfl Tryz.underlying31 _ rfl hL5 _ _ rfl hS5.see ?c1 hf05.size ?_)
 case c1 => omega
 intro v6 w6 hap6
 have hL6 := hap6.own
 have hN6 := hap6.other hN5 neN5
 have hf06 : Fr w w6 := hap6.below hL5 hf05 (Nat.le_refl _) hf05.size
 obtain ⟨q6, hq6⟩ : ∃ q, q = q5 ++ FS := ⟨_, rfl⟩
 rw [← hq6] at hL6 HT
 have hl6 : q6.length ≤ 13 := by rw [hq6, List.length_append]; omega
 obtain ⟨a6, c6, hv6⟩ := hL6.shape'
 subst hv6
 clear hL5 hS5 hN5 hf05 hap6 neS5 neN5 hq6 ls
 go_wp2_with (at_builtin; refine wpList_app eB rfl (.tmp 51) (.tmp 52) 31 rfl Tryz.underlying31 _ rfl hL6 _ _ rfl hN6.see ?c1 hf06.size ?_)
 case c1 => omega
 intro v7 w7 hap7
 have hL7 := hap7.own
 have hf07 : Fr w w7 := hap7.below hL6 hf06 (Nat.le_refl _) hf06.size
 obtain ⟨q7, hq7⟩ : ∃ q, q = q6 ++ FN := ⟨_, rfl⟩
 rw [← hq7] at hL7 HT
 have hl7 : q7.length ≤ 17 := by rw [hq7, List.length_append]; omega
 have HP7 := hid (HP.out v7 q7 w7 hL7.see (by omega))
 rw [HT.out] at HP7
 obtain ⟨a7, c7, hv7⟩ := hL7.shape'
 subst hv7
 clear hL6 hN6 hf06 hap7 hq7 ln hL7
 go_wp2_with fail
 refine HP7.out.mono ?_
 rintro e w8 ⟨v8, rfl, hR8, hf8⟩
 have HR := hid (hR8.rebase hf07.size)
 clear hR8
 go_wp2_with fail
 go_ret
 exact ⟨_, rfl, HR.out, hf07.trans hf8⟩
set_option maxRecDepth 512
theorem ne_none (x : Value) : x.ownBlock = none ∨ x.ownBlock ≠ (Value.slice none 0 0).ownBlock := by
 cases h : x.ownBlock with
 | none => exact .inl rfl
 | some g => exact .inr (by simp [Value.ownBlock])
set_option maxRecDepth 100000
theorem RArchive_any (sz bu d q c : Nat) (p : Bool) (h1 : 16 ≤ sz) (h2 : sz ≤ 32768) (h3 : 1 ≤ bu) (h4 : bu ≤ 64) (h5 : 1 ≤ d) (h6 : d ≤ 8) (h7 : q ≤ 8) (h8 : q ≤ 4 * d) (h9 : 4 ≤ c) (h10 : c ≤ 100) (v : Value) (T : List UInt8) (w : World) (hs : See w eB v T) (hbl : T.length ≤ 1000000) :
  Calls Tryz.prog 19 #[optV ⟨(sz : Int), p, (bu : Int), (d : Int), (q : Int), (c : Int)⟩, v] w fun e w' => ∃ u, e = .returned (.tuple #[u, .int .i64 0]) ∧ Ow w' w.heap.size eB u (archL sz p bu d q c T) ∧ Fr w w' := by
 have hlay := lay_small d q c T.length h8 h9 h6 h10 hbl
 have HL := hid (fun W (h : Fr w W) => RLay_any d q c v T W (hs.fr h) h5 (by omega) (by omega) (by omega) hbl hlay)
 have hyl := layL_len T d q c (strN d c T.length)
 have HF := hid (RFlag_any p)
 have HH := hid (fun W => RHead_any sz bu d q c T.length p (if p then 1 else 0) W h2 (by omega) (by omega) (by omega) (by omega) (by omega))
 have HE : Hid (archL sz p bu d q c T = putB (headL sz p bu d q c T.length) ++ layL T d q c (strN d c T.length) ++ putB (headL sz p bu d q c T.length)) := rfl
 have hhl : (putB (headL sz p bu d q c T.length)).length = 21 := by rw [putB_len, headL_len]
 have hyl2 : (layL T d q c (strN d c T.length)).length ≤ 16777216 := by omega
 unfold headL at HE hhl
 obtain ⟨a0, cap, hv, _⟩ := hs.shape
 subst hv
 clear hs hyl hlay
 generalize archL sz p bu d q c T = AR at *
 generalize layL T d q c (strN d c T.length) = LY at *
 generalize putB (markB ++ [(if p then 1 else 0), UInt8.ofNat bu, UInt8.ofNat d, UInt8.ofNat q] ++ fixB 2 c ++ fixB 2 sz ++ fixB 4 T.length) = H at *
 generalize (if p then (1 : UInt8) else 0) = px at *
 have hhl2 : H.length ≤ 21 := by omega
 clear hhl
 have hO : (w.alloc (.cells #[N sz, .bool p, N bu, N d, N q, N c] 23)).heap[w.heap.size]? = some (.cells #[N sz, .bool p, N bu, N d, N q, N c] 23 (0, 0)) := heap_new _ _ _ rfl
 have hfW : Fr w (w.alloc (.cells #[N sz, .bool p, N bu, N d, N q, N c] 23)) := (Fr.refl w).alloc _
 go_enter Tryz.func19, Tryz.ntmps19
 go_wp2_with fail
 refine (HL.out _ hfW).mono ?_
 rintro e w1 ⟨v1, rfl, hY1, hf1⟩
 obtain ⟨p1, z1, hq1⟩ := hY1.shape'
 subst hq1
 have hO1 := hf1.heap hO
 have hf01 := hfW.trans hf1
 have hYb := hY1.rebase (b := w.heap.size) hfW.size
 have c0 : w1.cell? ⟨w.heap.size, 0, none⟩ = some (N sz) := by rw [cell_of_heap hO1]; rfl
 have c1 : w1.cell? ⟨w.heap.size, 1, none⟩ = some (.bool p) := by rw [cell_of_heap hO1]; rfl
 have c2 : w1.cell? ⟨w.heap.size, 2, none⟩ = some (N bu) := by rw [cell_of_heap hO1]; rfl
 have c3 : w1.cell? ⟨w.heap.size, 3, none⟩ = some (N d) := by rw [cell_of_heap hO1]; rfl
 have c4 : w1.cell? ⟨w.heap.size, 4, none⟩ = some (N q) := by rw [cell_of_heap hO1]; rfl
 have c5 : w1.cell? ⟨w.heap.size, 5, none⟩ = some (N c) := by rw [cell_of_heap hO1]; rfl
 clear hO hfW hf1 hY1
 go_upto_region 4 with fail
 go_region_held3 (fun w' => w'.cell? ⟨w.heap.size, 0, none⟩ = some (N sz) ∧ w'.cell? ⟨w.heap.size, 1, none⟩ = some (.bool p) ∧ w'.cell? ⟨w.heap.size, 2, none⟩ = some (N bu) ∧ w'.cell? ⟨w.heap.size, 3, none⟩ = some (N d) ∧ w'.cell? ⟨w.heap.size, 4, none⟩ = some (N q) ∧ w'.cell? ⟨w.heap.size, 5, none⟩ = some (N c))
  (first | go_keep)
  ((first
   | (go_at_call 51; refine (HF.out _).mono ?_; rintro e w2 ⟨rfl, rfl⟩)
   | (go_at_call 50; refine (HH.out _).mono ?_; rintro e w3 ⟨v3, rfl, hH3, hf3⟩; obtain ⟨p3, z3, hq3⟩ := hH3.shape'; subst hq3; have d0 := hf3.cell c0; have d1 := hf3.cell c1; have d2 := hf3.cell c2; have d3 := hf3.cell c3; have d4 := hf3.cell c4; have d5 := hf3.cell c5)))
 have hf13 : Fr w1 w3 := (Fr.refl w1).drew.trans hf3
 have hf03 := hf01.trans hf13
 have hY3 := hYb.fr hf13
 have hH3b := hH3.rebase (b := w.heap.size) hf01.size
 clear c0 c1 c2 c3 c4 c5 d0 d1 d2 d3 d4 d5 hO1 hYb hH3 hf3 hf13
 go_wp2_with (at_builtin; refine wpList_app eB rfl (.tmp 31) (.tmp 32) 31 rfl Tryz.underlying31 w.heap.size rfl (Ow.nil (E := eB)) _ _ rfl hH3b.see ?c1 hf03.size ?_)
 case c1 => first | omega | (simp; omega)
 intro v5 w5 hap5
 have hA5 := hap5.own
 have hH5 := hap5.other hH3b (ne_none _)
 have hY5 := hap5.other hY3 (ne_none _)
 have neH5 := hap5.apart hH3b (ne_none _)
 have neY5 := hap5.apart hY3 (ne_none _)
 have hf05 : Fr w w5 := hap5.below Ow.nil hf03 (Nat.le_refl _) hf03.size
 obtain ⟨a5, c5, hv5⟩ := hA5.shape'
 subst hv5
 clear hH3b hY3 hap5 hf03
 go_wp2_with (at_builtin; refine wpList_app eB rfl (.tmp 34) (.tmp 35) 31 rfl Tryz.underlying31 w.heap.size rfl hA5 _ _ rfl hY5.see ?c1 hf05.size ?_)
 case c1 => omega
 intro v6 w6 hap6
 have hA6 := hap6.own
 have hH6 := hap6.other hH5 neH5
 have neH6 := hap6.apart hH5 neH5
 have hf06 : Fr w w6 := hap6.below hA5 hf05 (Nat.le_refl _) hf05.size
 obtain ⟨q6, hq6⟩ : ∃ q, q = H ++ LY := ⟨_, rfl⟩
 rw [← hq6] at hA6 HE
 have hl6 : q6.length ≤ 20000000 := by rw [hq6, List.length_append]; omega
 obtain ⟨a6, c6, hv6⟩ := hA6.shape'
 subst hv6
 clear hA5 hH5 hY5 hap6 hf05 neH5 neY5 hq6
 go_wp2_with (at_builtin; refine wpList_app eB rfl (.tmp 37) (.tmp 38) 31 rfl Tryz.underlying31 w.heap.size rfl hA6 _ _ rfl hH6.see ?c1 hf06.size ?_)
 case c1 => omega
 intro v7 w7 hap7
 have hA7 := hap7.own
 rw [← HE.out] at hA7
 have hf07 : Fr w w7 := hap7.below hA6 hf06 (Nat.le_refl _) hf06.size
 obtain ⟨a7, c7, hv7⟩ := hA7.shape'
 subst hv7
 clear hA6 hH6 hap7 hf06 neH6
 go_wp2_with fail
 go_ret2
 exact ⟨_, rfl, hA7, hf07⟩
theorem RPack_no (o : Opt) (ho : opt3 o = false) (v : Value) (l : List Rec) (w : World) (hs : See w eR v l) :
  Calls Tryz.prog 10 #[optV o, v] w fun e w' => e = .returned (.tuple #[.slice none 0 0, .int .i64 9]) ∧ Fr w w' := by
 have HC := hid (fun W => ROCheck3_any o W)
 rw [if_neg (by rw [ho]; simp)] at HC
 obtain ⟨a0, cap, hv, _⟩ := hs.shape
 subst hv
 clear hs ho
 go_enter Tryz.func10, Tryz.ntmps10
 go_wp2_with fail
 refine (HC.out _).mono ?_
 rintro e w1 ⟨rfl, hf1⟩
 have hf01 : Fr w w1 := ((Fr.refl w).alloc _).trans hf1
 go_wp2_with fail
 go_ret2
 exact ⟨rfl, hf01⟩
theorem RPack_bad (o : Opt) (ho : opt3 o = true) (ho2 : opt2 o = true) (v : Value) (l : List Rec) (w : World) (hs : See w eR v l) (hl : okLog l = false) :
  Calls Tryz.prog 10 #[optV o, v] w fun e w' => e = .returned (.tuple #[.slice none 0 0, .int .i64 6]) ∧ Fr w w' := by
 have HC := hid (fun W => ROCheck3_any o W)
 rw [if_pos ho] at HC
 have HM := hid (fun W (h : Fr w W) => RMake_bad o ho2 v l W (hs.fr h) hl)
 obtain ⟨a0, cap, hv, _⟩ := hs.shape
 subst hv
 clear hs ho ho2 hl
 obtain ⟨ob, opl, obu, od, op, oc⟩ := o
 go_enter Tryz.func10, Tryz.ntmps10
 go_wp2_with fail
 refine (HC.out _).mono ?_
 rintro e w1 ⟨rfl, hf1⟩
 have hO1 := hf1.heap (heap_new w (.cells #[.int .i64 ob, .bool opl, .int .i64 obu, .int .i64 od, .int .i64 op, .int .i64 oc] 23) _ rfl)
 have hf01 : Fr w w1 := ((Fr.refl w).alloc _).trans hf1
 have c0 : w1.cell? ⟨w.heap.size, 0, none⟩ = some (.int .i64 ob) := by rw [cell_of_heap hO1]; rfl
 have c1 : w1.cell? ⟨w.heap.size, 1, none⟩ = some (.bool opl) := by rw [cell_of_heap hO1]; rfl
 have c2 : w1.cell? ⟨w.heap.size, 2, none⟩ = some (.int .i64 obu) := by rw [cell_of_heap hO1]; rfl
 have c3 : w1.cell? ⟨w.heap.size, 3, none⟩ = some (.int .i64 od) := by rw [cell_of_heap hO1]; rfl
 have c4 : w1.cell? ⟨w.heap.size, 4, none⟩ = some (.int .i64 op) := by rw [cell_of_heap hO1]; rfl
 have c5 : w1.cell? ⟨w.heap.size, 5, none⟩ = some (.int .i64 oc) := by rw [cell_of_heap hO1]; rfl
 go_wp2_with fail
 refine (HM.out _ hf01).mono ?_
 rintro e w2 ⟨rfl, hf2⟩
 have hf02 := hf01.trans hf2
 go_wp2_with fail
 go_ret2
 exact ⟨rfl, hf02⟩
theorem RPack_any (sz bu d q c : Nat) (p : Bool) (h1 : 16 ≤ sz) (h2 : sz ≤ 32768) (h3 : 1 ≤ bu) (h4 : bu ≤ 64) (h5 : 1 ≤ d) (h6 : d ≤ 8) (h7 : q ≤ 8) (h8 : q ≤ 4 * d) (h9 : 4 ≤ c) (h10 : c ≤ 100) (v : Value) (l : List Rec) (w : World) (hs : See w eR v l) (hl : SmallL l) :
  Calls Tryz.prog 10 #[optV ⟨(sz : Int), p, (bu : Int), (d : Int), (q : Int), (c : Int)⟩, v] w fun e w' => ∃ u, e = .returned (.tuple #[u, .int .i64 0]) ∧ Ow w' w.heap.size eB u (archL sz p bu d q c (bodyL sz bu p l)) ∧ Fr w w' := by
 have ho : opt3 ⟨(sz : Int), p, (bu : Int), (d : Int), (q : Int), (c : Int)⟩ = true := (opt3_iff _).2 (by refine ⟨?_, ?_, ?_, ?_, ?_, ?_, ?_, ?_, ?_, ?_⟩ <;> simp only <;> omega)
 have HC := hid (fun W => ROCheck3_any ⟨(sz : Int), p, (bu : Int), (d : Int), (q : Int), (c : Int)⟩ W)
 rw [if_pos ho] at HC
 have HM := hid (fun W (h : Fr w W) => RMake_any sz bu p (d : Int) (q : Int) (c : Int) h1 h2 h3 h4 v l W (hs.fr h) hl)
 have hbl := bodyL_len sz bu p l h3 h4 hl
 obtain ⟨a0, cap, hv, _⟩ := hs.shape
 subst hv
 clear hs ho hl
 generalize bodyL sz bu p l = T at *
 have HA := hid (fun u W (h2' : See W eB u T) => RArchive_any sz bu d q c p h1 h2 h3 h4 h5 h6 h7 h8 h9 h10 u T W h2' hbl)
 generalize archL sz p bu d q c T = AR at *
 go_enter Tryz.func10, Tryz.ntmps10
 go_wp2_with fail
 refine (HC.out _).mono ?_
 rintro e w1 ⟨rfl, hf1⟩
 have hO1 := hf1.heap (heap_new w (.cells #[N sz, .bool p, N bu, N d, N q, N c] 23) _ rfl)
 have hf01 : Fr w w1 := ((Fr.refl w).alloc _).trans hf1
 have c0 : w1.cell? ⟨w.heap.size, 0, none⟩ = some (N sz) := by rw [cell_of_heap hO1]; rfl
 have c1 : w1.cell? ⟨w.heap.size, 1, none⟩ = some (.bool p) := by rw [cell_of_heap hO1]; rfl
 have c2 : w1.cell? ⟨w.heap.size, 2, none⟩ = some (N bu) := by rw [cell_of_heap hO1]; rfl
 have c3 : w1.cell? ⟨w.heap.size, 3, none⟩ = some (N d) := by rw [cell_of_heap hO1]; rfl
 have c4 : w1.cell? ⟨w.heap.size, 4, none⟩ = some (N q) := by rw [cell_of_heap hO1]; rfl
 have c5 : w1.cell? ⟨w.heap.size, 5, none⟩ = some (N c) := by rw [cell_of_heap hO1]; rfl
 go_wp2_with fail
 refine (HM.out _ hf01).mono ?_
 rintro e w2 ⟨v2, rfl, hB2, hf2⟩
 have hf02 := hf01.trans hf2
 have HA2 := hid (HA.out v2 w2 hB2.see)
 obtain ⟨p2, z2, hq2⟩ := hB2.shape'
 subst hq2
 have d0 := hf2.cell c0
 have d1 := hf2.cell c1
 have d2 := hf2.cell c2
 have d3 := hf2.cell c3
 have d4 := hf2.cell c4
 have d5 := hf2.cell c5
 clear c0 c1 c2 c3 c4 c5 hB2 hO1 hf01 hf1 hf2
 go_wp2_with fail
 refine HA2.out.mono ?_
 rintro e w3 ⟨v3, rfl, hY3, hf3⟩
 have HR := hid (hY3.rebase hf02.size)
 clear hY3 d0 d1 d2 d3 d4 d5
 go_wp2_with fail
 go_ret2
 exact ⟨_, rfl, HR.out, hf02.trans hf3⟩
set_option maxRecDepth 512
theorem conv_at (v : Value) (l : List UInt8) (w : World) (h : See w eB v l) : (convert 31 9 v).run Tryz.prog w = .ok (S l) w :=
 run_conv_see eB w 31 9 Tryz.underlying31 (by kernel_rfl) Tryz.underlying9 rfl rfl h
theorem RSame1_any (va vb : Value) (a b : List UInt8) (w : World) (ha : See w eB va a) (hb : See w eB vb b) :
  Calls Tryz.prog 11 #[va, vb] w fun e w' => e = .returned (.bool (decide (a = b))) ∧ w = w' := by
 have h1 := conv_at va a w ha
 have h2 := conv_at vb b w hb
 obtain ⟨pa, ca, hva, _⟩ := ha.shape
 obtain ⟨pb, cb, hvb, _⟩ := hb.shape
 subst hva hvb
 clear ha hb
 have hd : (a == b) = decide (a = b) := by rw [Bool.eq_iff_iff]; simp
 generalize decide (a = b) = q at *
 go_enter Tryz.func11, Tryz.ntmps11
 go_wp2_with fail
 go_ret
 exact ⟨rfl, rfl⟩
set_option maxRecDepth 100000
theorem RCut1_any (q : List UInt8) (v : Value) (w : World) (hs : See w eB v (putB q)) (hq : q.length ≤ 1000) :
  Calls Tryz.prog 20 #[v] w fun e w' => ∃ u, e = .returned (.tuple #[u, .int .i64 0]) ∧ Fr w w' := by
 have hp := putB_len q
 obtain ⟨a0, cap, hv, _⟩ := hs.shape
 subst hv
 obtain ⟨hrun, hto⟩ := run_to eB 31 Tryz.underlying31 hs q.length (by omega)
 have htk : (putB q).take q.length = q := by unfold putB; simp
 rw [htk] at hto
 have HP := hid (fun W (h : Fr w W) => RPut_any _ q W (hto.fr h) (by omega))
 have HS := hid (fun W v' (h : Fr w W) (h2 : See W eB v' (putB q)) => RSame1_any v' _ (putB q) (putB q) W h2 (hs.fr h))
 rw [show decide (putB q = putB q) = true from decide_eq_true rfl] at HS
 have HT := hid (fun W (h : Fr w W) => hto.fr h)
 clear hto htk hs
 generalize putB q = B at *
 obtain ⟨n, hn⟩ : ∃ n, n = B.length := ⟨_, rfl⟩
 rw [← hn] at hp hrun HS ⊢
 clear hn
 subst hp
 have i1 : ¬ ((q.length + 4 : Nat) : Int) < 4 := by omega
 have i2 : ((q.length + 4 : Nat) : Int) - 4 = q.length := by omega
 have i3 : IntKind.i64.wrap (q.length : Int) = q.length := IntWalk.i64_in _ (by omega)
 go_enter Tryz.func20, Tryz.ntmps20
 go_wp2_with fail
 refine (HP.out _ (Fr.refl w)).mono ?_
 rintro e w1 ⟨v1, rfl, hO1, hf1⟩
 have HS1 := hid (HS.out w1 v1 hf1 hO1.see)
 obtain ⟨p1, z1, hq1⟩ := hO1.shape'
 subst hq1
 go_wp2_with fail
 refine HS1.out.mono ?_
 rintro e w2 ⟨rfl, rfl⟩
 have hl : Ow (w1.alloc (.cells #[] 5)) w.heap.size eB (.slice (some ⟨w1.heap.size, 0, none⟩) 0 0) [] := own_lit eB w1 #[] [] 0 rfl (Nat.zero_le _) hf1.size
 have hfa : Fr w (w1.alloc (.cells #[] 5)) := hf1.alloc _
 have hT1 := HT.out _ hfa
 clear hO1
 go_wp2_with (at_builtin; refine wpList_app eB rfl (.tmp 16) (.tmp 21) 31 rfl Tryz.underlying31 w.heap.size rfl hl _ _ rfl hT1 ?c1 hfa.size ?_)
 case c1 => first | omega | (simp; omega)
 intro v5 w5 hap5
 have hf05 : Fr w w5 := hap5.below hl hfa (Nat.le_refl _) hfa.size
 go_wp2_with fail
 go_ret2
 exact ⟨_, rfl, hf05⟩
theorem RMarked_any (q : List UInt8) (v : Value) (w : World) (hs : See w eB v (markB ++ q)) :
  Calls Tryz.prog 21 #[v] w fun e w' => e = .returned (.tuple #[.int .i64 3, .int .i64 0]) ∧ w = w' := by
 obtain ⟨a0, cap, hv, hc1, hc2, _⟩ := hs.shape
 subst hv
 have hl : (markB ++ q).length = q.length + 5 := by rw [List.length_append]; show 5 + q.length = _; omega
 unfold maxLen at hc2
 obtain ⟨b, off, cap', hv, c0⟩ := hs.cell1 Fk.u8 rfl 0 (by omega)
 obtain ⟨b', off', cap'', hv', c1⟩ := hs.cell1 Fk.u8 rfl 1 (by omega)
 cases hv
 cases hv'
 obtain ⟨b', off', cap'', hv', c2⟩ := hs.cell1 Fk.u8 rfl 2 (by omega)
 cases hv'
 obtain ⟨b', off', cap'', hv', c3⟩ := hs.cell1 Fk.u8 rfl 3 (by omega)
 cases hv'
 obtain ⟨b', off', cap'', hv', c4⟩ := hs.cell1 Fk.u8 rfl 4 (by omega)
 cases hv'
 rw [show (markB ++ q)[0]'(by omega) = (70 : UInt8) from rfl] at c0
 rw [show (markB ++ q)[1]'(by omega) = (73 : UInt8) from rfl] at c1
 rw [show (markB ++ q)[2]'(by omega) = (82 : UInt8) from rfl] at c2
 rw [show (markB ++ q)[3]'(by omega) = (75 : UInt8) from rfl] at c3
 rw [show (markB ++ q)[4]'(by omega) = (3 : UInt8) from rfl] at c4
 have d0 : w.cell? ⟨b, off, none⟩ = some (.int .u8 70) := c0
 have d1 : w.cell? ⟨b, off + 1, none⟩ = some (.int .u8 73) := c1
 have d2 : w.cell? ⟨b, off + 2, none⟩ = some (.int .u8 82) := c2
 have d3 : w.cell? ⟨b, off + 3, none⟩ = some (.int .u8 75) := c3
 have d4 : w.cell? ⟨b, off + 4, none⟩ = some (.int .u8 3) := c4
 clear hs c0 c1 c2 c3 c4
 rw [hl]
 rw [hl] at hc1
 generalize q.length = n at *
 clear hl
 have i1 : ¬ ((n + 5 : Nat) : Int) < 5 := by omega
 have i2 : (0 : Int) < ((n + 5 : Nat) : Int) := by omega
 have i3 : (1 : Int) < ((n + 5 : Nat) : Int) := by omega
 have i4 : (2 : Int) < ((n + 5 : Nat) : Int) := by omega
 have i5 : (3 : Int) < ((n + 5 : Nat) : Int) := by omega
 have i6 : (4 : Int) < ((n + 5 : Nat) : Int) := by omega
 go_enter Tryz.func21, Tryz.ntmps21
 go_wp2_with fail
 go_ret2
 exact ⟨rfl, rfl⟩
set_option maxRecDepth 512
set_option maxRecDepth 100000
theorem RCounts_any (r : List UInt8) (v : Value) (w : World) (hs : See w eB v (putB (markB ++ r))) (hq : r.length ≤ 900) :
  Calls Tryz.prog 12 #[v] w fun e w' => e = .returned (.bool true) ∧ Fr w w' := by
 have h5 : (markB ++ r).length ≤ 1000 := by rw [List.length_append, show markB.length = 5 from rfl]; omega
 have HC := hid (RCut1_any (markB ++ r) v w hs h5)
 have e : ∃ t, t = r ++ ((putB (markB ++ r)).drop (markB ++ r).length) := ⟨_, rfl⟩
 obtain ⟨t, ht2⟩ := e
 have ht : putB (markB ++ r) = markB ++ t := by rw [ht2]; unfold putB; simp
 clear ht2
 rw [ht] at hs
 have HM := hid (fun W (h : Fr w W) => RMarked_any t v W (hs.fr h))
 obtain ⟨a0, cap, hv, hc1, hc2, _⟩ := hs.shape
 subst hv
 clear hs ht h5 hq
 generalize markB ++ t = L at *
 clear t
 go_enter Tryz.func12, Tryz.ntmps12
 go_wp2_with fail
 refine HC.out.mono ?_
 rintro e w1 ⟨u, rfl, hf1⟩
 go_wp2_with fail
 refine (HM.out _ hf1).mono ?_
 rintro e w2 ⟨rfl, rfl⟩
 go_wp2_with fail
 go_ret
 exact ⟨rfl, hf1⟩
set_option maxRecDepth 512
theorem ex_len : (bodyL 16 1 false []).length = 21 := by decide +kernel
theorem ex_head : headL 16 false 1 2 1 8 21 = [70, 73, 82, 75, 3, 0, 1, 2, 1, 8, 0, 16, 0, 21, 0, 0, 0] := by decide +kernel
theorem ex_str : strN 2 8 21 = 2 := by decide +kernel
theorem ex_arch : archL 16 false 1 2 1 8 (bodyL 16 1 false []) = putB (headL 16 false 1 2 1 8 21) ++ layL (bodyL 16 1 false []) 2 1 8 2 ++ putB (headL 16 false 1 2 1 8 21) := by
 unfold archL; rw [ex_len, ex_str]
theorem small_nil : SmallL [] := ⟨Nat.zero_le _, Nat.zero_le _⟩
set_option maxRecDepth 100000
theorem alive24_any (w : World) (ht : Crc w) : Calls Tryz.prog 4 #[] w fun e w' => e = .returned (.bool true) ∧ Fr w w' := by
 have hfa : Fr w (w.alloc (.cells #[.int .i64 16, .bool false, .int .i64 1, .int .i64 2, .int .i64 1, .int .i64 8] 23)) := (Fr.refl w).alloc _
 have HP := hid (Pack_any 16 1 2 1 8 false (by omega) (by omega) (by omega) (by omega) (by omega) (by omega) (by omega) (by omega) (by omega) (by omega) (.slice none 0 0) [] _ See.nil small_nil (ht.fr hfa))
 rw [ex_arch] at HP
 have hH : (putB (headL 16 false 1 2 1 8 21)).length = 21 := by rw [putB_len, headL_len]
 have hL := layL_len (bodyL 16 1 false []) 2 1 8 2
 have h17 := headL_len 16 false 1 2 1 8 21
 obtain ⟨r, hr⟩ : ∃ r, headL 16 false 1 2 1 8 21 = markB ++ r := ⟨_, by unfold headL; rw [List.append_assoc, List.append_assoc, List.append_assoc]⟩
 have hr9 : r.length ≤ 900 := by
  have := congrArg List.length hr
  rw [List.length_append, h17] at this
  omega
 have HCn := hid (fun v W (h : See W eB v (putB (headL 16 false 1 2 1 8 21))) => RCounts_any r v W (by rw [← hr]; exact h) hr9)
 have hput : ∃ s, putB (headL 16 false 1 2 1 8 21) = headL 16 false 1 2 1 8 21 ++ s := ⟨_, by unfold putB; rfl⟩
 rw [ex_head] at *
 have hLY : (layL (bodyL 16 1 false []) 2 1 8 2).length = 72 := hL
 clear hL hr hr9 r
 generalize layL (bodyL 16 1 false []) 2 1 8 2 = LY at *
 generalize putB [70, 73, 82, 75, 3, 0, 1, 2, 1, 8, 0, 16, 0, 21, 0, 0, 0] = H at *
 have t17 : (H ++ LY ++ H).take 17 = [70, 73, 82, 75, 3, 0, 1, 2, 1, 8, 0, 16, 0, 21, 0, 0, 0] := by
  obtain ⟨s, hs⟩ := hput
  rw [hs, List.append_assoc, List.append_assoc]
  rfl
 have t21 : (H ++ LY ++ H).take 21 = H := by rw [List.append_assoc, ← hH, List.take_left]
 have d93 : (H ++ LY ++ H).drop 93 = H := by
  have : (H ++ LY).length = 93 := by rw [List.length_append]; omega
  rw [← this, List.drop_left]
 have hAR : (H ++ LY ++ H).length = 114 := by rw [List.length_append, List.length_append]; omega
 clear hput hH hLY h17
 generalize H ++ LY ++ H = AR at *
 generalize hl17 : [(70 : UInt8), 73, 82, 75, 3, 0, 1, 2, 1, 8, 0, 16, 0, 21, 0, 0, 0] = L17 at *
 have Hl17 := hid hl17
 clear hl17
 clear LY
 have hsl : ∀ W : World, See (W.alloc (.cells #[.int .u8 70, .int .u8 73, .int .u8 82, .int .u8 75, .int .u8 3, .int .u8 0, .int .u8 1, .int .u8 2, .int .u8 1, .int .u8 8, .int .u8 0, .int .u8 16, .int .u8 0, .int .u8 21, .int .u8 0, .int .u8 0, .int .u8 0] 5)) eB (.slice (some ⟨W.heap.size, 0, none⟩) 17 17) L17 := fun W => by
  rw [← Hl17.out]
  exact see_new eB W _ _ _ 17 rfl rfl (by show 17 ≤ maxLen; unfold maxLen; omega)
 have HSl := hid hsl
 have Ht17 := hid t17
 have Ht21 := hid t21
 have Hd93 := hid d93
 have HAR := hid hAR
 clear hsl t17 t21 d93 hAR ht
 go_enter Tryz.func4, Tryz.ntmps4
 go_wp2_with fail
 refine HP.out.mono ?_
 rintro e w1 ⟨v1, rfl, hO1, hf1⟩
 have hf01 := hfa.trans hf1
 have hsee := hO1.see
 obtain ⟨p1, z1, hq1⟩ := hO1.shape'
 subst hq1
 have s17 := run_to eB 31 Tryz.underlying31 hsee 17 (by rw [HAR.out]; omega)
 have s21 := run_to eB 31 Tryz.underlying31 hsee 21 (by rw [HAR.out]; omega)
 obtain ⟨a2, z2, r93, s93⟩ := run_from eB 31 Tryz.underlying31 hsee 93 (by rw [HAR.out]; omega)
 obtain ⟨r17, s17⟩ := s17
 obtain ⟨r21, s21⟩ := s21
 rw [Ht17.out] at s17
 rw [Ht21.out] at s21
 rw [Hd93.out] at s93
 rw [HAR.out] at r17 r21 r93 s93
 have q17 : ∀ W, (Instr.slice 31 (.slice p1 114 z1) none (some (.int .i64 17)) none).run Tryz.prog W = .ok (.slice p1 17 z1) W := r17
 have q21 : ∀ W, (Instr.slice 31 (.slice p1 114 z1) none (some (.int .i64 21)) none).run Tryz.prog W = .ok (.slice p1 21 z1) W := r21
 have q93 : ∀ W, (Instr.slice 31 (.slice p1 114 z1) (some (.int .i64 93)) none none).run Tryz.prog W = .ok (.slice a2 21 z2) W := r93
 have HS1 := hid (fun W (h : Fr w1 W) => RSame1_any _ _ L17 L17 _ (s17.fr (h.alloc _)) (HSl.out W))
 have HS2 := hid (fun W (h : Fr w1 W) => RSame1_any _ _ H H W (s21.fr h) (s93.fr h))
 have HC2 := hid (fun W (h : Fr w1 W) => HCn.out _ W (s21.fr h))
 rw [show decide (L17 = L17) = true from decide_eq_true rfl] at HS1
 rw [show decide (H = H) = true from decide_eq_true rfl] at HS2
 rw [HAR.out]
 clear r17 r21 r93 s17 s21 s93 hsee hO1 HAR HSl
 have hw93 : IntKind.i64.wrap ((114 : Int) - 21) = 93 := by decide
 have hw93b : IntKind.i64.wrap (((114 : Nat) : Int) - 21) = 93 := by decide
 have hw93c : IntKind.i64.wrap (93 : Int) = 93 := by decide
 go_upto_region 3 with fail
 go_region_held3 (fun _ => True)
  (first | trivial | go_keep)
  ((first
   | (go_at_call_of 11 (Value.slice p1 17 z1); refine (HS1.out _ ((Fr.refl w1).drew)).mono ?_; rintro e w2 ⟨rfl, rfl⟩)
   | (go_at_call 12; refine (HC2.out _ (((Fr.refl w1).drew).alloc _)).mono ?_; rintro e w3 ⟨rfl, hf3⟩)
   | (go_at_call_of 11 (Value.slice p1 21 z1); refine (HS2.out _ ((((Fr.refl w1).drew).alloc _).trans hf3)).mono ?_; rintro e w4 ⟨rfl, rfl⟩)))
 have hff := hf01.trans ((((Fr.refl w1).drew).alloc _).trans hf3)
 go_wp2_with fail
 go_ret
 exact ⟨rfl, hff⟩
set_option maxRecDepth 512
theorem wtGo_wt (l : List Rec) : ∀ sum n : Int, n < 2199023255552 → wtGo sum l ≤ n → sum + (wtS wt1 l : Int) ≤ n := by
 induction l with
 | nil => intro sum n _ h; simpa [wtS, wtGo] using h
 | cons r l ih =>
  intro sum n hn h
  unfold wtGo at h
  split at h
  · omega
  · have := ih _ n hn h
    have e : wtS wt1 (r :: l) = wt1 r + wtS wt1 l := by simp [wtS]
    have e2 : wt1 r = 16 + r.source.length + r.text.length := by unfold wt1; omega
    rw [e, e2]
    push_cast
    omega
theorem small_of {l : List Rec} (h : (decide (20 < l.length) || decide ((800 : Int) < wtGo 0 l)) = false) : SmallL l := by
 simp only [Bool.or_eq_false_iff, decide_eq_false_iff_not] at h
 have := wtGo_wt l 0 800 (by omega) (by omega)
 exact ⟨by omega, by omega⟩
def smallB (o : Opt) : Bool := decide (o.d ≤ 8) && (decide (o.p ≤ 8) && (decide (o.p ≤ 4 * o.d) && (decide (4 ≤ o.c) && decide (o.c ≤ 100))))
set_option maxRecDepth 100000
theorem RSmall_any (o : Opt) (h1 : 1 ≤ o.d) (h2 : o.d ≤ 255) (w : World) : Calls Tryz.prog 8 #[optV o] w fun e w' => e = .returned (.bool (smallB o)) ∧ Fr w w' := by
 obtain ⟨ob, opl, obu, od, op, oc⟩ := o
 have h1' : 1 ≤ od := h1
 have h2' : od ≤ 255 := h2
 have hw : IntKind.i64.wrap (4 * od) = 4 * od := IntWalk.i64_in _ (by omega)
 have HS : Hid (smallB ⟨ob, opl, obu, od, op, oc⟩ = (decide (od ≤ 8) && (decide (op ≤ 8) && (decide (op ≤ 4 * od) && (decide (4 ≤ oc) && decide (oc ≤ 100)))))) := rfl
 generalize smallB ⟨ob, opl, obu, od, op, oc⟩ = R at *
 clear h1 h2
 by_cases q0 : od ≤ 8
 · skip
   by_cases q1 : op ≤ 8
   · skip
     by_cases q2 : op ≤ 4 * od
     · skip
       by_cases q3 : 4 ≤ oc
       · skip
         by_cases q4 : oc ≤ 100
         · skip
           obtain rfl : R = true := by rw [HS.out]; simp [q0, q1, q2, q3, q4]
           clear HS
           go_enter Tryz.func8, Tryz.ntmps8
           go_wp2_with fail
           go_ret
           exact ⟨rfl, (Fr.refl w).alloc _⟩
         · skip
           obtain rfl : R = false := by rw [HS.out]; simp [q0, q1, q2, q3, q4]
           clear HS
           go_enter Tryz.func8, Tryz.ntmps8
           go_wp2_with fail
           go_ret
           exact ⟨rfl, (Fr.refl w).alloc _⟩
       · skip
         obtain rfl : R = false := by rw [HS.out]; simp [q0, q1, q2, q3]
         clear HS
         go_enter Tryz.func8, Tryz.ntmps8
         go_wp2_with fail
         go_ret
         exact ⟨rfl, (Fr.refl w).alloc _⟩
     · skip
       obtain rfl : R = false := by rw [HS.out]; simp [q0, q1, q2]
       clear HS
       go_enter Tryz.func8, Tryz.ntmps8
       go_wp2_with fail
       go_ret
       exact ⟨rfl, (Fr.refl w).alloc _⟩
   · skip
     obtain rfl : R = false := by rw [HS.out]; simp [q0, q1]
     clear HS
     go_enter Tryz.func8, Tryz.ntmps8
     go_wp2_with fail
     go_ret
     exact ⟨rfl, (Fr.refl w).alloc _⟩
 · skip
   obtain rfl : R = false := by rw [HS.out]; simp [q0]
   clear HS
   go_enter Tryz.func8, Tryz.ntmps8
   go_wp2_with fail
   go_ret
   exact ⟨rfl, (Fr.refl w).alloc _⟩
set_option maxRecDepth 512
theorem six_box {w W : World} (o : Opt) (h : Fr (w.alloc (.cells #[.int .i64 o.b, .bool o.plain, .int .i64 o.bu, .int .i64 o.d, .int .i64 o.p, .int .i64 o.c] 23)) W) :
  W.cell? ⟨w.heap.size, 0, none⟩ = some (.int .i64 o.b) ∧ W.cell? ⟨w.heap.size, 1, none⟩ = some (.bool o.plain) ∧ W.cell? ⟨w.heap.size, 2, none⟩ = some (.int .i64 o.bu) ∧ W.cell? ⟨w.heap.size, 3, none⟩ = some (.int .i64 o.d) ∧ W.cell? ⟨w.heap.size, 4, none⟩ = some (.int .i64 o.p) ∧ W.cell? ⟨w.heap.size, 5, none⟩ = some (.int .i64 o.c) := by
 have hO := h.heap (heap_new w (.cells #[.int .i64 o.b, .bool o.plain, .int .i64 o.bu, .int .i64 o.d, .int .i64 o.p, .int .i64 o.c] 23) _ rfl)
 refine ⟨?_, ?_, ?_, ?_, ?_, ?_⟩ <;> (rw [cell_of_heap hO]; rfl)
set_option maxRecDepth 100000
theorem TP_no (o : Opt) (v : Value) (l : List Rec) (w : World) (hs : See w eR v l) (ht : Crc w) (ho : opt3 o = false) :
  Calls Tryz.prog 3 #[optV o, v] w fun e w' => e = .returned (.bool true) ∧ Fr w w' := by
 have HA := hid (fun W (h : Fr w W) => alive24_any W (ht.fr h))
 have HC := hid (fun W => ROCheck3_any o W)
 rw [if_neg (by rw [ho]; simp)] at HC
 have HP := hid (fun W (h : Fr w W) => Pack_no o ho v l W (hs.fr h))
 have HR := hid (fun W (h : Fr w W) => RPack_no o ho v l W (hs.fr h))
 clear ho
 obtain ⟨a0, cap, hv, _⟩ := hs.shape
 subst hv
 have hfa : Fr w (w.alloc (.cells #[.int .i64 o.b, .bool o.plain, .int .i64 o.bu, .int .i64 o.d, .int .i64 o.p, .int .i64 o.c] 23)) := (Fr.refl w).alloc _
 have H6 := hid (fun W (h : Fr (w.alloc (.cells #[.int .i64 o.b, .bool o.plain, .int .i64 o.bu, .int .i64 o.d, .int .i64 o.p, .int .i64 o.c] 23)) W) => six_box o h)
 clear hs ht
 obtain ⟨ob, opl, obu, od, op, oc⟩ := o
 go_enter Tryz.func3, Tryz.ntmps3
 go_wp2_with fail
 refine (HA.out _ hfa).mono ?_
 rintro e w1 ⟨rfl, hf1⟩
 obtain ⟨c0, c1, c2, c3, c4, c5⟩ := H6.out _ hf1
 go_wp2_with fail
 refine (HC.out _).mono ?_
 rintro e w2 ⟨rfl, hf2⟩
 have g2 := hf1.trans hf2
 clear c0 c1 c2 c3 c4 c5
 obtain ⟨c0, c1, c2, c3, c4, c5⟩ := H6.out _ g2
 go_wp2_with fail
 refine (HP.out _ (hfa.trans g2)).mono ?_
 rintro e w7 ⟨rfl, hf7⟩
 have g7 := g2.trans hf7
 clear c0 c1 c2 c3 c4 c5
 obtain ⟨c0, c1, c2, c3, c4, c5⟩ := H6.out _ g7
 go_wp2_with fail
 refine (HR.out _ (hfa.trans g7)).mono ?_
 rintro e w8 ⟨rfl, hf8⟩
 have g8 := g7.trans hf8
 have HS := hid (RSame1_any (.slice none 0 0) (.slice none 0 0) [] [] w8 See.nil See.nil)
 rw [show decide (([] : List UInt8) = []) = true from rfl] at HS
 clear c0 c1 c2 c3 c4 c5
 go_wp2_with fail
 refine HS.out.mono ?_
 rintro e w9 ⟨rfl, rfl⟩
 go_wp2_with fail
 go_ret
 exact ⟨rfl, hfa.trans g8⟩
theorem TP_bad (o : Opt) (v : Value) (l : List Rec) (w : World) (hs : See w eR v l) (ht : Crc w) (ho : opt3 o = true) (ho2 : opt2 o = true) (hl : okLog l = false) :
  Calls Tryz.prog 3 #[optV o, v] w fun e w' => e = .returned (.bool true) ∧ Fr w w' := by
 have HA := hid (fun W (h : Fr w W) => alive24_any W (ht.fr h))
 have HC := hid (fun W => ROCheck3_any o W)
 rw [if_pos ho] at HC
 have HQ := hid (fun W (h : Fr w W) => RQCheck_any v l W (hs.fr h))
 rw [if_neg (by rw [hl]; simp)] at HQ
 have HP := hid (fun W (h : Fr w W) => Pack_bad o ho ho2 v l W (hs.fr h) hl)
 have HR := hid (fun W (h : Fr w W) => RPack_bad o ho ho2 v l W (hs.fr h) hl)
 clear ho ho2 hl
 obtain ⟨a0, cap, hv, _⟩ := hs.shape
 subst hv
 have hfa : Fr w (w.alloc (.cells #[.int .i64 o.b, .bool o.plain, .int .i64 o.bu, .int .i64 o.d, .int .i64 o.p, .int .i64 o.c] 23)) := (Fr.refl w).alloc _
 have H6 := hid (fun W (h : Fr (w.alloc (.cells #[.int .i64 o.b, .bool o.plain, .int .i64 o.bu, .int .i64 o.d, .int .i64 o.p, .int .i64 o.c] 23)) W) => six_box o h)
 clear hs ht
 obtain ⟨ob, opl, obu, od, op, oc⟩ := o
 go_enter Tryz.func3, Tryz.ntmps3
 go_wp2_with fail
 refine (HA.out _ hfa).mono ?_
 rintro e w1 ⟨rfl, hf1⟩
 obtain ⟨c0, c1, c2, c3, c4, c5⟩ := H6.out _ hf1
 go_wp2_with fail
 refine (HC.out _).mono ?_
 rintro e w2 ⟨rfl, hf2⟩
 have g2 := hf1.trans hf2
 clear c0 c1 c2 c3 c4 c5
 obtain ⟨c0, c1, c2, c3, c4, c5⟩ := H6.out _ g2
 go_wp2_with fail
 refine (HQ.out _ (hfa.trans g2)).mono ?_
 rintro e w3 ⟨rfl, hf3⟩
 have g3 := g2.trans hf3
 clear c0 c1 c2 c3 c4 c5
 obtain ⟨c0, c1, c2, c3, c4, c5⟩ := H6.out _ g3
 go_wp2_with fail
 refine (HP.out _ (hfa.trans g3)).mono ?_
 rintro e w7 ⟨rfl, hf7⟩
 have g7 := g3.trans hf7
 clear c0 c1 c2 c3 c4 c5
 obtain ⟨c0, c1, c2, c3, c4, c5⟩ := H6.out _ g7
 go_wp2_with fail
 refine (HR.out _ (hfa.trans g7)).mono ?_
 rintro e w8 ⟨rfl, hf8⟩
 have g8 := g7.trans hf8
 have HS := hid (RSame1_any (.slice none 0 0) (.slice none 0 0) [] [] w8 See.nil See.nil)
 rw [show decide (([] : List UInt8) = []) = true from rfl] at HS
 clear c0 c1 c2 c3 c4 c5
 go_wp2_with fail
 refine HS.out.mono ?_
 rintro e w9 ⟨rfl, rfl⟩
 go_wp2_with fail
 go_ret
 exact ⟨rfl, hfa.trans g8⟩
theorem TP_great (o : Opt) (v : Value) (l : List Rec) (w : World) (hs : See w eR v l) (ht : Crc w) (ho : opt3 o = true) (hl : okLog l = true) (hg : (decide (20 < l.length) || decide ((800 : Int) < wtGo 0 l)) = true) :
  Calls Tryz.prog 3 #[optV o, v] w fun e w' => e = .returned (.bool true) ∧ Fr w w' := by
 have HA := hid (fun W (h : Fr w W) => alive24_any W (ht.fr h))
 have HC := hid (fun W => ROCheck3_any o W)
 rw [if_pos ho] at HC
 have HQ := hid (fun W (h : Fr w W) => RQCheck_any v l W (hs.fr h))
 rw [if_pos hl] at HQ
 have HG := hid (fun W (h : Fr w W) => (show Calls Tryz.prog 7 #[v, .int .i64 20, .int .i64 800] W (fun e w' => e = .returned (.bool (decide (20 < l.length) || decide ((800 : Int) < wtGo 0 l))) ∧ Fr W w') from Great_any v l W (hs.fr h) 20 800 (by omega)))
 rw [hg] at HG
 clear ho hl hg
 obtain ⟨a0, cap, hv, _⟩ := hs.shape
 subst hv
 have hfa : Fr w (w.alloc (.cells #[.int .i64 o.b, .bool o.plain, .int .i64 o.bu, .int .i64 o.d, .int .i64 o.p, .int .i64 o.c] 23)) := (Fr.refl w).alloc _
 have H6 := hid (fun W (h : Fr (w.alloc (.cells #[.int .i64 o.b, .bool o.plain, .int .i64 o.bu, .int .i64 o.d, .int .i64 o.p, .int .i64 o.c] 23)) W) => six_box o h)
 clear hs ht
 obtain ⟨ob, opl, obu, od, op, oc⟩ := o
 go_enter Tryz.func3, Tryz.ntmps3
 go_wp2_with fail
 refine (HA.out _ hfa).mono ?_
 rintro e w1 ⟨rfl, hf1⟩
 obtain ⟨c0, c1, c2, c3, c4, c5⟩ := H6.out _ hf1
 go_wp2_with fail
 refine (HC.out _).mono ?_
 rintro e w2 ⟨rfl, hf2⟩
 have g2 := hf1.trans hf2
 clear c0 c1 c2 c3 c4 c5
 obtain ⟨c0, c1, c2, c3, c4, c5⟩ := H6.out _ g2
 go_wp2_with fail
 refine (HQ.out _ (hfa.trans g2)).mono ?_
 rintro e w3 ⟨rfl, hf3⟩
 have g3 := g2.trans hf3
 clear c0 c1 c2 c3 c4 c5
 obtain ⟨c0, c1, c2, c3, c4, c5⟩ := H6.out _ g3
 go_wp2_with fail
 refine (HG.out _ (hfa.trans g3)).mono ?_
 rintro e w4 ⟨rfl, hf4⟩
 have g4 := g3.trans hf4
 clear c0 c1 c2 c3 c4 c5
 obtain ⟨c0, c1, c2, c3, c4, c5⟩ := H6.out _ g4
 go_wp2_with fail
 go_ret
 exact ⟨rfl, hfa.trans g4⟩
theorem TP_wide (o : Opt) (v : Value) (l : List Rec) (w : World) (hs : See w eR v l) (ht : Crc w) (ho : opt3 o = true) (hl : okLog l = true) (hg : (decide (20 < l.length) || decide ((800 : Int) < wtGo 0 l)) = false) (hm : smallB o = false) :
  Calls Tryz.prog 3 #[optV o, v] w fun e w' => e = .returned (.bool true) ∧ Fr w w' := by
 have HA := hid (fun W (h : Fr w W) => alive24_any W (ht.fr h))
 have HC := hid (fun W => ROCheck3_any o W)
 rw [if_pos ho] at HC
 have HQ := hid (fun W (h : Fr w W) => RQCheck_any v l W (hs.fr h))
 rw [if_pos hl] at HQ
 have HG := hid (fun W (h : Fr w W) => (show Calls Tryz.prog 7 #[v, .int .i64 20, .int .i64 800] W (fun e w' => e = .returned (.bool (decide (20 < l.length) || decide ((800 : Int) < wtGo 0 l))) ∧ Fr W w') from Great_any v l W (hs.fr h) 20 800 (by omega)))
 rw [hg] at HG
 have HM := hid (fun W => RSmall_any o (((opt3_iff o).1 ho).2.2.1) (((opt3_iff o).1 ho).2.2.2.1) W)
 rw [hm] at HM
 clear ho hl hg hm
 obtain ⟨a0, cap, hv, _⟩ := hs.shape
 subst hv
 have hfa : Fr w (w.alloc (.cells #[.int .i64 o.b, .bool o.plain, .int .i64 o.bu, .int .i64 o.d, .int .i64 o.p, .int .i64 o.c] 23)) := (Fr.refl w).alloc _
 have H6 := hid (fun W (h : Fr (w.alloc (.cells #[.int .i64 o.b, .bool o.plain, .int .i64 o.bu, .int .i64 o.d, .int .i64 o.p, .int .i64 o.c] 23)) W) => six_box o h)
 clear hs ht
 obtain ⟨ob, opl, obu, od, op, oc⟩ := o
 go_enter Tryz.func3, Tryz.ntmps3
 go_wp2_with fail
 refine (HA.out _ hfa).mono ?_
 rintro e w1 ⟨rfl, hf1⟩
 obtain ⟨c0, c1, c2, c3, c4, c5⟩ := H6.out _ hf1
 go_wp2_with fail
 refine (HC.out _).mono ?_
 rintro e w2 ⟨rfl, hf2⟩
 have g2 := hf1.trans hf2
 clear c0 c1 c2 c3 c4 c5
 obtain ⟨c0, c1, c2, c3, c4, c5⟩ := H6.out _ g2
 go_wp2_with fail
 refine (HQ.out _ (hfa.trans g2)).mono ?_
 rintro e w3 ⟨rfl, hf3⟩
 have g3 := g2.trans hf3
 clear c0 c1 c2 c3 c4 c5
 obtain ⟨c0, c1, c2, c3, c4, c5⟩ := H6.out _ g3
 go_wp2_with fail
 refine (HG.out _ (hfa.trans g3)).mono ?_
 rintro e w4 ⟨rfl, hf4⟩
 have g4 := g3.trans hf4
 clear c0 c1 c2 c3 c4 c5
 obtain ⟨c0, c1, c2, c3, c4, c5⟩ := H6.out _ g4
 go_wp2_with fail
 refine (HM.out _).mono ?_
 rintro e w5 ⟨rfl, hf5⟩
 go_wp2_with fail
 go_ret
 exact ⟨rfl, hfa.trans (g4.trans hf5)⟩
theorem TP_all (o : Opt) (v : Value) (l : List Rec) (w : World) (hs : See w eR v l) (ht : Crc w) (ho : opt3 o = true) (hg : (decide (20 < l.length) || decide ((800 : Int) < wtGo 0 l)) = false) (hm : smallB o = true) (AR : List UInt8) (hP : ∀ W, Fr w W → Calls Tryz.prog 9 #[optV o, v] W fun e w' => ∃ u, e = .returned (.tuple #[u, .int .i64 0]) ∧ Ow w' W.heap.size eB u AR ∧ Fr W w') (hR : ∀ W, Fr w W → Calls Tryz.prog 10 #[optV o, v] W fun e w' => ∃ u, e = .returned (.tuple #[u, .int .i64 0]) ∧ Ow w' W.heap.size eB u AR ∧ Fr W w') :
  Calls Tryz.prog 3 #[optV o, v] w fun e w' => e = .returned (.bool true) ∧ Fr w w' := by
 have HA := hid (fun W (h : Fr w W) => alive24_any W (ht.fr h))
 have hl := (small_of hg).ok
 have HC := hid (fun W => ROCheck3_any o W)
 rw [if_pos ho] at HC
 have HQ := hid (fun W (h : Fr w W) => RQCheck_any v l W (hs.fr h))
 rw [if_pos hl] at HQ
 have HG := hid (fun W (h : Fr w W) => (show Calls Tryz.prog 7 #[v, .int .i64 20, .int .i64 800] W (fun e w' => e = .returned (.bool (decide (20 < l.length) || decide ((800 : Int) < wtGo 0 l))) ∧ Fr W w') from Great_any v l W (hs.fr h) 20 800 (by omega)))
 rw [hg] at HG
 have HM := hid (fun W => RSmall_any o (((opt3_iff o).1 ho).2.2.1) (((opt3_iff o).1 ho).2.2.2.1) W)
 rw [hm] at HM
 have HP := hid hP
 have HR := hid hR
 clear ho hl hg hm hP hR
 obtain ⟨a0, cap, hv, _⟩ := hs.shape
 subst hv
 have hfa : Fr w (w.alloc (.cells #[.int .i64 o.b, .bool o.plain, .int .i64 o.bu, .int .i64 o.d, .int .i64 o.p, .int .i64 o.c] 23)) := (Fr.refl w).alloc _
 have H6 := hid (fun W (h : Fr (w.alloc (.cells #[.int .i64 o.b, .bool o.plain, .int .i64 o.bu, .int .i64 o.d, .int .i64 o.p, .int .i64 o.c] 23)) W) => six_box o h)
 clear hs ht
 obtain ⟨ob, opl, obu, od, op, oc⟩ := o
 go_enter Tryz.func3, Tryz.ntmps3
 go_wp2_with fail
 refine (HA.out _ hfa).mono ?_
 rintro e w1 ⟨rfl, hf1⟩
 obtain ⟨c0, c1, c2, c3, c4, c5⟩ := H6.out _ hf1
 go_wp2_with fail
 refine (HC.out _).mono ?_
 rintro e w2 ⟨rfl, hf2⟩
 have g2 := hf1.trans hf2
 clear c0 c1 c2 c3 c4 c5
 obtain ⟨c0, c1, c2, c3, c4, c5⟩ := H6.out _ g2
 go_wp2_with fail
 refine (HQ.out _ (hfa.trans g2)).mono ?_
 rintro e w3 ⟨rfl, hf3⟩
 have g3 := g2.trans hf3
 clear c0 c1 c2 c3 c4 c5
 obtain ⟨c0, c1, c2, c3, c4, c5⟩ := H6.out _ g3
 go_wp2_with fail
 refine (HG.out _ (hfa.trans g3)).mono ?_
 rintro e w4 ⟨rfl, hf4⟩
 have g4 := g3.trans hf4
 clear c0 c1 c2 c3 c4 c5
 obtain ⟨c0, c1, c2, c3, c4, c5⟩ := H6.out _ g4
 go_wp2_with fail
 refine (HM.out _).mono ?_
 rintro e w5 ⟨rfl, hf5⟩
 have g5 := g4.trans hf5
 clear c0 c1 c2 c3 c4 c5
 obtain ⟨c0, c1, c2, c3, c4, c5⟩ := H6.out _ g5
 go_wp2_with fail
 refine (HP.out _ (hfa.trans g5)).mono ?_
 rintro e w7 ⟨u7, rfl, hO7, hf7⟩
 have g7 := g5.trans hf7
 have hs7 := hO7.see
 obtain ⟨p7, z7, hq7⟩ := hO7.shape'
 subst hq7
 clear c0 c1 c2 c3 c4 c5
 obtain ⟨c0, c1, c2, c3, c4, c5⟩ := H6.out _ g7
 go_wp2_with fail
 refine (HR.out _ (hfa.trans g7)).mono ?_
 rintro e w8 ⟨u8_, rfl, hO8, hf8⟩
 have g8 := g7.trans hf8
 have HS := hid (RSame1_any _ _ AR AR w8 (hs7.fr hf8) hO8.see)
 rw [show decide (AR = AR) = true from decide_eq_true rfl] at HS
 obtain ⟨p8, z8, hq8⟩ := hO8.shape'
 subst hq8
 clear c0 c1 c2 c3 c4 c5
 go_wp2_with fail
 refine HS.out.mono ?_
 rintro e w9 ⟨rfl, rfl⟩
 go_wp2_with fail
 go_ret
 exact ⟨rfl, hfa.trans g8⟩
set_option maxRecDepth 512
theorem ThreePacks_any (o : Opt) (v : Value) (l : List Rec) (w : World) (ht : Crc w) (hs : See w eR v l) :
  Calls Tryz.prog 3 #[optV o, v] w fun e w' => e = .returned (.bool true) ∧ Fr w w' := by
 by_cases ho : opt3 o = true
 · have h3 := (opt3_iff o).1 ho
   have ho2 : opt2 o = true := (opt2_iff o).2 ⟨h3.1, h3.2.1, h3.2.2.2.2.2.2.2.2.1, h3.2.2.2.2.2.2.2.2.2⟩
   by_cases hl : okLog l = true
   · cases hg : (decide (20 < l.length) || decide ((800 : Int) < wtGo 0 l)) with
     | true => exact TP_great o v l w hs ht ho hl hg
     | false =>
      cases hm : smallB o with
      | false => exact TP_wide o v l w hs ht ho hl hg hm
      | true =>
       have hsm := small_of hg
       have hm2 := hm
       obtain ⟨ob, opl, obu, od, op, oc⟩ := o
       simp only [smallB, Bool.and_eq_true, decide_eq_true_eq] at hm2
       simp only at h3
       obtain ⟨m1, m2, m3, m4, m5⟩ := hm2
       obtain ⟨k1, k2, k3, k4, k5, k6, k7, k8, k9, k10⟩ := h3
       obtain ⟨sz, rfl⟩ := Int.eq_ofNat_of_zero_le (show 0 ≤ ob by omega)
       obtain ⟨bu, rfl⟩ := Int.eq_ofNat_of_zero_le (show 0 ≤ obu by omega)
       obtain ⟨d, rfl⟩ := Int.eq_ofNat_of_zero_le (show 0 ≤ od by omega)
       obtain ⟨q, rfl⟩ := Int.eq_ofNat_of_zero_le k5
       obtain ⟨c, rfl⟩ := Int.eq_ofNat_of_zero_le (show 0 ≤ oc by omega)
       exact TP_all _ v l w hs ht ho hg hm _
        (fun W h => Pack_any sz bu d q c opl (by omega) (by omega) (by omega) (by omega) (by omega) (by omega) (by omega) (by omega) (by omega) (by omega) v l W (hs.fr h) hsm (ht.fr h))
        (fun W h => RPack_any sz bu d q c opl (by omega) (by omega) (by omega) (by omega) (by omega) (by omega) (by omega) (by omega) (by omega) (by omega) v l W (hs.fr h) hsm)
   · exact TP_bad o v l w hs ht ho ho2 (by simpa using hl)
 · exact TP_no o v l w hs ht (by simpa using ho)
end Go.Proofs.YtmfbmjplmaimbaaGreatDoor
