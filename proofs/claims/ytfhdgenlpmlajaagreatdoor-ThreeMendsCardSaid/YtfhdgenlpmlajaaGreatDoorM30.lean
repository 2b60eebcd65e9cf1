/- Parts of the proof of ThreeMends: T6 Tr2. -/
import Derived.Test.YtfhdgenlpmlajaaGreatDoorM29
import Derived.Test.YtfhdgenlpmlajaaGreatDoorM27
import Derived.Test.YtfhdgenlpmlajaaGreatDoorM28
set_option linter.unusedVariables false
set_option linter.unusedSectionVars false
set_option linter.unusedSimpArgs false
set_option maxHeartbeats 8000000
namespace Go.Proofs.YtfhdgenlpmlajaaGreatDoor
open Go.RowKit Go.Fk
def slLen : Value → Nat | .slice _ n _ => n | _ => 0
set_option maxRecDepth 100000
theorem Read_any (k m c n : Nat) (v : Value) (l : List UInt8) (w : World) (hs : See w eB v l) (hk : 1 ≤ k) (hkm : k + m ≤ 255) (hc1 : 1 ≤ c) (hc6 : c ≤ 4096) (hn : n ≤ 4294967296) (hl : l.length ≤ 4000) (ht : Crc w) :
  Calls Tryz.prog 23 #[N k, N m, N c, N n, v] w fun e w' => ∃ u bv, e = .returned (.tuple #[u, bv, .int .i64 ((readS k m c n l).1 : Int)]) ∧ Ow w' w.heap.size eB u (readS k m c n l).2.1 ∧ Ow w' w.heap.size eJ bv (readS k m c n l).2.2 ∧ Fr w w' := by
 have HSz := hid (Size_any k m c n hk hkm hc1 hc6)
 obtain ⟨q1, q2⟩ := sizeV_cases k m c n
 obtain ⟨a0, cap, hv, hcap1, hcap2, _⟩ := hs.shape
 subst hv
 unfold maxLen at hcap2
 by_cases hbig : 8388608 < n
 · rw [q2 (by omega)] at HSz
   have HR := hid (readS_big k m c n l hbig)
   clear hs ht q1 q2
   go_enter Tryz.func23, Tryz.ntmps23
   go_wp2_with fail
   refine (HSz.out _).mono ?_
   rintro e w1 ⟨rfl, hf1⟩
   go_wp2_with fail
   go_ret3
   rw [HR.out]
   exact ⟨_, _, rfl, Ow.nil, Ow.nil, hf1⟩
 · obtain ⟨q3, q4⟩ := q1 (by omega)
   by_cases hlim : 16777216 < strN k c n * ((k + m) * (c + 4))
   · rw [q4 (by omega)] at HSz
     have HR := hid (readS_limit k m c n l hbig hlim)
     clear hs ht q3 q4 q2 q1 hlim
     go_enter Tryz.func23, Tryz.ntmps23
     go_wp2_with fail
     refine (HSz.out _).mono ?_
     rintro e w1 ⟨rfl, hf1⟩
     go_wp2_with fail
     go_ret3
     rw [HR.out]
     exact ⟨_, _, rfl, Ow.nil, Ow.nil, hf1⟩
   · rw [q3 (by omega)] at HSz
     by_cases hsh : l.length < strN k c n * ((k + m) * (c + 4))
     · have HR := hid (readS_short k m c n l hbig hlim hsh)
       clear hs ht q3 q4 q2 q1
       generalize strN k c n * ((k + m) * (c + 4)) = size at *
       have j1 : (l.length : Int) < size := by omega
       go_enter Tryz.func23, Tryz.ntmps23
       go_wp2_with fail
       refine (HSz.out _).mono ?_
       rintro e w1 ⟨rfl, hf1⟩
       go_wp2_with fail
       go_ret3
       rw [HR.out]
       exact ⟨_, _, rfl, Ow.nil, Ow.nil, hf1⟩
     · by_cases hlo : strN k c n * ((k + m) * (c + 4)) < l.length
       · have HR := hid (readS_long k m c n l hbig hlim hlo)
         clear hs ht q3 q4 q2 q1
         generalize strN k c n * ((k + m) * (c + 4)) = size at *
         have j1 : ¬ (l.length : Int) < size := by omega
         have j2 : (size : Int) < l.length := by omega
         go_enter Tryz.func23, Tryz.ntmps23
         go_wp2_with fail
         refine (HSz.out _).mono ?_
         rintro e w1 ⟨rfl, hf1⟩
         go_wp2_with fail
         go_ret3
         rw [HR.out]
         exact ⟨_, _, rfl, Ow.nil, Ow.nil, hf1⟩
       · have heq : l.length = strN k c n * ((k + m) * (c + 4)) := by omega
         have HR := hid (readS_eq k m c n l hbig hlim heq)
         have hL0 : 1 * 5 ≤ (k + m) * (c + 4) := Nat.mul_le_mul (by omega) (by omega)
         have hkc0 : 1 * 1 ≤ k * c := Nat.mul_le_mul hk hc1
         have hnk : n ≤ strN k c n * (k * c) := by
          have := fun h => (strN_lt k c n (by omega) (strN k c n)).2 h
          omega
         have HLd := hid (slaid_any k m c hkm hc6)
         have HCut := hid (fun s => stripeR_cut k m c l (s * ((k + m) * (c + 4))))
         have HBCut := hid (fun s b => badS_cut l c (s * ((k + m) * (c + 4))) (k + m) b)
         have HGs := hid (readGo_step k m c l)
         have HGe := hid (readGo_stop k m c l)
         have HGl := hid (readGo_len k m c l)
         have HSl := hid (stripe_flat k m c l)
         have HBl := hid (fun a b => show (badS l c a (k + m) b).length ≤ k + m from by rw [badS_eq]; exact Nat.le_trans (badG_len _ _) (Nat.le_of_eq (goodS_len l c a (k + m))))
         have HStr := hid (fun (B n' : Nat) (ov bv v' : Value) (out l' : List UInt8) (bad : List Nat) (W : World) (h1 : RdAt W B w.heap.size k m c ov out bv bad n') (h2 : ∀ W', Below w.heap.size W W' → See W' eB v' l') (h3 : l'.length = (k + m) * (c + 4)) (h4 : l'.length ≤ 4000) (h5 : n' ≤ 50000) (h6 : bad.length ≤ 50000) (h7 : out.length ≤ 500000) (h8 : w.heap.size ≤ W.heap.size) (h9 : w.heap.size ≤ B) (h10 : ∀ W', Below w.heap.size W W' → Crc W') =>
          stripe_any B w.heap.size k m c n' ov bv v' out l' bad W h1 h2 h3 h4 hk hkm hc1 h5 h6 h7 h8 h9 h10)
         obtain ⟨sN, hsN⟩ : ∃ sN, sN = strN k c n := ⟨_, rfl⟩
         obtain ⟨L, hLe⟩ : ∃ L, L = (k + m) * (c + 4) := ⟨_, rfl⟩
         obtain ⟨KC, hKC⟩ : ∃ KC, KC = k * c := ⟨_, rfl⟩
         rw [← hsN, ← hLe] at heq HSz
         rw [← hLe] at HLd hL0 HCut HBCut HStr HGs HGe HGl HSl
         rw [← hsN] at HR hnk
         rw [← hKC] at hkc0 hnk HGl HSl
         have hsL : sN * 5 ≤ sN * L := Nat.mul_le_mul_left _ (by omega)
         have hkcL : KC ≤ L := by rw [hKC, hLe]; exact Nat.mul_le_mul (by omega) (by omega)
         have hsKC : sN * KC ≤ sN * L := Nat.mul_le_mul_left _ hkcL
         have hL4 : (k + m) ≤ L := by rw [hLe]; exact Nat.le_mul_of_pos_right _ (by omega)
         have hskm : sN * (k + m) ≤ sN * L := Nat.mul_le_mul_left _ hL4
         have HLn := hid (And.intro heq (And.intro hnk (And.intro hsL (And.intro hsKC (And.intro hkcL hskm)))))
         have HS := hid hs
         have HT := hid ht
         rw [← heq] at HSz
         have hl0 : ¬ (l.length : Int) < l.length := by omega
         have hnl : (n : Int) ≤ 8388608 := by omega
         have HLe := hid hLe
         clear hs ht q1 q2 q3 q4 hlim hsh hlo heq hsN hLe hKC hsL hkcL hsKC hL4 hskm hnk
         go_enter Tryz.func23, Tryz.ntmps23
         go_wp2_with fail
         refine (HSz.out _).mono ?_
         rintro e w1 ⟨rfl, hf1⟩
         go_wp2_with fail
         have hA : Fr w1 (w1.alloc (.cells #[N k, N m, N c, .slice none 0 0, .slice none 0 0, .int .i64 0] 98)) := (Fr.refl w1).alloc _
         have hB0 := heap_new w1 (.cells #[N k, N m, N c, .slice none 0 0, .slice none 0 0, .int .i64 0] 98) w1.heap.size rfl
         generalize w1.alloc (.cells #[N k, N m, N c, .slice none 0 0, .slice none 0 0, .int .i64 0] 98) = w2 at *
         have hBw := hf1.size
         generalize w1.heap.size = B at *
         have hf02 := hf1.trans hA
         have hR0 : RdAt w2 B w.heap.size k m c (.slice none 0 0) [] (.slice none 0 0) [] 0 := ⟨hB0, Ow.nil, Ow.nil⟩
         clear hA hB0 hf1 HSz
         go_loopw [4, 16] (fun sv ev wr => ∃ (s n' : Nat) (a' : Option Addr) (c' : Nat) (ov bv : Value) (out : List UInt8) (bad : List Nat), s ≤ sN ∧ Hid (n' = l.length - s * L) ∧ sv = .slice a' n' c' ∧ See w eB (.slice a' n' c') (l.drop (s * L)) ∧ RdAt wr B w.heap.size k m c ov out bv bad (s * (k + m)) ∧ Hid (out.length = s * KC) ∧ Hid (bad.length ≤ s * (k + m)) ∧ Hid (readGo k m c l (sN - s) s out bad = readGo k m c l sN 0 [] []) ∧ Fr w wr) (fun sv _ _ => slLen sv)
         case atStart => exact ⟨0, l.length, a0, cap, _, _, [], [], Nat.zero_le _, by show _ = _; rw [Nat.zero_mul, Nat.sub_zero], rfl, by rw [Nat.zero_mul]; exact HS.out, by rw [Nat.zero_mul]; exact hR0, by show _ = _; simp, Nat.zero_le _, rfl, hf02⟩
         case round =>
          clear hR0 hf02
          obtain ⟨s, n', a', c', ov, bv, out, bad, hsle, HN', rfl, hse, hRd, hOl, hBd, hGo, hf⟩ := hrel
          by_cases hlt : s < sN
          · have hsL1 : s * L + L ≤ l.length := by
              rw [HLn.out.1]
              have := Nat.mul_le_mul_right L (show s + 1 ≤ sN from hlt)
              rw [Nat.add_mul, Nat.one_mul] at this
              exact this
            have hdl : (l.drop (s * L)).length = n' := by rw [List.length_drop]; exact HN'.out.symm
            have hLn : L ≤ n' := by rw [HN'.out]; omega
            obtain ⟨hto, hts⟩ := run_to eB 22 Tryz.underlying22 hse L (by rw [hdl]; exact hLn)
            obtain ⟨fa, fc, hfr, hfs⟩ := run_from eB 22 Tryz.underlying22 hse L (by rw [hdl]; exact hLn)
            rw [hdl] at hfr hfs
            have htl : ((l.drop (s * L)).take L).length = L := by rw [List.length_take, hdl]; omega
            have hskm : s * (k + m) ≤ sN * (k + m) := Nat.mul_le_mul_right _ hsle
            have hsKC : s * KC ≤ sN * KC := Nat.mul_le_mul_right _ hsle
            obtain ⟨l1, l2, l3, l4, l5, l6⟩ := HLn.out
            have hb5 : bad.length ≤ 50000 := by have := hBd.out; omega
            have ho5 : out.length ≤ 500000 := by have := hOl.out; omega
            have hS := hid (fun W (h : Fr wr W) => HStr.out B (s * (k + m)) ov bv (.slice a' L c') out ((l.drop (s * L)).take L) bad W (hRd.fr h) (fun W' h' => hts.fr (Below.trans (show Below w.heap.size w W from hf.trans h) h')) htl (by rw [htl]; omega) (by omega) hb5 ho5 (hf.trans h).size hBw (fun W' h' => HT.out.fr (Below.trans (show Below w.heap.size w W from hf.trans h) h')))
            rw [HCut.out s, HBCut.out s] at hS
            obtain ⟨f, hfe⟩ : ∃ f, sN - s = f + 1 := ⟨sN - s - 1, by omega⟩
            have hfe2 : sN - (s + 1) = f := by omega
            have HGo := hGo.out
            rw [hfe] at HGo
            have HSt := hid (fun h => HGs.out f s out bad h)
            have HSp := hid (fun h => HGe.out f s out bad h)
            have HFl := hid (fun h => HSl.out (s * L) hsL1 h)
            have hbS := HBl.out (s * L) (s * (k + m))
            have hs1 : (s + 1) * L = s * L + L := by rw [Nat.add_mul, Nat.one_mul]
            have hs2 : (s + 1) * KC = s * KC + KC := by rw [Nat.add_mul, Nat.one_mul]
            have hs3 : (s + 1) * (k + m) = s * (k + m) + (k + m) := by rw [Nat.add_mul, Nat.one_mul]
            have hdr : (l.drop (s * L)).drop L = l.drop ((s + 1) * L) := by rw [List.drop_drop, hs1]
            rw [hdr] at hfs
            have hn2 : Hid (n' - L = l.length - (s + 1) * L) := by show _ = _; rw [hs1, HN'.out]; omega
            have HGo2 := hid HGo
            have HNum := hid (And.intro hs2 (And.intro hs3 hfe2))
            have d0 : wr.cell? ⟨B, 0, none⟩ = some (N k) := by rw [cell_of_heap hRd.h]; rfl
            have d1 : wr.cell? ⟨B, 1, none⟩ = some (N m) := by rw [cell_of_heap hRd.h]; rfl
            have d2 : wr.cell? ⟨B, 2, none⟩ = some (N c) := by rw [cell_of_heap hRd.h]; rfl
            have hB1 := hRd.h
            have hov := hRd.o.lt
            have hbv := hRd.b.lt
            have hn0 : (0 : Int) < n' := by omega
            have hLn2 : (L : Int) ≤ n' := by omega
            have HLn2 := hid hLn
            clear l1 l2 l3 l4 l5 l6 hskm hsKC htl hsL1 hdl hLn hs1 hs2 hs3 hdr HGo hGo hfe hfe2 hts hse hRd
            generalize stripeR k m c l (s * L) = sr at *
            generalize badS l c (s * L) (k + m) (s * (k + m)) = bs at *
            go_wp2_with fail
            refine (HLd.out _).mono ?_
            rintro e w3 ⟨rfl, hf3⟩
            have hS3 := hid (hS.out w3 hf3)
            go_wp2_with fail
            refine hS3.out.mono ?_
            rintro e w4 ⟨rfl, hok, hch⟩
            have hf04 : Fr w w4 := Chg.below (hf.trans hf3) hch (hf.trans hf3).size (fun i e => by
             rcases e with e | e | e
             · omega
             · exact (hov i e).1
             · exact (hbv i e).1)
            have HOk := hid hok
            clear hok hch hS hS3
            by_cases herr : sr.1 = 0
            · obtain ⟨ov', bv', hR4⟩ := HOk.out herr
              have e0 := hR4.h
              have x0 : w4.cell? ⟨B, 0, none⟩ = some (N k) := by rw [cell_of_heap e0]; rfl
              have x1 : w4.cell? ⟨B, 1, none⟩ = some (N m) := by rw [cell_of_heap e0]; rfl
              have x2 : w4.cell? ⟨B, 2, none⟩ = some (N c) := by rw [cell_of_heap e0]; rfl
              have HR4 := hid hR4
              have HFl2 := hid (HFl.out herr)
              have HSt2 := hid (HSt.out herr)
              rw [herr]
              clear e0 hR4 HFl HSt HSp HOk
              go_wp2_with fail
              refine (HLd.out _).mono ?_
              rintro e w5 ⟨rfl, hf5⟩
              have hf05 := hf04.trans hf5
              have hR5 := HR4.out.fr hf5
              go_wp2_with fail
              go_roundw
              case rel =>
               exact ⟨s + 1, n' - L, fa, fc, ov', bv', out ++ sr.2.flatten, bad ++ bs, hlt, hn2, rfl, hfs, by rw [HNum.out.2.1]; exact hR5, by
                show _ = _
                rw [List.length_append, hOl.out, HFl2.out, HNum.out.1], by
                show _ ≤ _
                rw [List.length_append, HNum.out.2.1]
                have := hBd.out; omega, by
                show _ = _
                rw [HNum.out.2.2, ← HSt2.out]; exact HGo2.out, hf05⟩
              case measure =>
               have := HLn2.out
               simp [slLen]; omega
            · have HRE : Hid (readS k m c n l = (sr.1, [], [])) := by
                show _ = _
                rw [HR.out]
                simp only [← HGo2.out, HSp.out herr, herr, if_false]
              have hxne : ¬ ((sr.1 : Nat) : Int) = 0 := by omega
              clear HFl HSt HSp HOk hbv hov HR
              obtain ⟨x, hx⟩ : ∃ x, x = sr.1 := ⟨_, rfl⟩
              rw [← hx] at HRE hxne ⊢
              clear hx
              go_wp2_with fail
              go_ret3
              rw [HRE.out]
              exact ⟨_, _, rfl, Ow.nil, Ow.nil, hf04⟩
          · have hsN : sN = s := by omega
            subst hsN
            obtain ⟨l1, l2, l3, l4, l5, l6⟩ := HLn.out
            have hn0 : n' = 0 := by rw [HN'.out]; omega
            subst hn0
            have hon : n ≤ out.length := by rw [hOl.out]; exact l2
            have ho5 : out.length ≤ 4000 := by rw [hOl.out]; omega
            have hg0 := hGo.out
            rw [Nat.sub_self] at hg0
            have hg1 : readGo k m c l sN 0 [] [] = (0, out, bad) := hg0.symm
            have HRE : Hid (readS k m c n l = if (out.drop n).all (· == 0) then (0, out.take n, bad) else (2, [], [])) := by
             show _ = _
             rw [HR.out, hg1]
             rfl
            obtain ⟨oa, oc, hov⟩ := hRd.o.shape'
            subst hov
            obtain ⟨fa, fc, hfr, hfs⟩ := run_from eB 22 Tryz.underlying22 hRd.o.see n hon
            obtain ⟨hto, hts⟩ := run_to eB 22 Tryz.underlying22 hRd.o.see n hon
            have d3 : wr.cell? ⟨B, 3, none⟩ = some (.slice oa out.length oc) := by rw [cell_of_heap hRd.h]; rfl
            have d4 : wr.cell? ⟨B, 4, none⟩ = some bv := by rw [cell_of_heap hRd.h]; rfl
            have hzl : (out.drop n).length = out.length - n := List.length_drop
            have HCl := hid (fun W (h : Fr wr W) => BClone_any (.slice oa n oc) (out.take n) W (hts.fr h) (by rw [List.length_take]; omega))
            obtain ⟨ol, hol⟩ : ∃ ol, ol = out.length := ⟨_, rfl⟩
            obtain ⟨zl, hzle⟩ : ∃ zl, zl = ol - n := ⟨_, rfl⟩
            rw [← hol] at hfr hto d3 hzl hon ho5
            rw [← hol] at hfs
            rw [← hzle] at hfr hfs hzl
            have hbJ := hRd.b
            have hzb : zl ≤ 4000 := by omega
            have hnb : (n : Int) ≤ ol := by omega
            have HZl := hid hzl
            have HRd := hid hRd
            clear l1 l2 l3 l4 l5 l6 hg0 hg1 hGo hOl hBd HN' HR HStr HSl HGl HGs HGe HBl HBCut HCut HLd hts hse hRd hol hzle hzl
            generalize out.drop n = ZS at *
            generalize out.take n = TK at *
            go_wp2_with fail
            go_loopw [76, 18] (fun iv xv wx => ∃ i : Nat, i ≤ zl ∧ iv = N i ∧ (∀ j, j < i → ZS.getD j 0 = 0) ∧ wx = wr) (fun iv _ _ => zl - (intOf iv).toNat)
            case atStart => exact ⟨0, Nat.zero_le _, rfl, fun j h => absurd h (Nat.not_lt_zero j), rfl⟩
            case round =>
             obtain ⟨i, hi, rfl, hz, hw⟩ := hrel
             subst hw
             by_cases hlt2 : i < zl
             · have hiz : i < ZS.length := by rw [HZl.out]; exact hlt2
               obtain ⟨b, off, cp, hv, e1⟩ := hfs.cell1 Fk.u8 rfl i hiz
               simp only [Value.slice.injEq] at hv
               obtain ⟨rfl, hz1, rfl⟩ := hv
               clear hz1
               have HgZ := hid (getD_at ZS i 0 hiz)
               have e2 : wr.cell? ⟨b, off + i, none⟩ = some (.int .u8 ((ZS[i].toNat : Nat) : Int)) := e1
               have HiZ := hid hiz
               obtain ⟨zx, hzx⟩ : ∃ x : UInt8, x = ZS[i]'hiz := ⟨_, rfl⟩
               rw [← hzx] at e2 HgZ
               have HxZ := hid (show zx.toNat = 0 → zx = 0 from fun h => UInt8.toNat_inj.1 (by rw [h]; rfl))
               have HxN := hid (show zx = 0 → zx.toNat = 0 from fun h => by rw [h]; rfl)
               clear e1 hzx hiz
               have i1 : (i : Int) < zl := by omega
               have i2 : (0 : Int) ≤ i := by omega
               by_cases hx : zx.toNat = 0
               · rw [hx] at e2
                 have e3 : wr.cell? ⟨b, off + i, none⟩ = some (.int .u8 0) := e2
                 have hx0 := hid (HxZ.out hx)
                 clear e2 hx HxZ HxN
                 go_wp2_with fail
                 go_roundw
                 case rel => exact ⟨i + 1, by omega, by go_num, (fun j hj => by
                  rcases Nat.lt_or_ge j i with h | h
                  · exact hz j h
                  · obtain rfl : j = i := by omega
                    rw [HgZ.out, hx0.out]), by trivial⟩
                 case measure => simp [intOf]; omega
               · have hx1 : ¬ ((zx.toNat : Nat) : Int) = 0 := by omega
                 have hne : Hid (readS k m c n l = (2, [], [])) := by
                  show _ = _
                  rw [HRE.out, if_neg]
                  intro h
                  have := List.all_eq_true.1 h (ZS[i]'HiZ.out) (List.getElem_mem _)
                  have h2 := HgZ.out
                  rw [getD_at ZS i 0 HiZ.out] at h2
                  rw [h2] at this
                  exact hx (HxN.out (by simpa using this))
                 clear hx HxZ HxN
                 go_wp2_with fail
                 go_ret3
                 rw [hne.out]
                 exact ⟨_, _, rfl, Ow.nil, Ow.nil, hf⟩
             · obtain rfl : i = zl := by omega
               have hall : Hid (readS k m c n l = (0, TK, bad)) := by
                show _ = _
                rw [HRE.out, if_pos]
                rw [List.all_eq_true]
                intro x hx
                obtain ⟨j, hj, rfl⟩ := List.mem_iff_getElem.1 hx
                have := hz j (by rw [← HZl.out]; exact hj)
                rw [getD_at ZS j 0 hj] at this
                rw [this]; rfl
               have hnl2 : ¬ ((i : Int) < i) := by omega
               have HC2 := hid (HCl.out wr.drew (Fr.refl wr).drew)
               clear hz HRE hfs
               go_upto_region 20 with fail
               go_region_held3 (fun w' => w'.cell? ⟨B, 3, none⟩ = some (.slice oa ol oc) ∧ w'.cell? ⟨B, 4, none⟩ = some bv)
                (first | go_keep)
                ((go_at_call 61; refine HC2.out.mono ?_; rintro e w6 ⟨v6, rfl, hO6, hf6⟩; have uu3 := hf6.cell d3; have uu4 := hf6.cell d4))
               have hf16 := (Fr.refl wr).drew.trans hf6
               have hO7 := hO6.rebase (b := w.heap.size) hf.size
               have hb7 := hbJ.fr hf16
               have hf07 := hf.trans hf16
               clear hO6 hbJ uu3 uu4 d3 d4
               go_wp2_with fail
               go_ret3
               rw [hall.out]
               exact ⟨_, _, rfl, hO7, hb7, hf07⟩
set_option maxRecDepth 512
theorem optE_zero (o : Opt) (h : opt3 o = true) : optE o = 0 := by unfold optE; rw [if_pos h]
theorem optE_nine (o : Opt) (h : opt3 o = false) : optE o = 9 := by unfold optE; rw [if_neg (by rw [h]; simp)]
theorem readB_bad (b : List UInt8) (h : (readB b).1 ≠ 0) : readB b = ((readB b).1, [], []) := by
 unfold readB at h ⊢
 unfold readS at h ⊢
 simp only at h ⊢
 repeat' split
 all_goals first | rfl | (simp_all; done)
theorem readGo_bad (k m c : Nat) (l : List UInt8) : ∀ (f s : Nat) (out : List UInt8) (bad : List Nat), (readGo k m c l f s out bad).2.2.length ≤ bad.length + f * (k + m)
 | 0, _, out, bad => by simp [readGo]
 | f + 1, s, out, bad => by
  unfold readGo
  by_cases h1 : (stripeR k m c l (s * ((k + m) * (c + 4)))).1 = 0
  · simp only [h1, if_true]
    refine Nat.le_trans (readGo_bad k m c l f (s + 1) _ _) ?_
    have h2 : (badS l c (s * ((k + m) * (c + 4))) (k + m) (s * (k + m))).length ≤ k + m := by
     rw [badS_eq]; exact Nat.le_trans (badG_len _ _) (Nat.le_of_eq (goodS_len _ _ _ _))
    rw [List.length_append, Nat.add_mul f 1, Nat.one_mul]
    omega
  · simp only [h1, if_false]; exact Nat.zero_le _
theorem readS_bad (k m c n : Nat) (l : List UInt8) : (readS k m c n l).2.2.length ≤ l.length := by
 by_cases h1 : 8388608 < n
 · rw [readS_big k m c n l h1]; exact Nat.zero_le _
 · by_cases h2 : 16777216 < strN k c n * ((k + m) * (c + 4))
   · rw [readS_limit k m c n l h1 h2]; exact Nat.zero_le _
   · by_cases h3 : l.length < strN k c n * ((k + m) * (c + 4))
     · rw [readS_short k m c n l h1 h2 h3]; exact Nat.zero_le _
     · by_cases h4 : strN k c n * ((k + m) * (c + 4)) < l.length
       · rw [readS_long k m c n l h1 h2 h4]; exact Nat.zero_le _
       · have h5 : l.length = strN k c n * ((k + m) * (c + 4)) := by omega
         rw [readS_eq k m c n l h1 h2 h5]
         have h6 := readGo_bad k m c l (strN k c n) 0 [] []
         have h7 : strN k c n * (k + m) ≤ strN k c n * ((k + m) * (c + 4)) := Nat.mul_le_mul_left _ (Nat.le_mul_of_pos_right _ (by omega))
         simp only
         split
         · split
           · simp only [List.length_nil] at h6
             show (readGo k m c l (strN k c n) 0 [] []).2.2.length ≤ _
             omega
           · exact Nat.zero_le _
         · exact Nat.zero_le _
set_option maxRecDepth 100000
theorem mended_any (v : Value) (b : List UInt8) (w : World) (hs : See w eB v b) (hl : b.length ≤ 1500) (ht : Crc w) :
    Calls Tryz.prog 12 #[v] w fun e w' => ∃ hv u, e = .returned (.tuple #[hv, u, N (bodyR b).2.2, .int .i64 ((bodyR b).1 : Int)]) ∧ Ow w' w.heap.size eB u (bodyR b).2.1 ∧ Fr w w' ∧ ((bodyR b).1 = 0 → ∃ g xv, hv = .pointer (some ⟨g, 0, none⟩) ∧ w.heap.size ≤ g ∧ w'.heap[g]? = some (hdB (hSz (headOf b)) (hP (headOf b)) (hBu (headOf b)) (hD (headOf b)) (hQ (headOf b)) (hC (headOf b)) (hN (headOf b)) xv)) := by
  have HS := hid hs
  obtain ⟨a0, cap, hv, hcap1, hcap2, _⟩ := hs.shape
  subst hv
  unfold maxLen at hcap2
  by_cases h42 : b.length < 42
  · have HC := hid (choose_short _ b w hs h42)
    have HR := hid (bodyR_short b h42)
    clear hs ht h42
    go_enter Tryz.func12, Tryz.ntmps12
    go_wp2_with fail
    refine HC.out.mono ?_
    rintro e w1 ⟨rfl, hf1⟩
    go_wp2_with fail
    refine bodyPost_ret (v := .tuple #[.pointer none, .slice none 0 0, .int .i64 0, .int .i64 1]) (by simp [results, Tryz.results12, go_sem, *]) rfl ?_
    rw [HR.out]
    exact ⟨_, _, rfl, Ow.nil, hf1, fun h => by cases h⟩
  · have HC := hid (choose_any _ b w hs (by omega) (by omega) ht)
    by_cases hh : hasB b = true
    · rw [if_pos hh] at HC
      have hhl := headOf_len b h42
      have HRd := hid (fun W u (h : See W eB u (headOf b)) => head_read u (headOf b) W h hhl)
      by_cases hX1 : 1 < hX (headOf b)
      · have HR := hid (bodyR_form b h42 hh hX1)
        have HX1 := hid hX1
        have HHh := hid hh
        clear hs ht h42 hX1 hhl hh
        go_enter Tryz.func12, Tryz.ntmps12
        go_wp2_with fail
        refine HC.out.mono ?_
        rintro e w1 ⟨u, rfl, hsee, _, hf1⟩
        have HR2 := hid (HRd.out w1 u (hsee HHh.out))
        clear hsee HC HRd
        go_wp2_with fail
        refine HR2.out.mono ?_
        rintro e w2 ⟨hf2, hor⟩
        have he : e = .returned (.tuple #[.pointer none, .int .i64 2]) := by
          rcases hor with h | h
          · exact h.2
          · have := HX1.out; omega
        subst he
        clear hor HR2
        have hf02 := hf1.trans hf2
        go_wp2_with fail
        refine bodyPost_ret (v := .tuple #[.pointer none, .slice none 0 0, .int .i64 0, .int .i64 2]) (by simp [results, Tryz.results12, go_sem, *]) rfl ?_
        rw [HR.out]
        exact ⟨_, _, rfl, Ow.nil, hf02, fun h => by cases h⟩
      · cases hop : opt3 (optH (headOf b))
        · have HR := hid (bodyR_opts b h42 hh hX1 hop)
          have HX1 := hid hX1
          have HHh := hid hh
          have HOE := hid (optE_nine _ hop)
          clear hs ht h42 hX1 hhl hh hop
          go_enter Tryz.func12, Tryz.ntmps12
          go_wp2_with fail
          refine HC.out.mono ?_
          rintro e w1 ⟨u, rfl, hsee, _, hf1⟩
          have HR2 := hid (HRd.out w1 u (hsee HHh.out))
          clear hsee HC HRd
          go_wp2_with fail
          refine HR2.out.mono ?_
          rintro e w2 ⟨hf2, hor⟩
          obtain ⟨g, rfl, hgs, hG⟩ : ∃ g, e = .returned (.tuple #[.pointer (some ⟨g, 0, none⟩), .int .i64 (optE (optH (headOf b)))]) ∧ w1.heap.size ≤ g ∧ True := by
            rcases hor with h | h
            · exact absurd h.1 HX1.out
            · obtain ⟨_, g, h1, h2, _⟩ := h
              exact ⟨g, h1, h2, trivial⟩
          rw [HOE.out]
          clear hor HR2
          have hf02 := hf1.trans hf2
          go_wp2_with fail
          refine bodyPost_ret (v := .tuple #[.pointer none, .slice none 0 0, .int .i64 0, .int .i64 9]) (by simp [results, Tryz.results12, go_sem, *]) rfl ?_
          rw [HR.out]
          exact ⟨_, _, rfl, Ow.nil, hf02, fun h => by cases h⟩
        · have hok := optH_ok _ hop
          have HOE := hid (optE_zero _ hop)
          have HX1 := hid hX1
          have HHh := hid hh
          obtain ⟨o1, o2, o3, o4, o5, o6, o7, o8⟩ := hok
          have hq1 := UInt8.toNat_lt ((headOf b).getD 7 0)
          have hq2 := UInt8.toNat_lt ((headOf b).getD 8 0)
          have hN4 : hN (headOf b) < 4294967296 := by
            have := leN_lt ((headOf b).drop 13 |>.take 4)
            rw [List.length_take, List.length_drop, hhl] at this
            exact this
          have HRe := hid (fun W u (h : See W eB u (innerB b)) (h2 : Fr w W) => Read_any (hD (headOf b)) (hQ (headOf b)) (hC (headOf b)) (hN (headOf b)) u (innerB b) W h o5 o6 o7 o8 (by omega) (by rw [innerB_len]; omega) (ht.fr h2))
          have HRB : Hid (readB b = readS (hD (headOf b)) (hQ (headOf b)) (hC (headOf b)) (hN (headOf b)) (innerB b)) := rfl
          rw [← HRB.out] at HRe
          obtain ⟨K21, hK⟩ : ∃ K, K = b.length - 21 := ⟨_, rfl⟩
          obtain ⟨fa, fc, hmid, hms⟩ := run_mid eB 22 Tryz.underlying22 hs 21 K21 (by omega) (by omega)
          have hie : (b.take K21).drop 21 = innerB b := by unfold innerB; rw [List.drop_take, hK]; congr 1
          rw [hie] at hms
          have hmid2 : ∀ W, (Instr.slice 22 (.slice a0 b.length cap) (some (.int .i64 21)) (some (.int .i64 (K21 : Int))) none).run Tryz.prog W = .ok (.slice fa (K21 - 21) fc) W := hmid
          have hw : IntKind.i64.wrap ((b.length : Int) - 21) = (K21 : Int) := by rw [IntWalk.i64_in _ (by omega)]; omega
          have HCp := hid (fun W (h : Fr w W) => copies_any _ b W (hs.fr h) (by omega))
          have HEq := hid (fun W v1 v2 (h1 : See W eB v1 (b.take 21)) (h2 : See W eB v2 (b.drop (b.length - 21))) => BEqual_any v1 v2 _ _ W h1 h2)
          have HErr := hid (fun h => bodyR_read b h42 hh hX1 hop h)
          have HGood := hid (fun h => bodyR_ok b h42 hh hX1 hop h)
          have hkk : (21 : Int) ≤ K21 := by omega
          have hkl : (K21 : Int) ≤ b.length := by omega
          have HRbad := hid (readB_bad b)
          have HBl : Hid ((readB b).2.2.length ≤ 1500) := by
            show _ ≤ _
            have h1 := readS_bad (hD (headOf b)) (hQ (headOf b)) (hC (headOf b)) (hN (headOf b)) (innerB b)
            rw [innerB_len] at h1
            rw [HRB.out]; omega
          clear hs ht h42 hX1 hhl hh hop o1 o2 o3 o4 o5 o6 o7 o8 hq1 hq2 hN4 hmid hie hK
          generalize hSz (headOf b) = fS at *
          generalize hP (headOf b) = fP at *
          generalize hBu (headOf b) = fB at *
          generalize hD (headOf b) = fD at *
          generalize hQ (headOf b) = fQ at *
          generalize hC (headOf b) = fC at *
          generalize hN (headOf b) = fN at *
          go_enter Tryz.func12, Tryz.ntmps12
          go_wp2_with fail
          refine HC.out.mono ?_
          rintro e w1 ⟨u, rfl, hsee, _, hf1⟩
          have HR2 := hid (HRd.out w1 u (hsee HHh.out))
          clear hsee HC HRd
          go_wp2_with fail
          refine HR2.out.mono ?_
          rintro e w2 ⟨hf2, hor⟩
          obtain ⟨g, rfl, hgs, hG⟩ : ∃ g, e = .returned (.tuple #[.pointer (some ⟨g, 0, none⟩), .int .i64 (optE (optH (headOf b)))]) ∧ w1.heap.size ≤ g ∧ w2.heap[g]? = some (hdB fS fP fB fD fQ fC fN (.int .u8 (hX (headOf b) : Int))) := by
            rcases hor with h | h
            · exact absurd h.1 HX1.out
            · obtain ⟨_, g, h1, h2, h3⟩ := h
              exact ⟨g, h1, h2, h3⟩
          rw [HOE.out]
          clear hor HR2
          have hf02 := hf1.trans hf2
          have x3 : w2.cell? ⟨g, 3, none⟩ = some (N fD) := by rw [cell_of_heap hG]; rfl
          have x4 : w2.cell? ⟨g, 4, none⟩ = some (N fQ) := by rw [cell_of_heap hG]; rfl
          have x5 : w2.cell? ⟨g, 5, none⟩ = some (N fC) := by rw [cell_of_heap hG]; rfl
          have x6 : w2.cell? ⟨g, 6, none⟩ = some (N fN) := by rw [cell_of_heap hG]; rfl
          have HR3 := hid (HRe.out w2.drew _ (hms.fr (hf02.trans (Fr.refl w2).drew)) (hf02.trans (Fr.refl w2).drew))
          have hgw := hf1.size
          go_upto_region 7 with fail
          go_region_held3 (fun w' => w'.cell? ⟨g, 3, none⟩ = some (N fD) ∧ w'.cell? ⟨g, 4, none⟩ = some (N fQ) ∧ w'.cell? ⟨g, 5, none⟩ = some (N fC) ∧ w'.cell? ⟨g, 6, none⟩ = some (N fN))
            (first | go_keep)
            ((go_at_call 23; refine HR3.out.mono ?_; rintro e w3 ⟨u3, bv3, rfl, hO3, hB3, hf3⟩; have uu3 := hf3.cell x3; have uu4 := hf3.cell x4; have uu5 := hf3.cell x5; have uu6 := hf3.cell x6))
          have hf03 : Fr w w3 := hf02.trans ((Fr.refl w2).drew.trans hf3)
          have hG3 := hf3.heap hG
          clear uu3 uu4 uu5 uu6 x3 x4 x5 x6 HRe HR3 hms hG hf3
          by_cases herr : (readB b).1 = 0
          · have HG2 := hid (HGood.out herr)
            obtain ⟨ba, bc, hbv⟩ := hB3.shape'
            subst hbv
            have hO4 := hO3.rebase (b := w.heap.size) (show w.heap.size ≤ w2.drew.heap.size from hf02.size)
            have HC3 := hid (HCp.out w3 hf03)
            have hbl := HBl.out
            rw [herr]
            clear HErr HGood HRbad hO3 hB3 herr HCp
            generalize (readB b).2.2.length = bl at *
            generalize (readB b).2.1 = RB at *
            have hwn : IntKind.i64.wrap ((bl : Int) + 1) = (bl : Int) + 1 := IntWalk.i64_in _ (by omega)
            go_wp2_with fail
            refine HC3.out.mono ?_
            rintro e w4 ⟨v1, v2, rfl, hs1, hs2, hf4⟩
            have HE4 := hid (HEq.out w4 v1 v2 hs1 hs2)
            have hf04 := hf03.trans hf4
            have hG4 := hf4.heap hG3
            have hO5 := hO4.fr hf4
            clear hs1 hs2 HC3 HEq hG3 hO4 hf03 hf4
            go_wp2_with fail
            refine HE4.out.mono ?_
            rintro e w5 ⟨rfl, hf5⟩
            have hf05 := hf04.trans hf5
            have hG5 := hf5.heap hG4
            have hO6 := hO5.fr hf5
            have hgl : w.heap.size ≤ g := Nat.le_trans hgw hgs
            by_cases heq : b.take 21 = b.drop (b.length - 21)
            · have HG3 : Hid (bodyR b = (0, RB, bl)) := by show _ = _; rw [HG2.out, if_pos heq]; rfl
              rw [decide_eq_true heq]
              clear heq HG2
              go_wp2_with fail
              refine bodyPost_ret (v := .tuple #[.pointer (some ⟨g, 0, none⟩), u3, N bl, .int .i64 0]) (by simp [results, Tryz.results12, go_sem, *]) rfl ?_
              rw [HG3.out]
              exact ⟨_, _, rfl, hO6, hf05, fun _ => ⟨g, _, rfl, hgl, hG5⟩⟩
            · have HG3 : Hid (bodyR b = (0, RB, bl + 1)) := by show _ = _; rw [HG2.out, if_neg heq]
              rw [decide_eq_false heq]
              clear heq HG2
              go_wp2_with fail
              refine bodyPost_ret (v := .tuple #[.pointer (some ⟨g, 0, none⟩), u3, .int .i64 ((bl : Int) + 1), .int .i64 0]) (by simp [results, Tryz.results12, go_sem, *]) rfl ?_
              rw [HG3.out]
              exact ⟨_, _, rfl, hO6, hf05, fun _ => ⟨g, _, rfl, hgl, hG5⟩⟩
          · have HG2 := hid (HErr.out herr)
            have hxne : ¬ (((readB b).1 : Nat) : Int) = 0 := by omega
            have HRb := hid (HRbad.out herr)
            rw [HRb.out] at hO3
            clear HErr HGood HRbad hB3 herr HCp HEq hG3
            generalize (readB b).1 = x at *
            go_wp2_with fail
            refine bodyPost_ret (v := .tuple #[.pointer none, .slice none 0 0, .int .i64 0, .int .i64 (x : Int)]) (by simp [results, Tryz.results12, go_sem, *]) rfl ?_
            rw [HG2.out]
            exact ⟨_, _, rfl, Ow.nil, hf03, fun h => absurd h (by simpa using hxne)⟩
    · have hh2 : hasB b = false := by simpa using hh
      rw [if_neg hh] at HC
      have HR := hid (bodyR_sum b h42 hh2)
      have HH2 := hid hh2
      clear hs ht h42 hh hh2
      go_enter Tryz.func12, Tryz.ntmps12
      go_wp2_with fail
      refine HC.out.mono ?_
      rintro e w1 ⟨u, rfl, _, hnil, hf1⟩
      obtain rfl := hnil HH2.out
      clear hnil
      go_wp2_with fail
      refine bodyPost_ret (v := .tuple #[.pointer none, .slice none 0 0, .int .i64 0, .int .i64 5]) (by simp [results, Tryz.results12, go_sem, *]) rfl ?_
      rw [HR.out]
      exact ⟨_, _, rfl, Ow.nil, hf1, fun h => by cases h⟩
set_option maxRecDepth 512
end Go.Proofs.YtfhdgenlpmlajaaGreatDoor
