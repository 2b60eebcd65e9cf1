/- Parts of the proof of ThreeMends: Md0 Md1. -/
import Derived.Test.YtfhdgenlpmlajaaGreatDoorM19
import Derived.Test.YtfhdgenlpmlajaaGreatDoorM07
import Derived.Test.YtfhdgenlpmlajaaGreatDoorM06
set_option linter.unusedVariables false
set_option linter.unusedSectionVars false
set_option linter.unusedSimpArgs false
set_option maxHeartbeats 8000000
namespace Go.Proofs.YtfhdgenlpmlajaaGreatDoor
open Go.RowKit Go.Fk
def nowL (k m c : Nat) (ats : List Nat) (l : List (List UInt8)) : List (List UInt8) := dataL k m c ats l ++ parL m (dataL k m c ats l) c
theorem nowL_len (k m c : Nat) (ats : List Nat) (l : List (List UInt8)) : (nowL k m c ats l).length = k + m := by
 unfold nowL; rw [List.length_append, data_len, parL_len]
theorem nowL_all (k m c : Nat) (ats : List Nat) (l : List (List UInt8)) (hk : l.length = k) (hc : ∀ p ∈ l, p.length = c) : ∀ p ∈ nowL k m c ats l, p.length = c := by
 intro p hp
 rcases List.mem_append.1 hp with h | h
 · exact data_all k m c ats l hk hc p h
 · exact parL_all m _ c (data_all k m c ats l hk hc) p h
def goodsL (good : List Bool) : List Nat := (List.range good.length).filter fun i => good.getD i false
def atL (ats : List Nat) (ps : List (List UInt8)) : List (List UInt8) := ats.map fun i => ps.getD i []
def chunkS (l : List UInt8) (c a i : Nat) : List UInt8 := (l.drop (a + i * (c + 4))).take (c + 4)
def goodS (l : List UInt8) (c a n : Nat) : List Bool := (List.range n).map fun i => okCut (chunkS l c a i)
def partS (l : List UInt8) (c a n : Nat) : List (List UInt8) := (List.range n).map fun i => cutB (chunkS l c a i)
def badS (l : List UInt8) (c a n b : Nat) : List Nat := ((List.range n).filter fun i => !okCut (chunkS l c a i)).map fun i => b + i
def sameS (now ps : List (List UInt8)) (good : List Bool) : Bool := (List.range good.length).all fun i => !good.getD i false || decide (now.getD i [] = ps.getD i [])
def stripeR (k m c : Nat) (l : List UInt8) (a : Nat) : Nat × List (List UInt8) :=
 let good := goodS l c a (k + m)
 let ps := partS l c a (k + m)
 if (goodsL good).length < k then (12, []) else
  let ats := (goodsL good).take k
  let now := nowL k m c ats (atL ats ps)
  if sameS now ps good then (0, now.take k) else (2, [])
def readGo (k m c : Nat) (l : List UInt8) : Nat → Nat → List UInt8 → List Nat → Nat × List UInt8 × List Nat
 | 0, _, out, bad => (0, out, bad)
 | f + 1, s, out, bad =>
  let r := stripeR k m c l (s * ((k + m) * (c + 4)))
  if r.1 = 0 then readGo k m c l f (s + 1) (out ++ r.2.flatten) (bad ++ badS l c (s * ((k + m) * (c + 4))) (k + m) (s * (k + m))) else (r.1, [], [])
def readS (k m c n : Nat) (l : List UInt8) : Nat × List UInt8 × List Nat :=
 if 8388608 < n then (13, [], []) else if 16777216 < strN k c n * ((k + m) * (c + 4)) then (6, [], [])
 else if l.length < strN k c n * ((k + m) * (c + 4)) then (1, [], []) else if strN k c n * ((k + m) * (c + 4)) < l.length then (2, [], [])
 else
  let r := readGo k m c l (strN k c n) 0 [] []
  if r.1 = 0 then (if (r.2.1.drop n).all (· == 0) then (0, r.2.1.take n, r.2.2) else (2, [], [])) else (r.1, [], [])
def badG (ok : List Bool) (n : Nat) : List Nat := ((List.range ok.length).filter fun i => !ok.getD i false).map fun i => n + i
theorem badG_snoc (ok : List Bool) (b : Bool) (n : Nat) : badG (ok ++ [b]) n = if b then badG ok n else badG ok n ++ [n + ok.length] := by
 unfold badG
 rw [List.length_append, List.length_singleton, List.range_succ, List.filter_append, List.map_append]
 have h1 : (List.range ok.length).filter (fun i => !(ok ++ [b]).getD i false) = (List.range ok.length).filter (fun i => !ok.getD i false) := by
  refine List.filter_congr fun i hi => ?_
  have := List.mem_range.1 hi
  rw [List.getD_eq_getElem?_getD, List.getD_eq_getElem?_getD, List.getElem?_append_left this]
 have h2 : (ok ++ [b]).getD ok.length false = b := by
  rw [List.getD_eq_getElem?_getD, List.getElem?_append_right (Nat.le_refl _)]; simp
 have h3 : (List.filter (fun i => !(ok ++ [b]).getD i false) [ok.length]) = if b then [] else [ok.length] := by
  rw [List.filter_cons, h2]
  cases b <;> rfl
 rw [h1, h3]
 cases b
 · rfl
 · simp
theorem badG_len (ok : List Bool) (n : Nat) : (badG ok n).length ≤ ok.length := by
 unfold badG
 rw [List.length_map]
 have := List.length_filter_le (fun i => !ok.getD i false) (List.range ok.length)
 rw [List.length_range] at this
 exact this
theorem goodS_len (l : List UInt8) (c a n : Nat) : (goodS l c a n).length = n := by simp [goodS]
theorem partS_len (l : List UInt8) (c a n : Nat) : (partS l c a n).length = n := by simp [partS]
theorem goodS_at (l : List UInt8) (c a n i : Nat) (h : i < n) : (goodS l c a n).getD i false = okCut (chunkS l c a i) := by
 rw [List.getD_eq_getElem?_getD]
 unfold goodS
 rw [List.getElem?_map, List.getElem?_range h]
 rfl
theorem badS_eq (l : List UInt8) (c a n b : Nat) : badS l c a n b = badG (goodS l c a n) b := by
 unfold badS badG
 rw [goodS_len]
 congr 1
 refine List.filter_congr fun i hi => ?_
 rw [goodS_at l c a n i (List.mem_range.1 hi)]
theorem goods_bads (ok : List Bool) (n : Nat) : (goodsL ok).length + (badG ok n).length = ok.length := by
 unfold goodsL badG
 rw [List.length_map]
 have h : ∀ (f : Nat → Bool) (l : List Nat), (l.filter f).length + (l.filter fun i => !f i).length = l.length := by
  intro f l
  induction l with
  | nil => rfl
  | cons x l ih =>
   rw [List.filter_cons, List.filter_cons]
   cases hf : f x
   · rw [if_neg (by simp), if_pos (by simp), List.length_cons, List.length_cons]; omega
   · rw [if_pos rfl, if_neg (by simp), List.length_cons, List.length_cons]; omega
 have := h (fun i => ok.getD i false) (List.range ok.length)
 rw [List.length_range] at this
 exact this
theorem chunkS_cut (l : List UInt8) (c a i L : Nat) (h : i * (c + 4) + (c + 4) ≤ L) : chunkS ((l.drop a).take L) c 0 i = chunkS l c a i := by
 unfold chunkS
 rw [List.drop_take, List.take_take, Nat.zero_add, List.drop_drop, Nat.min_eq_left (by omega)]
theorem row_le (i n c : Nat) (h : i < n) : i * (c + 4) + (c + 4) ≤ n * (c + 4) := by
 have := Nat.mul_le_mul_right (c + 4) (show i + 1 ≤ n from h)
 rw [Nat.add_mul, Nat.one_mul] at this
 exact this
theorem goodS_cut (l : List UInt8) (c a n : Nat) : goodS ((l.drop a).take (n * (c + 4))) c 0 n = goodS l c a n := by
 unfold goodS
 exact List.map_congr_left fun i hi => by rw [chunkS_cut l c a i _ (row_le i n c (List.mem_range.1 hi))]
theorem partS_cut (l : List UInt8) (c a n : Nat) : partS ((l.drop a).take (n * (c + 4))) c 0 n = partS l c a n := by
 unfold partS
 exact List.map_congr_left fun i hi => by rw [chunkS_cut l c a i _ (row_le i n c (List.mem_range.1 hi))]
theorem stripeR_cut (k m c : Nat) (l : List UInt8) (a : Nat) : stripeR k m c ((l.drop a).take ((k + m) * (c + 4))) 0 = stripeR k m c l a := by
 unfold stripeR
 rw [goodS_cut, partS_cut]
theorem badS_cut (l : List UInt8) (c a n b : Nat) : badS ((l.drop a).take (n * (c + 4))) c 0 n b = badS l c a n b := by
 rw [badS_eq, badS_eq, goodS_cut]
theorem chunk_len (l : List UInt8) (c a i : Nat) (h : a + i * (c + 4) + (c + 4) ≤ l.length) : (chunkS l c a i).length = c + 4 := by
 unfold chunkS
 rw [List.length_take, List.length_drop]
 omega
theorem part_len (l : List UInt8) (c a n : Nat) (h : a + n * (c + 4) ≤ l.length) : ∀ r (hr : r < (partS l c a n).length), (goodS l c a n).getD r false = true → (partS l c a n)[r].length = c := by
 intro r hr hg
 rw [partS_len] at hr
 rw [goodS_at l c a n r hr] at hg
 have := row_le r n c hr
 simp only [partS, List.getElem_map, List.getElem_range]
 rw [cut_len' _ hg, chunk_len l c a r (by omega)]
 omega
theorem stripeR_dam (k m c : Nat) (l : List UInt8) (a : Nat) (h : (goodsL (goodS l c a (k + m))).length < k) : stripeR k m c l a = (12, []) := by unfold stripeR; simp only [h, if_true]
theorem stripeR_ok (k m c : Nat) (l : List UInt8) (a : Nat) (h : ¬ (goodsL (goodS l c a (k + m))).length < k) (hs : sameS (nowL k m c ((goodsL (goodS l c a (k + m))).take k) (atL ((goodsL (goodS l c a (k + m))).take k) (partS l c a (k + m)))) (partS l c a (k + m)) (goodS l c a (k + m)) = true) :
  stripeR k m c l a = (0, (nowL k m c ((goodsL (goodS l c a (k + m))).take k) (atL ((goodsL (goodS l c a (k + m))).take k) (partS l c a (k + m)))).take k) := by unfold stripeR; simp only [h, if_false, hs, if_true]
theorem stripeR_bad (k m c : Nat) (l : List UInt8) (a : Nat) (h : ¬ (goodsL (goodS l c a (k + m))).length < k) (hs : sameS (nowL k m c ((goodsL (goodS l c a (k + m))).take k) (atL ((goodsL (goodS l c a (k + m))).take k) (partS l c a (k + m)))) (partS l c a (k + m)) (goodS l c a (k + m)) = false) :
  stripeR k m c l a = (2, []) := by
 unfold stripeR; simp only [h, if_false, hs]; rfl
theorem sameS_yes (now ps : List (List UInt8)) (good : List Bool) (h : ∀ i, i < good.length → good.getD i false = true → now.getD i [] = ps.getD i []) : sameS now ps good = true := by
 unfold sameS
 rw [List.all_eq_true]
 intro i hi
 have := h i (List.mem_range.1 hi)
 cases hg : good.getD i false
 · rfl
 · rw [this hg]; simp
theorem sameS_no (now ps : List (List UInt8)) (good : List Bool) (i : Nat) (hi : i < good.length) (hg : good.getD i false = true) (hne : now.getD i [] ≠ ps.getD i []) : sameS now ps good = false := by
 unfold sameS
 rw [List.all_eq_false]
 exact ⟨i, List.mem_range.2 hi, by rw [hg]; simpa using hne⟩
theorem flat_all (c : Nat) : ∀ (ls : List (List UInt8)), (∀ p ∈ ls, p.length = c) → ls.flatten.length = ls.length * c
 | [], _ => by simp
 | p :: ls, h => by
  rw [List.flatten_cons, List.length_append, flat_all c ls (fun q hq => h q (List.mem_cons_of_mem _ hq)), h p (List.mem_cons_self ..), List.length_cons, Nat.add_mul]
  omega
end Go.Proofs.YtfhdgenlpmlajaaGreatDoor
