/- Parts of the proof of ThreeMends: I3 I4. -/
import Derived.Test.YtfhdgenlpmlajaaGreatDoorM24
set_option linter.unusedVariables false
set_option linter.unusedSectionVars false
set_option linter.unusedSimpArgs false
set_option maxHeartbeats 8000000
namespace Go.Proofs.YtfhdgenlpmlajaaGreatDoor
open Go.RowKit Go.Fk
theorem fin_take (N k : Nat) (h : k < N) : (List.finRange N).take (k + 1) = (List.finRange N).take k ++ [⟨k, h⟩] := by
 rw [List.take_succ_eq_append_getElem (by simpa using h)]
 congr 2
 simp
theorem keeps_chg {G : Nat → Prop} {W W' : World} (h : Chg G W W') (hG : ∀ k o, W.heap[k]? = some o → G k → o.isCells = true) : KeepsOthers W W' :=
 ⟨h.size, fun k o ho hc => h.heap ho fun g => by rw [hG k o ho g] at hc; cases hc⟩
theorem chunkB_fin (Bs Bn : Nat) (v : Value) (ls : List UInt8) (c : Nat) (hc : 1 ≤ c) (hcm : c ≤ 1000000) (hlen : ls.length ≤ 1000000000) (w : World) (hBs : w.heap[Bs]? = some (.cells #[v] 22 (0, 0))) (hBn : w.heap[Bn]? = some (.cells #[N c] 3 (0, 0))) (hv : See w eB v ls) :
  ∃ b off, (ls = [] ∨ ∃ cap, v = .slice (some ⟨b, off, none⟩) ls.length cap) ∧ ∀ n, 1 ≤ n → SeqStopsK Fence.wide n Tryz.prog 64 #[.pointer (some ⟨Bs, 0, none⟩), .pointer (some ⟨Bn, 0, none⟩)] (fun j : Fin (ckN ls.length c) => #[(ckHd b off ls.length c j.val).v]) (KeepB Bs Bn) (fun ys => ys = List.finRange (ckN ls.length c)) (fun _ => True) (ckN ls.length c) w := by
 obtain ⟨a, cap, rfl, h1, h2, h3⟩ := hv.shape
 by_cases hl : ls = []
 · subst hl
   have e0 : ckN ([] : List UInt8).length c = 0 := by unfold ckN; exact Nat.div_eq_of_lt (by simp; omega)
   refine ⟨0, 0, .inl rfl, fun n hn l J Jx W hW _ _ hY h0 => ?_⟩
   have hJ := chunkB1_nil_in n l Bs Bn (fun (_ : List Hd) W => J [] W) a cap W ?_ h0
   · refine hJ.mono fun e W' ⟨he, hj⟩ => ⟨he, .inl ⟨[], ?_, hj⟩⟩
     have : ∀ (M : Nat), M = 0 → ([] : List (Fin M)) = List.finRange M := fun M hM => by subst hM; rfl
     exact this _ e0
   · rw [cell_of_heap (Fr.heap hW hBs)]; rfl
 · obtain ⟨b, off, cap', he, _⟩ := hv.cells hl
   cases he
   refine ⟨b, off, .inr ⟨cap, rfl⟩, fun n hn l J Jx W hW hJ _ hY h0 => ?_⟩
   generalize hN : ckN ls.length c = M at *
   have h := chunkB1_in n hn l Bs Bn b off ls.length cap c hc hcm h1 hlen (fun pre W => pre.length ≤ M ∧ J ((List.finRange M).take pre.length) W) (fun pre W => Jx ((List.finRange M).take pre.length) W)
    (fun s W W' hs hg => ⟨hs.1, hJ _ W W' none hs.2 hg (fun r e => by cases e)⟩) (fun pre x W hj hlt hx => by
     rw [hN] at hlt
     subst hx
     have hlen : ((List.finRange M).take pre.length).length < M := by rw [List.length_take]; simp; omega
     refine (hY _ ⟨pre.length, hlt⟩ W hj.2 hlen).mono fun e W' h => ?_
     rw [List.length_append, List.length_singleton, fin_take M _ hlt]
     rcases h with ⟨he, hj', hk⟩ | ⟨he, hj'⟩
     · exact .inl ⟨he, ⟨by omega, hj'⟩, hk⟩
     · exact .inr ⟨he, hj'⟩) W (Fr.heap hW hBs) (Fr.heap hW hBn) ⟨Nat.zero_le _, by simpa using h0⟩
   refine h.mono fun e W' ⟨he, hh⟩ => ⟨he, ?_⟩
   rcases hh with ⟨ys, rfl, _, hj⟩ | ⟨pre, _, hj⟩
   · refine .inl ⟨_, rfl, ?_⟩
     rw [ckUp_len, hN, List.take_of_length_le (by simp)] at hj
     exact hj
   · exact .inr ⟨_, trivial, hj⟩
theorem chunkB_see1 {w : World} {v : Value} {l : List UInt8} {b off n : Nat} (hn : 1 ≤ n) (h : See w eB v l) (hv : l = [] ∨ ∃ cap, v = .slice (some ⟨b, off, none⟩) l.length cap) (j : Nat) (hj : j < ckN l.length n) :
  See w eB (ckHd b off l.length n j).v ((l.drop (j * n)).take n) := by
 have hlt := (ckN_lt l.length n hn j).1 hj
 rcases hv with rfl | ⟨cap, rfl⟩
 · simp at hlt
 · obtain ⟨_, _, hsv, hc1, hc2, _⟩ := h.shape
   cases hsv
   have hp := see_part h (j * n) (min n (l.length - j * n)) (min n (l.length - j * n)) (by omega) (Nat.le_refl _) (by omega)
   rw [show (eB : Elt Tryz.prog UInt8).k = 1 from rfl, Nat.mul_one] at hp
   have e2 : (l.drop (j * n)).take (min n (l.length - j * n)) = (l.drop (j * n)).take n := by
    rcases Nat.le_total n (l.length - j * n) with hh | hh
    · rw [Nat.min_eq_left hh]
    · rw [Nat.min_eq_right hh, List.take_of_length_le (by simp), List.take_of_length_le (by simp; omega)]
   rw [e2] at hp
   exact hp
theorem fin_map {β : Type} (M n : Nat) (h : M = n) (f : Nat → β) : (List.finRange M).map (fun j : Fin M => f j.val) = (List.range n).map f := by
 subst h
 apply List.ext_getElem
 · simp
 · intro i h1 h2
   simp
theorem ckN_all (n c : Nat) (hc : 1 ≤ c) : ckN (n * c) c = n := by
 unfold ckN
 rw [show n * c + c - 1 = c * n + (c - 1) by rw [Nat.mul_comm]; omega, Nat.mul_add_div hc, Nat.div_eq_of_lt (by omega), Nat.add_zero]
end Go.Proofs.YtfhdgenlpmlajaaGreatDoor
