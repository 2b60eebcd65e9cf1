/- Walks of a log's weight, and of what two logs share. -/
import Derived.Test.YtgckkemmabaffaaDoorElt
set_option linter.unusedVariables false
namespace Go.Proofs.YtgckkemmabaffaaDoor
open Go.RowKit Go.Fk
/-- the weight of a log -/
def wtGo (sum : Int) : List Rec → Int
  | [] => sum
  | r :: l => if sum > 1099511627776 ∨ (r.source.length : Int) > 1099511627776 ∨ (r.text.length : Int) > 1099511627776 then 2199023255552 else wtGo (sum + 16 + r.source.length + r.text.length) l
theorem wtGo_le (l : List Rec) : ∀ sum n : Int, n < 2199023255552 → wtGo sum l ≤ n → sum ≤ n ∧ ∀ r ∈ l, (r.source.length : Int) + r.text.length + sum ≤ n := by
  induction l with
  | nil => intro sum n _ h; exact ⟨h, by simp⟩
  | cons r l ih =>
    intro sum n hn h
    rw [wtGo] at h
    split at h
    · omega
    · obtain ⟨h1, h2⟩ := ih _ _ hn h
      refine ⟨by omega, fun x hx => ?_⟩
      rcases List.mem_cons.1 hx with rfl | hx
      · omega
      · have := h2 x hx; omega
theorem recAt {w : World} {v : Value} {l : List Rec} (h : See w eR v l) (k : Nat) (hk : k < l.length) :
    ∃ b off cap, v = .slice (some ⟨b, off, none⟩) l.length cap ∧ w.cell? ⟨b, off + k * 4, none⟩ = some (.int .u64 l[k].time.toNat) ∧ w.cell? ⟨b, off + k * 4 + 1, none⟩ = some (u8 l[k].level) ∧ w.cell? ⟨b, off + k * 4 + 2, none⟩ = some (S l[k].source) ∧ w.cell? ⟨b, off + k * 4 + 3, none⟩ = some (S l[k].text) := by
  obtain ⟨b, off, cap, rfl, h1, h2, h3⟩ := h.cells (by intro e; simp [e] at hk)
  have e0 := h3 k hk 0 (by decide) _ rfl
  have e1 := h3 k hk 1 (by decide) _ rfl
  have e2 := h3 k hk 2 (by decide) _ rfl
  have e3 := h3 k hk 3 (by decide) _ rfl
  exact ⟨b, off, cap, rfl, e0, e1, e2, e3⟩
set_option maxRecDepth 100000 in
set_option maxHeartbeats 1000000 in
theorem Weight_any (v : Value) (l : List Rec) (w : World) (hs : See w eR v l) (hl : l.length ≤ 1000) :
    Calls Tryd.prog 26 #[v] w fun e w' => e = .returned (.int .i64 (wtGo 0 l)) ∧ Fr w w' := by
  obtain ⟨a, cap, hv, hcap1, hcap2, hnone⟩ := hs.shape
  subst hv
  go_enter Tryd.func26, Tryd.ntmps26
  go_wp2_with fail
  go_loopw [3, 4] (fun sv iv wr => ∃ (k : Nat) (sum : Nat), k ≤ l.length ∧ iv = N k ∧ sv = N (sum : Nat) ∧ sum ≤ k * 4398046511104 ∧ wtGo 0 l = wtGo (sum : Nat) (l.drop k) ∧ Fr w wr) (fun _ iv _ => l.length - (intOf iv).toNat)
  case atStart => exact ⟨0, 0, Nat.zero_le _, rfl, rfl, by omega, rfl, Fr.refl w⟩
  case round =>
    obtain ⟨k, sum, hk, rfl, rfl, hsum, heq, hf⟩ := hrel
    by_cases hlt : k < l.length
    · obtain ⟨b, off, cap', hv, c0, c1, c2, c3⟩ := recAt (hs.fr hf) k hlt
      rw [List.drop_eq_getElem_cons hlt, wtGo] at heq
      obtain ⟨r, hr⟩ : ∃ r, l[k] = r := ⟨_, rfl⟩
      rw [hr] at c0 c1 c2 c3 heq
      have HE := hid heq
      clear heq hr
      cases hv
      by_cases h1 : (1099511627776 : Int) < sum
      · have h1' : (sum : Int) > 1099511627776 := h1
        go_wp2_with fail
        go_ret
        exact ⟨congrArg (fun x => Ending.returned (Value.int .i64 x)) (HE.out.trans (if_pos (.inl h1))).symm, hf⟩
      · by_cases h2 : (1099511627776 : Int) < r.source.length
        · go_wp2_with fail
          go_ret
          exact ⟨congrArg (fun x => Ending.returned (Value.int .i64 x)) (HE.out.trans (if_pos (.inr (.inl h2)))).symm, hf⟩
        · by_cases h3 : (1099511627776 : Int) < r.text.length
          · go_wp2_with fail
            go_ret
            exact ⟨congrArg (fun x => Ending.returned (Value.int .i64 x)) (HE.out.trans (if_pos (.inr (.inr h3)))).symm, hf⟩
          · have hw1 : IntKind.i64.wrap ((sum : Int) + 16) = (sum : Int) + 16 := IntWalk.i64_in _ (by omega)
            have hw2 : IntKind.i64.wrap ((sum : Int) + 16 + r.source.length) = (sum : Int) + 16 + r.source.length := IntWalk.i64_in _ (by omega)
            have hw3 : IntKind.i64.wrap ((sum : Int) + 16 + r.source.length + r.text.length) = (sum : Int) + 16 + r.source.length + r.text.length := IntWalk.i64_in _ (by omega)
            go_upto_region 7 with fail

            go_quiet (fail)
            go_wp2_with fail
            go_roundw
            case rel =>
              refine ⟨k + 1, sum + 16 + r.source.length + r.text.length, by omega, by go_num, by simp [N], by omega, ?_, by first | exact hf.drewN _ | exact hf⟩
              rw [HE.out, if_neg (by omega)]; simp
            case measure => simp [intOf]; omega
    · obtain rfl : k = l.length := by omega
      rw [List.drop_length, wtGo] at heq
      have HE := hid heq
      clear heq
      go_wp2_with fail
      go_ret
      exact ⟨congrArg (fun x => Ending.returned (Value.int .i64 x)) HE.out.symm, hf⟩
theorem Great_any (v : Value) (l : List Rec) (w : World) (hs : See w eR v l) (a c : Nat) (ha : a ≤ 1000) :
    Calls Tryd.prog 10 #[v, N a, N c] w fun e w' => e = .returned (.bool (decide (a < l.length) || decide ((c : Int) < wtGo 0 l))) ∧ Fr w w' := by
  obtain ⟨p, cap, hv, hcap1, hcap2, hnone⟩ := hs.shape
  subst hv
  go_enter Tryd.func10, Tryd.ntmps10
  by_cases h : a < l.length
  · have h' : (a : Int) < l.length := by omega
    go_wp2_with fail
    go_ret
    exact ⟨by simp [h], Fr.refl w⟩
  · have h' : ¬ (a : Int) < l.length := by omega
    go_wp2_with fail
    refine (Weight_any _ l _ hs (by omega)).mono ?_
    rintro e w' ⟨rfl, hf⟩
    go_wp2_with fail
    go_ret
    exact ⟨by simp [h], hf⟩
theorem great_no {l : List Rec} {a c : Nat} (hc : c ≤ 1000000000) (h : (decide (a < l.length) || decide ((c : Int) < wtGo 0 l)) = false) : l.length ≤ a ∧ ∀ r ∈ l, r.source.length + r.text.length ≤ c := by
  simp only [Bool.or_eq_false_iff, decide_eq_false_iff_not] at h
  obtain ⟨_, h2⟩ := wtGo_le l 0 c (by omega) (by omega)
  exact ⟨by omega, fun r hr => by have := h2 r hr; omega⟩
end Go.Proofs.YtgckkemmabaffaaDoor
