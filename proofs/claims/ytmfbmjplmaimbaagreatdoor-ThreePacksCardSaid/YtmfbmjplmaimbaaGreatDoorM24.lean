/- Parts of the proof of ThreePacks: P4. -/
import Derived.Test.YtmfbmjplmaimbaaGreatDoorM23
import Derived.Maps.GroupsBeside
import Derived.Sort.KeysCollected
import Derived.StringKeys
set_option linter.unusedVariables false
set_option linter.unusedSectionVars false
set_option linter.unusedSimpArgs false
set_option maxHeartbeats 8000000
namespace Go.Proofs.YtmfbmjplmaimbaaGreatDoor
open Go.RowKit Go.Fk Go.ChangeShapes
def rowD (zs : List Nat) : DataW Unit := if zs = [] then .nil else .slice (lits .i64 (zs.map Int.ofNat)) []
structure DI (D : DataW Unit) (f : List UInt8 → List Nat) : Prop where
 map : Maps.IsMap D
 row : ∀ s, D.atKey (.string s) .nil = rowD (f s)
 has : ∀ s, Maps.has D (.string s) = true ↔ f s ≠ []
theorem DI.empty : DI (.map []) (fun _ => []) := ⟨Maps.isMap_empty, fun _ => rfl, fun _ => by simp [Maps.has]⟩
theorem DI.put {D : DataW Unit} {f : List UInt8 → List Nat} (h : DI D f) (t : List UInt8) (zs : List Nat) (hne : zs ≠ []) : DI (D.put (.string t) (rowD zs)) (fun s => if s = t then zs else f s) := by
 have hk : WideAt.IsKeyLit (.string t) := trivial
 refine ⟨h.map.put _ _, fun s => ?_, fun s => ?_⟩
 · by_cases e : s = t
   · subst e
     rw [Maps.atKey_put_same h.map hk, if_pos rfl]
   · rw [Maps.atKey_put_other (by simpa using e), if_neg e]
     exact h.row s
 · by_cases e : s = t
   · subst e
     rw [Maps.has_put_same h.map hk, if_pos rfl]
     simp [hne]
   · rw [Maps.has_put_other (by simpa using e), if_neg e]
     exact h.has s
theorem lits_inj {a b : List Int} (h : (lits .i64 a : List (DataW Unit)) = lits .i64 b) : a = b := by
 refine (List.map_inj_right (fun x y hxy => ?_)).1 h
 simpa using hxy
theorem DI.look {D : DataW Unit} {f : List UInt8 → List Nat} (h : DI D f) {t : List UInt8} {w : World} {base : Nat} {e : TypeId} {v : Value} {zs : List Int} (hat : D.atKey (.string t) .nil = rowDatum .i64 v zs) (ho : w.ownsInts base e .i64 v zs) : zs = (f t).map Int.ofNat := by
 rw [h.row t] at hat
 unfold rowD at hat
 rcases ho.datum (H := Unit) with ⟨h1, h2⟩ | h1
 · rw [h1] at hat
   split at hat
   · rename_i h3; rw [h3, h2]; rfl
   · cases hat
 · rw [h1] at hat
   split at hat
   · cases hat
   · simp only [DataW.slice.injEq, and_true] at hat
     exact (lits_inj hat).symm
theorem cells_J (l : List Nat) : eJ.cells l = l.map N := by
 induction l with
 | nil => rfl
 | cons x l ih =>
  show [N x] ++ eJ.cells l = _
  rw [ih]; rfl
theorem map_N (l : List Nat) : (l.map Int.ofNat).map (Value.int .i64) = l.map N := by rw [List.map_map]; rfl
theorem ints_ow {w : World} {base : Nat} {v : Value} {l : List Nat} (h : w.ownsInts base 3 .i64 v (l.map Int.ofNat)) : Ow w base eJ v l := by
 have := h.1
 rw [List.length_map, map_N] at this
 unfold Ow
 rw [cells_J]
 exact this
theorem ow_ints {w : World} {base : Nat} {v : Value} {l : List Nat} (h : Ow w base eJ v l) (hb : ∀ x ∈ l, x < 1000000000) : w.ownsInts base 3 .i64 v (l.map Int.ofNat) := by
 refine ⟨?_, fun z hz => ?_⟩
 · unfold Ow at h
   rw [cells_J] at h
   rw [List.length_map, map_N]
   exact h
 · obtain ⟨x, hx, rfl⟩ := List.mem_map.1 hz
   have := hb x hx
   show (decide (IntKind.i64.min ≤ Int.ofNat x) && decide (Int.ofNat x ≤ IntKind.i64.max)) = true
   have e1 : IntKind.i64.min = -9223372036854775808 := rfl
   have e2 : IntKind.i64.max = 9223372036854775807 := rfl
   rw [e1, e2, decide_eq_true (by simp only [Int.ofNat_eq_natCast]; omega), decide_eq_true (by simp only [Int.ofNat_eq_natCast]; omega)]
   rfl
theorem rowD_of {w : World} {base : Nat} {v : Value} {l : List Nat} (h : w.ownsInts base 3 .i64 v (l.map Int.ofNat)) (hne : l ≠ []) : rowDatum (H := Unit) .i64 v (l.map Int.ofNat) = rowD l := by
 rw [h.datum_pos (by simpa using hne)]
 unfold rowD
 rw [if_neg hne]
theorem fr_grown {w w' : World} (h : Fr w w') (row : Option Nat) : w.grownBy w' row := ⟨Below.os h, Below.tape h, Below.output h, Below.size h, fun k hk _ => Below.block h k hk⟩
theorem groups_fr {w w' : World} {k : TypeId} {base b n : Nat} {D : DataW Unit} (h : w.ownsGroups Tryz.prog k base 3 .i64 b n D) (hf : Fr w w') : w'.ownsGroups Tryz.prog k base 3 .i64 b n D :=
 h.kept (fr_grown hf none) (by simp) (fun _ _ _ x _ => by cases x.val.ownBlock <;> simp)
theorem str_law : Maps.Keyed Tryz.prog 9 := Maps.string_keyed Tryz.underlying9
theorem zeroRow (w : World) : (zeroValue 54).run Tryz.prog w = .ok (.slice none 0 0) w := by kernel_rfl
theorem keyS (s : List UInt8) (h : s.length ≤ maxLen) : keyOf Tryz.prog 9 (S s) = some (.string s) := Go.WideMaps.keyOf_string_mk Tryz.underlying9 (by simpa [ByteArray.size] using h)
theorem keys_sorted {w : World} {R : Value → Option (DataW Unit × List MemPlace)} {b n : Nat} {D : DataW Unit} {f : List UInt8 → List Nat} (hD : DI D f) (ho : w.ownsMap Tryz.prog 9 R b n D) {T : List (List UInt8)} (hT : RisS T) (hm : ∀ s, s ∈ T ↔ f s ≠ []) {ss : List (List UInt8)} (hp : ss.Perm (strKeys D)) :
  ss.mergeSort (fun x y => decide (x ≤ y)) = T := by
 have hnd : T.Nodup := hT.imp fun {a b} hab e => by subst e; exact List.lt_irrefl _ hab
 have hc : Collected D (fun _ => false) T := ⟨hnd, fun x => by rw [hm x, hD.has x]; simp⟩
 have hp2 := hp.trans (hc.perm ho str_law Tryz.underlying9 (fun _ => rfl)).symm
 have h1 := mergeSort_of_perm hp2
 have h2 : T.mergeSort leB = T := by
  refine List.mergeSort_of_pairwise (hT.imp fun {a b} hab => ?_)
  simp only [leB, decide_eq_true_eq]
  exact List.le_of_lt hab
 rw [h2] at h1
 exact h1
end Go.Proofs.YtmfbmjplmaimbaaGreatDoor
