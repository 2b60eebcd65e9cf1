/- Plain words of layer 33: the reference's way to unquote. No program. -/
import Derived.Test.YtjepodlalcnecaaDoorSpec33b
set_option linter.unusedVariables false
namespace Go.Fk
/-- the reference's reading of what stands between the quotes -/
def raw : List UInt8 → List UInt8
  | [] => []
  | c :: rest =>
    match rest with
    | a :: b :: rest' => if c = 92 ∧ hexV a < 16 ∧ hexV b < 16 then byte2 a b :: raw rest' else c :: raw (a :: b :: rest')
    | rest => c :: raw rest
theorem raw_esc (a b : UInt8) (rest : List UInt8) (ha : hexV a < 16) (hb : hexV b < 16) : raw (92 :: a :: b :: rest) = byte2 a b :: raw rest := by
  rw [raw, if_pos ⟨rfl, ha, hb⟩]
theorem raw_plain (c : UInt8) (rest : List UInt8) (h : ¬ (c = 92 ∧ ∃ a b r, rest = a :: b :: r ∧ hexV a < 16 ∧ hexV b < 16)) : raw (c :: rest) = c :: raw rest := by
  match rest with
  | [] => rw [raw.eq_def]
  | [a] => rw [raw.eq_def]
  | a :: b :: r =>
    rw [raw, if_neg (fun hh => h ⟨hh.1, a, b, r, rfl, hh.2.1, hh.2.2⟩)]
theorem raw_quote (s : List UInt8) : raw (quoteL s) = s := by
  induction s with
  | nil => rw [quoteL]; rfl
  | cons c s ih =>
    rw [quoteL_cons]
    have hc := c.toNat_lt
    cases hp : plainB c with
    | true =>
      have e : quoteC c = [c] := by unfold quoteC; rw [if_pos hp]
      rw [e]
      show raw (c :: quoteL s) = _
      rw [raw_plain c _ (fun h => (plain_ne c hp).2 h.1), ih]
    | false =>
      have e : quoteC c = [92, hexd (c.toNat / 16), hexd (c.toNat % 16)] := by unfold quoteC; rw [if_neg (by rw [hp]; simp)]
      have a1 : hexV (hexd (c.toNat / 16)) < 16 := by rw [hexV_hexd _ (by omega)]; omega
      have a2 : hexV (hexd (c.toNat % 16)) < 16 := by rw [hexV_hexd _ (by omega)]; omega
      have e2 : byte2 (hexd (c.toNat / 16)) (hexd (c.toNat % 16)) = c := by
        apply UInt8.toNat_inj.1
        rw [byte2_toNat _ _ a1 a2, hexV_hexd _ (by omega), hexV_hexd _ (by omega)]
        omega
      rw [e]
      show raw (92 :: hexd (c.toNat / 16) :: hexd (c.toNat % 16) :: quoteL s) = _
      rw [raw_esc _ _ _ a1 a2, ih, e2]
/-- what stands between the first byte and the last -/
def inner (s : List UInt8) : List UInt8 := (s.drop 1).take (s.length - 2)
theorem inner_quote (t : List UInt8) : inner (quote t) = quoteL t := by
  simp [inner, quote]
/-- the reading from a place on -/
def rawFrom (s : List UInt8) (i : Nat) : List UInt8 := raw ((s.take (s.length - 1)).drop i)
theorem rawFrom_one (s : List UInt8) : rawFrom s 1 = raw (inner s) := by
  unfold rawFrom inner; rw [List.drop_take]; rfl
theorem rawFrom_end (s : List UInt8) (i : Nat) (h : s.length - 1 ≤ i) : rawFrom s i = [] := by
  unfold rawFrom; rw [List.drop_eq_nil_of_le (by simp; omega)]; rw [raw]
theorem rawFrom_esc (s : List UInt8) (i : Nat) (h : i + 2 < s.length - 1) (hc : s[i] = 92) (ha : hexV s[i + 1] < 16) (hb : hexV s[i + 2] < 16) : rawFrom s i = byte2 s[i + 1] s[i + 2] :: rawFrom s (i + 3) := by
  unfold rawFrom
  rw [List.drop_eq_getElem_cons (by simp; omega : i < (s.take (s.length - 1)).length), List.drop_eq_getElem_cons (by simp; omega : i + 1 < (s.take (s.length - 1)).length), List.drop_eq_getElem_cons (by simp; omega : i + 1 + 1 < (s.take (s.length - 1)).length)]
  simp only [List.getElem_take]
  rw [hc, raw_esc _ _ _ ha hb]
theorem rawFrom_plain (s : List UInt8) (i : Nat) (h : i < s.length - 1) (hn : ¬ (s[i] = 92 ∧ ∃ h2 : i + 2 < s.length - 1, hexV s[i + 1] < 16 ∧ hexV s[i + 2] < 16)) : rawFrom s i = s[i] :: rawFrom s (i + 1) := by
  unfold rawFrom
  rw [List.drop_eq_getElem_cons (by simp; omega : i < (s.take (s.length - 1)).length)]
  simp only [List.getElem_take]
  rw [raw_plain]
  rintro ⟨h1, a, b, r, he, ha, hb⟩
  have hl := congrArg List.length he
  simp at hl
  have h2 : i + 2 < s.length - 1 := by omega
  have e1 := congrArg (·[0]?) he
  have e2 := congrArg (·[1]?) he
  simp [List.getElem?_take] at e1 e2
  refine hn ⟨h1, h2, ?_, ?_⟩
  · have := e1.2; rw [List.getElem?_eq_getElem (by omega)] at this; rw [Option.some.inj this]; exact ha
  · have := e2.2; rw [List.getElem?_eq_getElem (by omega)] at this; rw [Option.some.inj this]; exact hb
/-- the reference's answer is the program's -/
theorem unq_ref (s : List UInt8) : unq s = if 2 ≤ s.length ∧ quote (raw (inner s)) = s then some (raw (inner s)) else none := by
  cases hu : unq s with
  | some t =>
    have h := unq_some s t hu
    subst h
    rw [inner_quote, raw_quote, if_pos ⟨by simp [quote], rfl⟩]
  | none =>
    rw [if_neg]
    rintro ⟨_, h⟩
    have := unq_quote (raw (inner s))
    rw [h, hu] at this
    cases this
end Go.Fk
