import Derived.Test.YtapccgkkcgggiaaDoorTextLibB3
import Derived.Test.YtapccgkkcgggiaaDoorGB4
import Derived.Test.YtapccgkkcgggiaaDoorGB8
namespace Go.Proofs.YtapccgkkcgggiaaDoor.Pure
open Go.RowKit Go.Proofs.YtapccgkkcgggiaaDoor.GB Go.Proofs.YtapccgkkcgggiaaDoor.HandB Go.Proofs.YtapccgkkcgggiaaDoorW.PrintWords Go.Proofs.YtapccgkkcgggiaaDoorW.PrintLast
/-! ### a quoted text, read -/
theorem ext_data (s : ByteArray) (i : Nat) : (s.extract i s.size).data.toList = s.data.toList.drop i := by
  rw [Lib.extract_data, List.take_of_length_le (by rw [List.length_drop, Array.length_toList]; exact Nat.le_refl _)]
theorem ext_size (s : ByteArray) (i : Nat) : (s.extract i s.size).size = s.size - i := by
  rw [show (s.extract i s.size).size = (s.extract i s.size).data.toList.length from rfl, ext_data, List.length_drop, Array.length_toList]
  rfl
theorem bt_at_ (s : ByteArray) (i : Nat) (h : i < s.size) : bt s (i : Int) = ((at_ s.data.toList i : Nat) : Int) := by
  have := bt_drop s 0 i (by omega)
  rw [List.drop_zero, Nat.zero_add] at this
  exact this
theorem at_drop (l : List UInt8) (i j : Nat) : at_ (l.drop i) j = at_ l (i + j) := by
  unfold at_
  rw [List.getD_eq_getElem?_getD, List.getD_eq_getElem?_getD, List.getElem?_drop]
/-- A digit of a hexadecimal number. -/
def hexD (c : Nat) : Option Nat := if 48 ≤ c ∧ c ≤ 57 then some (c - 48) else if 97 ≤ c ∧ c ≤ 102 then some (c - 87) else if 65 ≤ c ∧ c ≤ 70 then some (c - 55) else none
def hexI (c : Nat) : Int := match hexD c with
  | some d => (d : Int)
  | none => -1
theorem hexD_lt {c d : Nat} (h : hexD c = some d) : d < 16 := by
  unfold hexD at h
  split at h
  · injection h; omega
  split at h
  · injection h; omega
  split at h
  · injection h; omega
  · cases h
theorem hexI_of (c : Nat) : hexI c = if 48 ≤ c ∧ c ≤ 57 then ((c - 48 : Nat) : Int) else if 97 ≤ c ∧ c ≤ 102 then ((c - 87 : Nat) : Int) else if 65 ≤ c ∧ c ≤ 70 then ((c - 55 : Nat) : Int) else -1 := by
  unfold hexI hexD
  by_cases a : 48 ≤ c ∧ c ≤ 57
  · rw [if_pos a, if_pos a]
  rw [if_neg a, if_neg a]
  by_cases b : 97 ≤ c ∧ c ≤ 102
  · rw [if_pos b, if_pos b]
  rw [if_neg b, if_neg b]
  by_cases g : 65 ≤ c ∧ c ≤ 70
  · rw [if_pos g, if_pos g]
  rw [if_neg g, if_neg g]
theorem text_hex_eq (c : Nat) (h : c < 256) (k : Nat) : text_hex.f (k + 2) (c : Int) = some (hexI c) := by
  rw [hexI_of]
  unfold text_hex.f
  by_cases a : 48 ≤ c ∧ c ≤ 57
  · rw [if_pos (by omega), decide_eq_true (by omega), if_pos a]
    simp only [text_hex.j0, if_true]
    congr 1
    omega
  rw [if_neg a]
  have e : (if (c : Int) ≥ 48 then text_hex.j0 (k + 2) c (decide ((c : Int) ≤ 57)) else text_hex.j0 (k + 2) c false) = text_hex.j0 (k + 2) c false := by
    split
    · rw [decide_eq_false (by omega)]
    · rfl
  rw [e]
  simp only [text_hex.j0, Bool.false_eq_true, if_false]
  by_cases b : 97 ≤ c ∧ c ≤ 102
  · rw [if_pos (by omega), decide_eq_true (by omega), if_pos b]
    simp only [text_hex.j1, if_true]
    congr 1
    omega
  rw [if_neg b]
  have e : (if (c : Int) ≥ 97 then text_hex.j1 (k + 1) c (decide ((c : Int) ≤ 102)) else text_hex.j1 (k + 1) c false) = text_hex.j1 (k + 1) c false := by
    split
    · rw [decide_eq_false (by omega)]
    · rfl
  rw [e]
  simp only [text_hex.j1, Bool.false_eq_true, if_false]
  by_cases g : 65 ≤ c ∧ c ≤ 70
  · rw [if_pos (by omega), if_pos (by omega), if_pos g]
    congr 1
    omega
  rw [if_neg g]
  split
  · rw [if_neg (by omega)]
  · rfl
theorem ref_digit_eq (c : Nat) (h : c < 256) (k : Nat) : chancelref1_digit.f (k + 2) (c : Int) = some (hexI c) := by
  rw [hexI_of]
  unfold chancelref1_digit.f
  by_cases a : 48 ≤ c ∧ c ≤ 57
  · rw [if_pos (by omega), decide_eq_true (by omega), if_pos a]
    simp only [chancelref1_digit.j0, if_true]
    congr 1
    omega
  rw [if_neg a]
  have e : (if (c : Int) ≥ 48 then chancelref1_digit.j0 (k + 2) c (decide ((c : Int) ≤ 57)) else chancelref1_digit.j0 (k + 2) c false) = chancelref1_digit.j0 (k + 2) c false := by
    split
    · rw [decide_eq_false (by omega)]
    · rfl
  rw [e]
  simp only [chancelref1_digit.j0, Bool.false_eq_true, if_false]
  by_cases b : 97 ≤ c ∧ c ≤ 102
  · rw [if_pos (by omega), decide_eq_true (by omega), if_pos b]
    simp only [chancelref1_digit.j1, if_true]
    congr 1
    omega
  rw [if_neg b]
  have e : (if (c : Int) ≥ 97 then chancelref1_digit.j1 (k + 1) c (decide ((c : Int) ≤ 102)) else chancelref1_digit.j1 (k + 1) c false) = chancelref1_digit.j1 (k + 1) c false := by
    split
    · rw [decide_eq_false (by omega)]
    · rfl
  rw [e]
  simp only [chancelref1_digit.j1, Bool.false_eq_true, if_false]
  by_cases g : 65 ≤ c ∧ c ≤ 70
  · rw [if_pos (by omega), if_pos (by omega), if_pos g]
    congr 1
    omega
  rw [if_neg g]
  split
  · rw [if_neg (by omega)]
  · rfl
/-- Up to m digits: the number that they are, and how many. -/
def hexes : Nat → List UInt8 → Nat → Nat × Nat
  | 0, _, v => (v, 0)
  | _ + 1, [], v => (v, 0)
  | m + 1, c :: t, v => match hexD c.toNat with
    | some d => ((hexes m t (16 * v + d)).1, (hexes m t (16 * v + d)).2 + 1)
    | none => (v, 0)
theorem hexes_len : ∀ (m : Nat) (u : List UInt8) (v : Nat), (hexes m u v).2 ≤ m ∧ (hexes m u v).2 ≤ u.length
  | 0, _, _ => ⟨Nat.le_refl _, Nat.zero_le _⟩
  | _ + 1, [], _ => ⟨Nat.zero_le _, Nat.le_refl _⟩
  | m + 1, c :: t, v => by
    simp only [hexes]
    cases h : hexD c.toNat with
    | none => simp
    | some d =>
      have := hexes_len m t (16 * v + d)
      simp only [List.length_cons]
      omega
theorem hexes_lt : ∀ (m : Nat) (u : List UInt8) (v n : Nat), n + m = 6 → v < 16 ^ n → (hexes m u v).1 < 16777216
  | 0, _, v, n, hn, hv => by
    obtain rfl : n = 6 := by omega
    exact hv
  | m + 1, [], v, n, hn, hv => by
    simp only [hexes]
    exact Nat.lt_of_lt_of_le hv (Nat.pow_le_pow_right (by decide : 0 < 16) (show n ≤ 6 by omega))
  | m + 1, c :: t, v, n, hn, hv => by
    simp only [hexes]
    cases h : hexD c.toNat with
    | none => exact Nat.lt_of_lt_of_le hv (Nat.pow_le_pow_right (by decide : 0 < 16) (show n ≤ 6 by omega))
    | some d =>
      have hd := hexD_lt h
      exact hexes_lt m t (16 * v + d) (n + 1) (by omega) (by rw [Nat.pow_succ]; omega)
/-- What stands behind '\u{'. -/
def bracedL (u : List UInt8) : Int × Int × Int :=
  if (hexes 6 u 0).2 = 0 ∨ u.length ≤ (hexes 6 u 0).2 ∨ at_ u (hexes 6 u 0).2 ≠ 125 then (0, 0, 12)
  else if isR ((hexes 6 u 0).1 : Int) then (((hexes 6 u 0).1 : Nat), (((hexes 6 u 0).2 + 1 : Nat) : Int), 0) else (0, 0, 11)
theorem wrap_digit (v d : Nat) (hv : v < 16777216) (hd : d < 16) : wrap64 (wrap64 (16 * (v : Int)) + (d : Int)) = ((16 * v + d : Nat) : Int) := by
  have e : wrap64 (16 * (v : Int)) = 16 * (v : Int) := by unfold wrap64; omega
  rw [e]
  unfold wrap64
  omega
theorem wrap_next (i : Nat) (hi : i < 1000000000) : wrap64 ((i : Int) + 1) = ((i + 1 : Nat) : Int) := by unfold wrap64; omega
theorem braced_l0 (s : ByteArray) (hs : s.size ≤ 1000000) : ∀ (m i v k : Nat), i + m = 6 → i ≤ s.size → v < 16 ^ i → ∃ k', k ≤ k' ∧
    text_braced.l0 (k + m + 4) s v i = text_braced.j1 k' s ((hexes m (s.data.toList.drop i) v).1 : Nat) ((i + (hexes m (s.data.toList.drop i) v).2 : Nat) : Int)
  | 0, i, v, k, h1, h2, h3 => by
    refine ⟨k + 3, by omega, ?_⟩
    obtain rfl : i = 6 := by omega
    show text_braced.l0 (k + 3 + 1) s v ((6 : Nat) : Int) = _
    rw [text_braced.l0]
    rw [hexes]
    by_cases c : ((6 : Nat) : Int) < (s.size : Int)
    · rw [if_pos c, if_neg (by omega)]
      exact congrArg _ (by rfl)
    · rw [if_neg c]
      exact congrArg _ (by rfl)
  | m + 1, i, v, k, h1, h2, h3 => by
    rw [show k + (m + 1) + 4 = (k + m + 4) + 1 from rfl, text_braced.l0]
    by_cases c : i < s.size
    · have hd : s.data.toList.drop i = s.data.toList[i]'(by rw [Array.length_toList]; exact c) :: s.data.toList.drop (i + 1) := List.drop_eq_getElem_cons _
      have hb := bt_at_ s i c
      have hv : v < 16777216 := Nat.lt_of_lt_of_le h3 (Nat.pow_le_pow_right (by decide : 0 < 16) (show i ≤ 6 by omega))
      have ha : at_ s.data.toList i = (s.data.toList[i]'(by rw [Array.length_toList]; exact c)).toNat := by
        unfold at_
        rw [List.getD_eq_getElem?_getD, List.getElem?_eq_getElem (by rw [Array.length_toList]; exact c)]
        rfl
      have hlt := at_lt s.data.toList i
      rw [if_pos (by omega), if_pos (by omega), if_pos (by omega), hb, text_hex_eq _ hlt (k + m + 2), Option.bind_some, Option.bind_some]
      cases h : hexD (at_ s.data.toList i) with
      | none =>
        have hx : hexes (m + 1) (s.data.toList.drop i) v = (v, 0) := by
          rw [hd, hexes, ← ha, h]
        refine ⟨k + m + 4, by omega, ?_⟩
        rw [show hexI (at_ s.data.toList i) = -1 by unfold hexI; rw [h], if_neg (by omega), hx]
        exact congrArg _ (by rfl)
      | some d =>
        have hdl := hexD_lt h
        obtain ⟨k', hk, e⟩ := braced_l0 s hs m (i + 1) (16 * v + d) k (by omega) (by omega) (by rw [Nat.pow_succ]; omega)
        refine ⟨k', hk, ?_⟩
        have hx : hexes (m + 1) (s.data.toList.drop i) v = ((hexes m (s.data.toList.drop (i + 1)) (16 * v + d)).1, (hexes m (s.data.toList.drop (i + 1)) (16 * v + d)).2 + 1) := by
          rw [hd, hexes, ← ha, h]
        rw [show hexI (at_ s.data.toList i) = (d : Int) by unfold hexI; rw [h], if_pos (by omega),
          wrap_digit v d hv hdl, wrap_next i (by omega), e, hx]
        rw [show i + 1 + (hexes m (s.data.toList.drop (i + 1)) (16 * v + d)).2 = i + ((hexes m (s.data.toList.drop (i + 1)) (16 * v + d)).2 + 1) by omega]
    · have hd : s.data.toList.drop i = [] := List.drop_of_length_le (by rw [Array.length_toList]; show s.size ≤ i; omega)
      refine ⟨k + m + 4, by omega, ?_⟩
      rw [if_neg (by omega), hd, hexes]
      exact congrArg _ (by rfl)
theorem braced_end (s : ByteArray) (hs : s.size ≤ 1000000) (v n k' : Nat) (h1 : n ≤ s.size) (h2 : v < 16777216) :
    text_braced.j1 (k' + 3) s v n = some (if n = 0 ∨ s.data.toList.length ≤ n ∨ at_ s.data.toList n ≠ 125 then (0, 0, 12) else if isR (v : Int) then ((v : Int), ((n + 1 : Nat) : Int), 0) else (0, 0, 11)) := by
  have hl : s.data.toList.length = s.size := by rw [Array.length_toList]; rfl
  have bad : text_braced.j2 (k' + 2) v n true = some (0, 0, 12) := by rw [text_braced.j2, if_pos rfl]
  rw [text_braced.j1]
  by_cases c0 : n = 0
  · rw [if_pos (by omega), if_pos (.inl c0)]
    exact bad
  rw [if_neg (by omega)]
  by_cases c1 : n = s.size
  · rw [if_pos (by omega), if_pos (.inr (.inl (by omega)))]
    exact bad
  rw [if_neg (by omega), if_pos (by omega), if_pos (by omega), bt_at_ s n (by omega)]
  by_cases c2 : at_ s.data.toList n = 125
  · rw [if_neg (by omega)]
    have : (((at_ s.data.toList n : Nat) : Int) != 125) = false := by rw [c2]; rfl
    rw [this, text_braced.j2, if_neg (by decide), show wrap32 (v : Int) = (v : Int) by unfold wrap32; omega, valid_rune _ _ (by omega), Option.bind_some]
    by_cases c3 : isR (v : Int)
    · rw [if_pos (decide_eq_true c3), if_pos c3, show wrap64 ((n : Int) + 1) = ((n + 1 : Nat) : Int) by unfold wrap64; omega]
    · rw [if_neg (by rw [decide_eq_true_eq]; exact c3), if_neg c3]
  · have : (((at_ s.data.toList n : Nat) : Int) != 125) = true := by rw [bne_iff_ne]; omega
    rw [this, if_pos (.inr (.inr c2))]
    exact bad
theorem braced_eq (s : ByteArray) (hs : s.size ≤ 1000000) (k : Nat) (hk : 20 ≤ k) : text_braced.f k s = some (bracedL s.data.toList) := by
  obtain ⟨k, rfl⟩ : ∃ m, k = m + 6 + 4 := ⟨k - 10, by omega⟩
  obtain ⟨k', hk', e⟩ := braced_l0 s hs 6 0 0 k (by omega) (by omega) (by decide)
  rw [List.drop_zero, Nat.zero_add] at e
  obtain ⟨k', rfl⟩ : ∃ m, k' = m + 3 := ⟨k' - 3, by omega⟩
  have h1 := hexes_len 6 s.data.toList 0
  have h2 := hexes_lt 6 s.data.toList 0 0 (by omega) (by decide)
  have hl : s.data.toList.length = s.size := by rw [Array.length_toList]; rfl
  rw [braced_end s hs _ _ k' (by omega) h2] at e
  unfold text_braced.f
  unfold bracedL
  exact e
/-- What stands behind a backslash. -/
def escL (l : List UInt8) : Int × Int × Int :=
  if l.length = 0 then (0, 0, 12)
  else if at_ l 0 = 92 ∨ at_ l 0 = 34 then ((at_ l 0 : Nat), 1, 0)
  else if at_ l 0 = 110 then (10, 1, 0)
  else if at_ l 0 = 116 then (9, 1, 0)
  else if at_ l 0 = 117 ∧ 2 ≤ l.length ∧ at_ l 1 = 123 then (if (bracedL (l.drop 2)).2.2 = 0 then ((bracedL (l.drop 2)).1, (bracedL (l.drop 2)).2.1 + 2, 0) else (0, 0, (bracedL (l.drop 2)).2.2))
  else (0, 0, 12)
/-- A failure, without the rest. -/
def norm (x : Int × Int × Int) : Int × Int × Int := if x.2.2 = 0 then x else (0, 0, x.2.2)
end Go.Proofs.YtapccgkkcgggiaaDoor.Pure
