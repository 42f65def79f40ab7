import Derived.Test.YtaiegjgbdfmfpaaDoorTextAll
import Derived.Test.YtaiegjgbdfmfpaaDoorGL4
import Derived.Test.YtaiegjgbdfmfpaaDoorGL8
import Derived.Test.YtaiegjgbdfmfpaaDoorGL10
import Derived.Test.YtaiegjgbdfmfpaaDoorGL11
import Derived.Test.YtaiegjgbdfmfpaaDoorGL12
import Derived.Test.YtaiegjgbdfmfpaaDoorGL6
namespace Go.Proofs.YtaiegjgbdfmfpaaDoor.Pure
open Go.RowKit Go.Proofs.YtaiegjgbdfmfpaaDoor.GL Go.Proofs.YtaiegjgbdfmfpaaDoor.HandL Go.Proofs.YtaiegjgbdfmfpaaDoorW.PrintWords Go.Proofs.YtaiegjgbdfmfpaaDoorW.PrintLast
/-! ### a quoted text, read -/
theorem ext_data (s : ByteArray) (i : Nat) : (s.extract i s.size).data.toList = s.data.toList.drop i := by
  rw [Lib.extract_data, List.take_of_length_le (by rw [List.length_drop, Array.length_toList]; exact Nat.le_refl _)]
theorem ext_size (s : ByteArray) (i : Nat) : (s.extract i s.size).size = s.size - i := by
  rw [show (s.extract i s.size).size = (s.extract i s.size).data.toList.length from rfl, ext_data, List.length_drop, Array.length_toList]
  rfl
theorem bt_at_ (s : ByteArray) (i : Nat) (h : i < s.size) : bt s (i : Int) = ((at_ s.data.toList i : Nat) : Int) := by
  have := bt_drop s 0 i (by omega)
  rw [List.drop_zero, Nat.zero_add] at this
  exact this
theorem at_drop (l : List UInt8) (i j : Nat) : at_ (l.drop i) j = at_ l (i + j) := by
  unfold at_
  rw [List.getD_eq_getElem?_getD, List.getD_eq_getElem?_getD, List.getElem?_drop]
/-- A digit of a hexadecimal number. -/
def hexD (c : Nat) : Option Nat := if 48 ≤ c ∧ c ≤ 57 then some (c - 48) else if 97 ≤ c ∧ c ≤ 102 then some (c - 87) else if 65 ≤ c ∧ c ≤ 70 then some (c - 55) else none
def hexI (c : Nat) : Int := match hexD c with
  | some d => (d : Int)
  | none => -1
theorem hexD_lt {c d : Nat} (h : hexD c = some d) : d < 16 := by
  unfold hexD at h
  split at h
  · injection h; omega
  split at h
  · injection h; omega
  split at h
  · injection h; omega
  · cases h
theorem hexI_of (c : Nat) : hexI c = if 48 ≤ c ∧ c ≤ 57 then ((c - 48 : Nat) : Int) else if 97 ≤ c ∧ c ≤ 102 then ((c - 87 : Nat) : Int) else if 65 ≤ c ∧ c ≤ 70 then ((c - 55 : Nat) : Int) else -1 := by
  unfold hexI hexD
  by_cases a : 48 ≤ c ∧ c ≤ 57
  · rw [if_pos a, if_pos a]
  rw [if_neg a, if_neg a]
  by_cases b : 97 ≤ c ∧ c ≤ 102
  · rw [if_pos b, if_pos b]
  rw [if_neg b, if_neg b]
  by_cases g : 65 ≤ c ∧ c ≤ 70
  · rw [if_pos g, if_pos g]
  rw [if_neg g, if_neg g]
theorem text_hex_eq (c : Nat) (h : c < 256) (k : Nat) : text_hex.f (k + 2) (c : Int) = some (hexI c) := by
  rw [hexI_of]
  unfold text_hex.f
  by_cases a : 48 ≤ c ∧ c ≤ 57
  · rw [if_pos (by omega), decide_eq_true (by omega), if_pos a]
    simp only [text_hex.j0, if_true]
    congr 1
    omega
  rw [if_neg a]
  have e : (if (c : Int) ≥ 48 then text_hex.j0 (k + 2) c (decide ((c : Int) ≤ 57)) else text_hex.j0 (k + 2) c false) = text_hex.j0 (k + 2) c false := by
    split
    · rw [decide_eq_false (by omega)]
    · rfl
  rw [e]
  simp only [text_hex.j0, Bool.false_eq_true, if_false]
  by_cases b : 97 ≤ c ∧ c ≤ 102
  · rw [if_pos (by omega), decide_eq_true (by omega), if_pos b]
    simp only [text_hex.j1, if_true]
    congr 1
    omega
  rw [if_neg b]
  have e : (if (c : Int) ≥ 97 then text_hex.j1 (k + 1) c (decide ((c : Int) ≤ 102)) else text_hex.j1 (k + 1) c false) = text_hex.j1 (k + 1) c false := by
    split
    · rw [decide_eq_false (by omega)]
    · rfl
  rw [e]
  simp only [text_hex.j1, Bool.false_eq_true, if_false]
  by_cases g : 65 ≤ c ∧ c ≤ 70
  · rw [if_pos (by omega), if_pos (by omega), if_pos g]
    congr 1
    omega
  rw [if_neg g]
  split
  · rw [if_neg (by omega)]
  · rfl
theorem ref_digit_eq (c : Nat) (h : c < 256) (k : Nat) : chancelref1_digit.f (k + 2) (c : Int) = some (hexI c) := by
  rw [hexI_of]
  unfold chancelref1_digit.f
  by_cases a : 48 ≤ c ∧ c ≤ 57
  · rw [if_pos (by omega), decide_eq_true (by omega), if_pos a]
    simp only [chancelref1_digit.j0, if_true]
    congr 1
    omega
  rw [if_neg a]
  have e : (if (c : Int) ≥ 48 then chancelref1_digit.j0 (k + 2) c (decide ((c : Int) ≤ 57)) else chancelref1_digit.j0 (k + 2) c false) = chancelref1_digit.j0 (k + 2) c false := by
    split
    · rw [decide_eq_false (by omega)]
    · rfl
  rw [e]
  simp only [chancelref1_digit.j0, Bool.false_eq_true, if_false]
  by_cases b : 97 ≤ c ∧ c ≤ 102
  · rw [if_pos (by omega), decide_eq_true (by omega), if_pos b]
    simp only [chancelref1_digit.j1, if_true]
    congr 1
    omega
  rw [if_neg b]
  have e : (if (c : Int) ≥ 97 then chancelref1_digit.j1 (k + 1) c (decide ((c : Int) ≤ 102)) else chancelref1_digit.j1 (k + 1) c false) = chancelref1_digit.j1 (k + 1) c false := by
    split
    · rw [decide_eq_false (by omega)]
    · rfl
  rw [e]
  simp only [chancelref1_digit.j1, Bool.false_eq_true, if_false]
  by_cases g : 65 ≤ c ∧ c ≤ 70
  · rw [if_pos (by omega), if_pos (by omega), if_pos g]
    congr 1
    omega
  rw [if_neg g]
  split
  · rw [if_neg (by omega)]
  · rfl
/-- Up to m digits: the number that they are, and how many. -/
def hexes : Nat → List UInt8 → Nat → Nat × Nat
  | 0, _, v => (v, 0)
  | _ + 1, [], v => (v, 0)
  | m + 1, c :: t, v => match hexD c.toNat with
    | some d => ((hexes m t (16 * v + d)).1, (hexes m t (16 * v + d)).2 + 1)
    | none => (v, 0)
theorem hexes_len : ∀ (m : Nat) (u : List UInt8) (v : Nat), (hexes m u v).2 ≤ m ∧ (hexes m u v).2 ≤ u.length
  | 0, _, _ => ⟨Nat.le_refl _, Nat.zero_le _⟩
  | _ + 1, [], _ => ⟨Nat.zero_le _, Nat.le_refl _⟩
  | m + 1, c :: t, v => by
    simp only [hexes]
    cases h : hexD c.toNat with
    | none => simp
    | some d =>
      have := hexes_len m t (16 * v + d)
      simp only [List.length_cons]
      omega
theorem hexes_lt : ∀ (m : Nat) (u : List UInt8) (v n : Nat), n + m = 6 → v < 16 ^ n → (hexes m u v).1 < 16777216
  | 0, _, v, n, hn, hv => by
    obtain rfl : n = 6 := by omega
    exact hv
  | m + 1, [], v, n, hn, hv => by
    simp only [hexes]
    exact Nat.lt_of_lt_of_le hv (Nat.pow_le_pow_right (by decide : 0 < 16) (show n ≤ 6 by omega))
  | m + 1, c :: t, v, n, hn, hv => by
    simp only [hexes]
    cases h : hexD c.toNat with
    | none => exact Nat.lt_of_lt_of_le hv (Nat.pow_le_pow_right (by decide : 0 < 16) (show n ≤ 6 by omega))
    | some d =>
      have hd := hexD_lt h
      exact hexes_lt m t (16 * v + d) (n + 1) (by omega) (by rw [Nat.pow_succ]; omega)
/-- What stands behind '\u{'. -/
def bracedL (u : List UInt8) : Int × Int × Int :=
  if (hexes 6 u 0).2 = 0 ∨ u.length ≤ (hexes 6 u 0).2 ∨ at_ u (hexes 6 u 0).2 ≠ 125 then (0, 0, 12)
  else if isR ((hexes 6 u 0).1 : Int) then (((hexes 6 u 0).1 : Nat), (((hexes 6 u 0).2 + 1 : Nat) : Int), 0) else (0, 0, 11)
theorem wrap_digit (v d : Nat) (hv : v < 16777216) (hd : d < 16) : wrap64 (wrap64 (16 * (v : Int)) + (d : Int)) = ((16 * v + d : Nat) : Int) := by
  have e : wrap64 (16 * (v : Int)) = 16 * (v : Int) := by unfold wrap64; omega
  rw [e]
  unfold wrap64
  omega
theorem wrap_next (i : Nat) (hi : i < 1000000000) : wrap64 ((i : Int) + 1) = ((i + 1 : Nat) : Int) := by unfold wrap64; omega
theorem braced_l0 (s : ByteArray) (hs : s.size ≤ 1000000) : ∀ (m i v k : Nat), i + m = 6 → i ≤ s.size → v < 16 ^ i → ∃ k', k ≤ k' ∧
    text_braced.l0 (k + m + 4) s v i = text_braced.j1 k' s ((hexes m (s.data.toList.drop i) v).1 : Nat) ((i + (hexes m (s.data.toList.drop i) v).2 : Nat) : Int)
  | 0, i, v, k, h1, h2, h3 => by
    refine ⟨k + 3, by omega, ?_⟩
    obtain rfl : i = 6 := by omega
    show text_braced.l0 (k + 3 + 1) s v ((6 : Nat) : Int) = _
    rw [text_braced.l0]
    rw [hexes]
    by_cases c : ((6 : Nat) : Int) < (s.size : Int)
    · rw [if_pos c, if_neg (by omega)]
      exact congrArg _ (by rfl)
    · rw [if_neg c]
      exact congrArg _ (by rfl)
  | m + 1, i, v, k, h1, h2, h3 => by
    rw [show k + (m + 1) + 4 = (k + m + 4) + 1 from rfl, text_braced.l0]
    by_cases c : i < s.size
    · have hd : s.data.toList.drop i = s.data.toList[i]'(by rw [Array.length_toList]; exact c) :: s.data.toList.drop (i + 1) := List.drop_eq_getElem_cons _
      have hb := bt_at_ s i c
      have hv : v < 16777216 := Nat.lt_of_lt_of_le h3 (Nat.pow_le_pow_right (by decide : 0 < 16) (show i ≤ 6 by omega))
      have ha : at_ s.data.toList i = (s.data.toList[i]'(by rw [Array.length_toList]; exact c)).toNat := by
        unfold at_
        rw [List.getD_eq_getElem?_getD, List.getElem?_eq_getElem (by rw [Array.length_toList]; exact c)]
        rfl
      have hlt := at_lt s.data.toList i
      rw [if_pos (by omega), if_pos (by omega), if_pos (by omega), hb, text_hex_eq _ hlt (k + m + 2), Option.bind_some, Option.bind_some]
      cases h : hexD (at_ s.data.toList i) with
      | none =>
        have hx : hexes (m + 1) (s.data.toList.drop i) v = (v, 0) := by
          rw [hd, hexes, ← ha, h]
        refine ⟨k + m + 4, by omega, ?_⟩
        rw [show hexI (at_ s.data.toList i) = -1 by unfold hexI; rw [h], if_neg (by omega), hx]
        exact congrArg _ (by rfl)
      | some d =>
        have hdl := hexD_lt h
        obtain ⟨k', hk, e⟩ := braced_l0 s hs m (i + 1) (16 * v + d) k (by omega) (by omega) (by rw [Nat.pow_succ]; omega)
        refine ⟨k', hk, ?_⟩
        have hx : hexes (m + 1) (s.data.toList.drop i) v = ((hexes m (s.data.toList.drop (i + 1)) (16 * v + d)).1, (hexes m (s.data.toList.drop (i + 1)) (16 * v + d)).2 + 1) := by
          rw [hd, hexes, ← ha, h]
        rw [show hexI (at_ s.data.toList i) = (d : Int) by unfold hexI; rw [h], if_pos (by omega),
          wrap_digit v d hv hdl, wrap_next i (by omega), e, hx]
        rw [show i + 1 + (hexes m (s.data.toList.drop (i + 1)) (16 * v + d)).2 = i + ((hexes m (s.data.toList.drop (i + 1)) (16 * v + d)).2 + 1) by omega]
    · have hd : s.data.toList.drop i = [] := List.drop_of_length_le (by rw [Array.length_toList]; show s.size ≤ i; omega)
      refine ⟨k + m + 4, by omega, ?_⟩
      rw [if_neg (by omega), hd, hexes]
      exact congrArg _ (by rfl)
theorem braced_end (s : ByteArray) (hs : s.size ≤ 1000000) (v n k' : Nat) (h1 : n ≤ s.size) (h2 : v < 16777216) :
    text_braced.j1 (k' + 3) s v n = some (if n = 0 ∨ s.data.toList.length ≤ n ∨ at_ s.data.toList n ≠ 125 then (0, 0, 12) else if isR (v : Int) then ((v : Int), ((n + 1 : Nat) : Int), 0) else (0, 0, 11)) := by
  have hl : s.data.toList.length = s.size := by rw [Array.length_toList]; rfl
  have bad : text_braced.j2 (k' + 2) v n true = some (0, 0, 12) := by rw [text_braced.j2, if_pos rfl]
  rw [text_braced.j1]
  by_cases c0 : n = 0
  · rw [if_pos (by omega), if_pos (.inl c0)]
    exact bad
  rw [if_neg (by omega)]
  by_cases c1 : n = s.size
  · rw [if_pos (by omega), if_pos (.inr (.inl (by omega)))]
    exact bad
  rw [if_neg (by omega), if_pos (by omega), if_pos (by omega), bt_at_ s n (by omega)]
  by_cases c2 : at_ s.data.toList n = 125
  · rw [if_neg (by omega)]
    have : (((at_ s.data.toList n : Nat) : Int) != 125) = false := by rw [c2]; rfl
    rw [this, text_braced.j2, if_neg (by decide), show wrap32 (v : Int) = (v : Int) by unfold wrap32; omega, valid_rune _ _ (by omega), Option.bind_some]
    by_cases c3 : isR (v : Int)
    · rw [if_pos (decide_eq_true c3), if_pos c3, show wrap64 ((n : Int) + 1) = ((n + 1 : Nat) : Int) by unfold wrap64; omega]
    · rw [if_neg (by rw [decide_eq_true_eq]; exact c3), if_neg c3]
  · have : (((at_ s.data.toList n : Nat) : Int) != 125) = true := by rw [bne_iff_ne]; omega
    rw [this, if_pos (.inr (.inr c2))]
    exact bad
theorem braced_eq (s : ByteArray) (hs : s.size ≤ 1000000) (k : Nat) (hk : 20 ≤ k) : text_braced.f k s = some (bracedL s.data.toList) := by
  obtain ⟨k, rfl⟩ : ∃ m, k = m + 6 + 4 := ⟨k - 10, by omega⟩
  obtain ⟨k', hk', e⟩ := braced_l0 s hs 6 0 0 k (by omega) (by omega) (by decide)
  rw [List.drop_zero, Nat.zero_add] at e
  obtain ⟨k', rfl⟩ : ∃ m, k' = m + 3 := ⟨k' - 3, by omega⟩
  have h1 := hexes_len 6 s.data.toList 0
  have h2 := hexes_lt 6 s.data.toList 0 0 (by omega) (by decide)
  have hl : s.data.toList.length = s.size := by rw [Array.length_toList]; rfl
  rw [braced_end s hs _ _ k' (by omega) h2] at e
  unfold text_braced.f
  unfold bracedL
  exact e
/-- What stands behind a backslash. -/
def escL (l : List UInt8) : Int × Int × Int :=
  if l.length = 0 then (0, 0, 12)
  else if at_ l 0 = 92 ∨ at_ l 0 = 34 then ((at_ l 0 : Nat), 1, 0)
  else if at_ l 0 = 110 then (10, 1, 0)
  else if at_ l 0 = 116 then (9, 1, 0)
  else if at_ l 0 = 117 ∧ 2 ≤ l.length ∧ at_ l 1 = 123 then (if (bracedL (l.drop 2)).2.2 = 0 then ((bracedL (l.drop 2)).1, (bracedL (l.drop 2)).2.1 + 2, 0) else (0, 0, (bracedL (l.drop 2)).2.2))
  else (0, 0, 12)
/-- A failure, without the rest. -/
def norm (x : Int × Int × Int) : Int × Int × Int := if x.2.2 = 0 then x else (0, 0, x.2.2)
end Go.Proofs.YtaiegjgbdfmfpaaDoor.Pure
namespace Go.Proofs.YtaiegjgbdfmfpaaDoor.Pure
open Go.RowKit Go.Proofs.YtaiegjgbdfmfpaaDoor.GL Go.Proofs.YtaiegjgbdfmfpaaDoor.HandL Go.Proofs.YtaiegjgbdfmfpaaDoorW.PrintWords Go.Proofs.YtaiegjgbdfmfpaaDoorW.PrintLast
theorem norm_ok (a b : Int) : norm (a, b, 0) = (a, b, 0) := rfl
theorem norm_bad (a b : Int) {e : Int} (h : e ≠ 0) : norm (a, b, e) = (0, 0, e) := by unfold norm; exact if_neg h
theorem list_len (s : ByteArray) : s.data.toList.length = s.size := by rw [Array.length_toList]; rfl
theorem prefix_eq (s : ByteArray) : strings_HasPrefix.f s (⟨#[117, 123]⟩ : ByteArray) = some (decide (2 ≤ s.size ∧ at_ s.data.toList 0 = 117 ∧ at_ s.data.toList 1 = 123)) := by
  unfold strings_HasPrefix.f stringslite_HasPrefix.f
  have hl := list_len s
  rw [show (⟨#[117, 123]⟩ : ByteArray).size = 2 from rfl]
  by_cases c : 2 ≤ s.size
  · rw [if_pos (by omega), if_pos (by omega), if_pos (by omega), Option.bind_some]
    have e : (s.extract 0 (((2 : Nat) : Int) : Int).toNat).toList = s.data.toList.take 2 := by rw [Lib.toList_data, Lib.extract_data, List.drop_zero]; rfl
    rw [e, show (⟨#[117, 123]⟩ : ByteArray).toList = [117, 123] by rw [Lib.toList_data]]
    generalize s.data.toList = l at hl ⊢
    rcases l with _ | ⟨a, _ | ⟨b, t⟩⟩
    · simp at hl; omega
    · simp at hl; omega
    · congr 1
      rw [Bool.eq_iff_iff, beq_iff_eq, decide_eq_true_eq]
      constructor
      · intro h
        injection h with h1 h
        injection h with h2 _
        subst h1 h2
        exact ⟨c, rfl, rfl⟩
      · rintro ⟨_, h1, h2⟩
        obtain rfl : a = 117 := UInt8.toNat_inj.1 h1
        obtain rfl : b = 123 := UInt8.toNat_inj.1 h2
        rfl
  · rw [if_neg (by omega), Option.bind_some, decide_eq_false (by omega)]
theorem braced_e (u : List UInt8) : (bracedL u).2.2 = 0 ∨ (bracedL u).2.2 = 11 ∨ (bracedL u).2.2 = 12 := by
  unfold bracedL
  split
  · simp
  split <;> simp
theorem braced_ok (u : List UInt8) (h : (bracedL u).2.2 = 0) : isR (bracedL u).1 ∧ 0 ≤ (bracedL u).2.1 ∧ (bracedL u).2.1 ≤ 7 ∧ (bracedL u).2.1 ≤ u.length := by
  have hl := hexes_len 6 u 0
  unfold bracedL at h ⊢
  split at h
  · simp at h
  next c =>
  split at h
  next c2 =>
    rw [if_neg c, if_pos c2]
    refine ⟨c2, ?_, ?_, ?_⟩ <;> simp only <;> omega
  next => simp at h
theorem turned_eq (s : ByteArray) (hs : s.size ≤ 1000000) (k : Nat) (hk : 30 ≤ k) : ∃ x, text_turned.f k s = some x ∧ norm x = escL s.data.toList := by
  obtain ⟨k, rfl⟩ : ∃ m, k = m + 1 := ⟨k - 1, by omega⟩
  have hl := list_len s
  unfold text_turned.f
  by_cases c : s.toList = []
  · rw [if_pos c]
    rw [Lib.toList_data] at c
    refine ⟨_, rfl, ?_⟩
    unfold escL
    rw [if_pos (by rw [c]; rfl)]
    rfl
  have hp : 0 < s.size := Nat.pos_of_ne_zero fun e => c (by rw [Lib.toList_data]; exact List.eq_nil_of_length_eq_zero (by omega))
  have hb := bt_at_ s 0 hp
  rw [show ((0 : Nat) : Int) = 0 from rfl] at hb
  have hlt := at_lt s.data.toList 0
  rw [if_neg c, if_pos (by omega)]
  unfold escL
  rw [if_neg (show ¬ s.data.toList.length = 0 by omega)]
  by_cases c1 : at_ s.data.toList 0 = 92 ∨ at_ s.data.toList 0 = 34
  · have e : (if bt s 0 = 92 then text_turned.j0 (k + 1) s true else text_turned.j0 (k + 1) s (bt s 0 == 34)) = text_turned.j0 (k + 1) s true := by
      split
      · rfl
      · rw [show (bt s 0 == 34) = true by rw [beq_iff_eq]; omega]
    rw [e, text_turned.j0, if_pos rfl, if_pos (by omega), if_pos c1]
    refine ⟨_, rfl, ?_⟩
    rw [norm_ok, hb, show wrap32 ((at_ s.data.toList 0 : Nat) : Int) = ((at_ s.data.toList 0 : Nat) : Int) by unfold wrap32; omega]
  have e : (if bt s 0 = 92 then text_turned.j0 (k + 1) s true else text_turned.j0 (k + 1) s (bt s 0 == 34)) = text_turned.j0 (k + 1) s false := by
    rw [if_neg (by omega), show (bt s 0 == 34) = false by rw [beq_eq_false_iff_ne]; omega]
  rw [e, text_turned.j0, if_neg (by decide), if_pos (by omega), if_neg c1]
  by_cases c2 : at_ s.data.toList 0 = 110
  · rw [if_pos (by omega), if_pos c2]
    exact ⟨_, rfl, rfl⟩
  rw [if_neg (by omega), if_neg c2]
  by_cases c3 : at_ s.data.toList 0 = 116
  · rw [if_pos (by omega), if_pos c3]
    exact ⟨_, rfl, rfl⟩
  rw [if_neg (by omega), if_neg c3, prefix_eq, Option.bind_some]
  by_cases c4 : 2 ≤ s.size ∧ at_ s.data.toList 0 = 117 ∧ at_ s.data.toList 1 = 123
  · have hz := ext_size s 2
    rw [if_pos (decide_eq_true c4), if_pos (by omega), if_pos ⟨c4.2.1, by omega, c4.2.2⟩, braced_eq _ (by omega) k (by omega), Option.bind_some, ext_data]
    have hq := braced_ok (s.data.toList.drop 2)
    generalize bracedL (s.data.toList.drop 2) = q at hq ⊢
    obtain ⟨a, b, e⟩ := q
    refine ⟨_, rfl, ?_⟩
    by_cases he : e = 0
    · subst he
      have := hq rfl
      rw [if_pos rfl, norm_ok]
      rw [show wrap64 (b + 2) = b + 2 by unfold wrap64; simp only at this; omega]
    · rw [if_neg he, norm_bad _ _ he]
  · rw [if_neg (by rw [decide_eq_true_eq]; exact c4), if_neg (by rw [hl]; omega)]
    exact ⟨_, rfl, rfl⟩
theorem esc_ok (l : List UInt8) (h : (escL l).2.2 = 0) : isR (escL l).1 ∧ 1 ≤ (escL l).2.1 ∧ (escL l).2.1 ≤ 10 ∧ (escL l).2.1 ≤ l.length := by
  have hlt := at_lt l 0
  unfold escL at h ⊢
  by_cases c0 : l.length = 0
  · rw [if_pos c0] at h; simp at h
  rw [if_neg c0] at h ⊢
  by_cases c1 : at_ l 0 = 92 ∨ at_ l 0 = 34
  · rw [if_pos c1]
    refine ⟨⟨by omega, by omega, by omega⟩, ?_, ?_, ?_⟩ <;> simp only <;> omega
  rw [if_neg c1] at h ⊢
  by_cases c2 : at_ l 0 = 110
  · rw [if_pos c2]
    refine ⟨by decide, ?_, ?_, ?_⟩ <;> simp only <;> omega
  rw [if_neg c2] at h ⊢
  by_cases c3 : at_ l 0 = 116
  · rw [if_pos c3]
    refine ⟨by decide, ?_, ?_, ?_⟩ <;> simp only <;> omega
  rw [if_neg c3] at h ⊢
  by_cases c4 : at_ l 0 = 117 ∧ 2 ≤ l.length ∧ at_ l 1 = 123
  · rw [if_pos c4] at h ⊢
    by_cases c5 : (bracedL (l.drop 2)).2.2 = 0
    · obtain ⟨b1, b2, b3, b4⟩ := braced_ok (l.drop 2) c5
      rw [List.length_drop] at b4
      rw [if_pos c5]
      refine ⟨b1, ?_, ?_, ?_⟩ <;> simp only <;> omega
    · rw [if_neg c5] at h
      exact absurd h c5
  · rw [if_neg c4] at h
    simp at h
/-- A rune of a quoted text, read. -/
def stepL (l : List UInt8) : Int × Int × Int :=
  if l.length = 0 then (0, 0, 12) else if at_ l 0 < 32 then (0, 0, 12)
  else if (decL l).1 = 65533 ∧ (decL l).2 = 1 then (0, 0, 11)
  else if at_ l 0 = 92 then (if (escL (l.drop 1)).2.2 = 0 then ((escL (l.drop 1)).1, (escL (l.drop 1)).2.1 + 1, 0) else (0, 0, (escL (l.drop 1)).2.2))
  else (((decL l).1 : Nat), ((decL l).2 : Nat), 0)
theorem dec_92 (l : List UInt8) (h : at_ l 0 < 128) : decL l = (at_ l 0, 1) := by unfold decL; rw [if_pos h]
theorem step_ok (l : List UInt8) (h : (stepL l).2.2 = 0) : isR (stepL l).1 ∧ 1 ≤ (stepL l).2.1 ∧ (stepL l).2.1 ≤ l.length ∧ (stepL l).2.1 ≤ 11 := by
  unfold stepL at h ⊢
  by_cases c0 : l.length = 0
  · rw [if_pos c0] at h; simp at h
  rw [if_neg c0] at h ⊢
  by_cases c1 : at_ l 0 < 32
  · rw [if_pos c1] at h; simp at h
  rw [if_neg c1] at h ⊢
  by_cases c2 : (decL l).1 = 65533 ∧ (decL l).2 = 1
  · rw [if_pos c2] at h; simp at h
  rw [if_neg c2] at h ⊢
  by_cases c3 : at_ l 0 = 92
  · rw [if_pos c3] at h ⊢
    by_cases c4 : (escL (l.drop 1)).2.2 = 0
    · obtain ⟨b1, b2, b3, b4⟩ := esc_ok (l.drop 1) c4
      rw [List.length_drop] at b4
      rw [if_pos c4]
      refine ⟨b1, ?_, ?_, ?_⟩ <;> simp only <;> omega
    · rw [if_neg c4] at h
      exact absurd h c4
  · rw [if_neg c3]
    rcases dec_cases l (by intro e; rw [e] at c0; exact c0 rfl) with hd | ⟨r, hr, hd, hdr⟩
    · rw [hd] at c2
      exact absurd ⟨rfl, rfl⟩ c2
    · rw [hd]
      have hb := encB_pos r
      have hle := congrArg List.length hdr
      rw [List.length_append] at hle
      have h0 := hr.1
      refine ⟨?_, ?_, ?_, ?_⟩
      · simp only
        rw [show ((r.toNat : Nat) : Int) = r by omega]
        exact hr
      · simp only; omega
      · simp only; omega
      · simp only; omega
theorem one_text (s : ByteArray) (hs : s.size ≤ 1000000) (k : Nat) (hk : 40 ≤ k) : ∃ x, text_one.f k s = some x ∧ norm x = stepL s.data.toList := by
  obtain ⟨k, rfl⟩ : ∃ m, k = m + 2 := ⟨k - 2, by omega⟩
  have hl := list_len s
  unfold text_one.f utf8_DecodeRuneInString.f stepL
  rw [Option.bind_some]
  by_cases c : s.toList = []
  · rw [if_pos c, text_one.j0, if_pos rfl]
    rw [Lib.toList_data] at c
    rw [if_pos (by rw [c]; rfl)]
    exact ⟨_, rfl, rfl⟩
  have hp : 0 < s.size := Nat.pos_of_ne_zero fun e => c (by rw [Lib.toList_data]; exact List.eq_nil_of_length_eq_zero (by omega))
  have hb := bt_at_ s 0 hp
  rw [show ((0 : Nat) : Int) = 0 from rfl] at hb
  have hlt := at_lt s.data.toList 0
  have hdec : Lib.decodeGo s = decL s.data.toList := by
    have := go_dec s 0 hp
    rw [List.drop_zero] at this
    rw [← this]
    congr 1
    apply ByteArray.ext
    apply Array.toList_inj.1
    rw [ext_data, List.drop_zero]
  rw [if_neg c, if_pos (by omega), if_neg (by omega), hdec]
  by_cases c1 : at_ s.data.toList 0 < 32
  · rw [decide_eq_true (by omega), text_one.j0, if_pos rfl, if_pos c1]
    exact ⟨_, rfl, rfl⟩
  rw [decide_eq_false (by omega), text_one.j0, if_neg (by decide), if_neg c1]
  have hw : 1 ≤ (decL s.data.toList).2 := by
    rcases dec_cases s.data.toList (by intro e; rw [e] at hl; simp at hl; omega) with hd | ⟨r, hr, hd, hdr⟩
    · rw [hd]; exact Nat.le_refl _
    · rw [hd]; exact (encB_pos r).1
  by_cases c2 : (decL s.data.toList).1 = 65533 ∧ (decL s.data.toList).2 = 1
  · rw [if_pos (by omega), decide_eq_true (by omega), text_one.j1, if_pos rfl, if_pos c2]
    exact ⟨_, rfl, rfl⟩
  have e : (if ((decL s.data.toList).1 : Int) = 65533 then text_one.j1 (k + 1) s ((decL s.data.toList).1 : Nat) ((decL s.data.toList).2 : Nat) (decide (((decL s.data.toList).2 : Int) ≤ 1)) else text_one.j1 (k + 1) s ((decL s.data.toList).1 : Nat) ((decL s.data.toList).2 : Nat) false) = text_one.j1 (k + 1) s ((decL s.data.toList).1 : Nat) ((decL s.data.toList).2 : Nat) false := by
    split
    · rw [decide_eq_false (by omega)]
    · rfl
  rw [e, text_one.j1, if_neg (by decide), if_neg c2]
  by_cases c3 : at_ s.data.toList 0 = 92
  · have h92 := dec_92 s.data.toList (by omega)
    have hz := ext_size s 1
    rw [if_pos (by rw [h92]; simp only; omega), if_pos (by omega), if_pos c3]
    obtain ⟨⟨a, b, er⟩, hx, hn⟩ := turned_eq (s.extract 1 s.size) (by omega) k (by omega)
    rw [hx, Option.bind_some]
    rw [ext_data] at hn
    refine ⟨_, rfl, ?_⟩
    rw [← hn]
    have hq := esc_ok (s.data.toList.drop 1)
    rw [← hn] at hq
    by_cases he : er = 0
    · subst he
      rw [norm_ok a b] at hq ⊢
      have := hq rfl
      rw [if_pos rfl, norm_ok _ (wrap64 (b + 1)), show wrap64 (b + 1) = b + 1 by unfold wrap64; simp only at this; omega]
    · rw [norm_bad a b he, norm_bad _ _ he, if_neg he]
  · rw [if_neg, if_neg c3]
    · exact ⟨_, rfl, rfl⟩
    · by_cases c4 : at_ s.data.toList 0 < 128
      · rw [dec_92 _ c4]
        simp only
        omega
      · rcases dec_cases s.data.toList (by intro e; rw [e] at hl; simp at hl; omega) with hd | ⟨r, hr, hd, hdr⟩
        · rw [hd] at c2
          exact absurd ⟨rfl, rfl⟩ c2
        · rw [hd]
          simp only
          intro e92
          have h0 := hr.1
          have : r = 92 := by omega
          subst this
          rw [hdr, encB_one (by omega)] at c3
          exact c3 rfl
end Go.Proofs.YtaiegjgbdfmfpaaDoor.Pure
namespace Go.Proofs.YtaiegjgbdfmfpaaDoor.Pure
open Go.RowKit Go.Proofs.YtaiegjgbdfmfpaaDoor.GL Go.Proofs.YtaiegjgbdfmfpaaDoor.HandL Go.Proofs.YtaiegjgbdfmfpaaDoorW.PrintWords Go.Proofs.YtaiegjgbdfmfpaaDoorW.PrintLast
theorem bt_pos (s : ByteArray) (pos j : Nat) (h : pos + j < s.size) : bt s ((pos + j : Nat) : Int) = ((at_ (s.data.toList.drop pos) j : Nat) : Int) := bt_drop s pos j h
theorem escape_l0 (s : ByteArray) (hs : s.size ≤ 1000000) (pos : Nat) : ∀ (m i v k : Nat), i + m = 6 → pos + 3 + i ≤ s.size → v < 16 ^ i → ∃ k', k ≤ k' ∧
    chancelref1_escape.l0 (k + m + 4) s pos ((pos + 3 + i : Nat) : Int) v = chancelref1_escape.j3 k' s pos ((pos + 3 + (i + (hexes m (s.data.toList.drop (pos + 3 + i)) v).2) : Nat) : Int) ((hexes m (s.data.toList.drop (pos + 3 + i)) v).1 : Nat)
  | 0, i, v, k, h1, h2, h3 => by
    refine ⟨k + 3, by omega, ?_⟩
    obtain rfl : i = 6 := by omega
    show chancelref1_escape.l0 (k + 3 + 1) s pos _ v = _
    rw [chancelref1_escape.l0, hexes, show wrap64 ((pos : Int) + 9) = ((pos + 9 : Nat) : Int) by unfold wrap64; omega]
    by_cases c : ((pos + 3 + 6 : Nat) : Int) < (s.size : Int)
    · rw [if_pos c, if_neg (by omega)]
      simp only [Nat.add_zero]
    · rw [if_neg c]
      simp only [Nat.add_zero]
  | m + 1, i, v, k, h1, h2, h3 => by
    rw [show k + (m + 1) + 4 = (k + m + 4) + 1 from rfl, chancelref1_escape.l0, show wrap64 ((pos : Int) + 9) = ((pos + 9 : Nat) : Int) by unfold wrap64; omega]
    by_cases c : pos + 3 + i < s.size
    · have hd : s.data.toList.drop (pos + 3 + i) = s.data.toList[pos + 3 + i]'(by rw [Array.length_toList]; exact c) :: s.data.toList.drop (pos + 3 + i + 1) := List.drop_eq_getElem_cons _
      have hb := bt_at_ s (pos + 3 + i) c
      have hv : v < 16777216 := Nat.lt_of_lt_of_le h3 (Nat.pow_le_pow_right (by decide : 0 < 16) (show i ≤ 6 by omega))
      have ha : at_ s.data.toList (pos + 3 + i) = (s.data.toList[pos + 3 + i]'(by rw [Array.length_toList]; exact c)).toNat := by
        unfold at_
        rw [List.getD_eq_getElem?_getD, List.getElem?_eq_getElem (by rw [Array.length_toList]; exact c)]
        rfl
      have hlt := at_lt s.data.toList (pos + 3 + i)
      rw [if_pos (by omega), if_pos (by omega), if_pos (by omega), hb, ref_digit_eq _ hlt (k + m + 2), Option.bind_some, Option.bind_some]
      cases h : hexD (at_ s.data.toList (pos + 3 + i)) with
      | none =>
        have hx : hexes (m + 1) (s.data.toList.drop (pos + 3 + i)) v = (v, 0) := by
          rw [hd, hexes, ← ha, h]
        refine ⟨k + m + 4, by omega, ?_⟩
        rw [show hexI (at_ s.data.toList (pos + 3 + i)) = -1 by unfold hexI; rw [h], if_neg (by omega), hx]
        simp only [Nat.add_zero]
      | some d =>
        have hdl := hexD_lt h
        obtain ⟨k', hk, e⟩ := escape_l0 s hs pos m (i + 1) (16 * v + d) k (by omega) (by omega) (by rw [Nat.pow_succ]; omega)
        refine ⟨k', hk, ?_⟩
        have hx : hexes (m + 1) (s.data.toList.drop (pos + 3 + i)) v = ((hexes m (s.data.toList.drop (pos + 3 + (i + 1))) (16 * v + d)).1, (hexes m (s.data.toList.drop (pos + 3 + (i + 1))) (16 * v + d)).2 + 1) := by
          rw [hd, hexes, ← ha, h]
          rfl
        rw [show hexI (at_ s.data.toList (pos + 3 + i)) = (d : Int) by unfold hexI; rw [h], if_pos (by omega), wrap_digit v d hv hdl, wrap_next (pos + 3 + i) (by omega), show pos + 3 + i + 1 = pos + 3 + (i + 1) from rfl, e, hx]
        rw [show i + 1 + (hexes m (s.data.toList.drop (pos + 3 + (i + 1))) (16 * v + d)).2 = i + ((hexes m (s.data.toList.drop (pos + 3 + (i + 1))) (16 * v + d)).2 + 1) by omega]
    · have hd : s.data.toList.drop (pos + 3 + i) = [] := List.drop_of_length_le (by rw [Array.length_toList]; show s.size ≤ pos + 3 + i; omega)
      refine ⟨k + m + 4, by omega, ?_⟩
      rw [if_neg (by omega), hd, hexes]
      · rfl
theorem escape_end (s : ByteArray) (hs : s.size ≤ 1000000) (pos v n k' : Nat) (h1 : pos + 3 + n ≤ s.size) (h2 : v < 16777216) :
    chancelref1_escape.j3 (k' + 3) s pos ((pos + 3 + n : Nat) : Int) v = some (if n = 0 ∨ (s.data.toList.drop (pos + 3)).length ≤ n ∨ at_ (s.data.toList.drop (pos + 3)) n ≠ 125 then (0, 0, 12) else if isR (v : Int) then ((v : Int), ((n + 1 : Nat) : Int) + 3, 0) else (0, 0, 11)) := by
  have hl : (s.data.toList.drop (pos + 3)).length = s.size - (pos + 3) := by rw [List.length_drop, list_len]
  have bad : chancelref1_escape.j4 (k' + 2) pos ((pos + 3 + n : Nat) : Int) v true = some (0, 0, 12) := by rw [chancelref1_escape.j4, if_pos rfl]
  rw [chancelref1_escape.j3, show wrap64 ((pos : Int) + 3) = ((pos + 3 : Nat) : Int) by unfold wrap64; omega]
  by_cases c0 : n = 0
  · rw [if_pos (by omega), if_pos (.inl c0)]
    exact bad
  rw [if_neg (by omega)]
  by_cases c1 : pos + 3 + n = s.size
  · rw [if_pos (by omega), if_pos (.inr (.inl (by omega)))]
    exact bad
  rw [if_neg (by omega), if_pos (by omega), if_pos (by omega), bt_pos s (pos + 3) n (by omega)]
  by_cases c2 : at_ (s.data.toList.drop (pos + 3)) n = 125
  · rw [if_neg (by omega)]
    have : (((at_ (s.data.toList.drop (pos + 3)) n : Nat) : Int) != 125) = false := by rw [c2]; rfl
    rw [this, chancelref1_escape.j4, if_neg (by decide), show wrap32 (v : Int) = (v : Int) by unfold wrap32; omega, is_eq, Option.bind_some]
    by_cases c3 : isR (v : Int)
    · rw [if_pos (decide_eq_true c3), if_pos c3, show wrap64 (((pos + 3 + n : Nat) : Int) + 1) = ((pos + 3 + n + 1 : Nat) : Int) by unfold wrap64; omega, show wrap64 (((pos + 3 + n + 1 : Nat) : Int) - (pos : Int)) = ((n + 1 : Nat) : Int) + 3 by unfold wrap64; omega]
    · rw [if_neg (by rw [decide_eq_true_eq]; exact c3), if_neg c3]
  · have : (((at_ (s.data.toList.drop (pos + 3)) n : Nat) : Int) != 125) = true := by rw [bne_iff_ne]; omega
    rw [this, if_pos (.inr (.inr c2))]
    exact bad
/-- One place more. -/
def lift1 (e : Int × Int × Int) : Int × Int × Int := if e.2.2 = 0 then (e.1, e.2.1 + 1, 0) else (0, 0, e.2.2)
theorem escape_eq (s : ByteArray) (hs : s.size ≤ 1000000) (pos : Nat) (hp : pos < s.size) (k : Nat) (hk : 30 ≤ k) :
    chancelref1_escape.f k s pos = some (lift1 (escL (s.data.toList.drop (pos + 1)))) := by
  obtain ⟨k, rfl⟩ : ∃ m, k = m + 6 + 4 + 2 := ⟨k - 12, by omega⟩
  have hl : (s.data.toList.drop (pos + 1)).length = s.size - (pos + 1) := by rw [List.length_drop, list_len]
  unfold chancelref1_escape.f
  rw [wrap_next pos (by omega)]
  unfold escL
  by_cases c : pos + 1 = s.size
  · rw [if_pos (by omega), if_pos (show (s.data.toList.drop (pos + 1)).length = 0 by omega)]
    rfl
  rw [if_neg (by omega), if_pos (by omega), if_pos (by omega), if_neg (show ¬ (s.data.toList.drop (pos + 1)).length = 0 by omega)]
  have hb := bt_pos s (pos + 1) 0 (by omega)
  rw [Nat.add_zero] at hb
  have hlt := at_lt (s.data.toList.drop (pos + 1)) 0
  rw [hb]
  obtain ⟨c0, hc0⟩ : ∃ c0, at_ (s.data.toList.drop (pos + 1)) 0 = c0 := ⟨_, rfl⟩
  rw [hc0] at hb hlt ⊢
  by_cases c1 : c0 = 92 ∨ c0 = 34
  · have e : (if (c0 : Int) = 92 then chancelref1_escape.j0 (k + 6 + 4 + 2) s pos c0 ((c0 : Int) == 92) else chancelref1_escape.j0 (k + 6 + 4 + 2) s pos c0 ((c0 : Int) == 34)) = chancelref1_escape.j0 (k + 6 + 4 + 2) s pos c0 true := by
      split
      · next h => rw [beq_iff_eq.2 h]
      · rw [show ((c0 : Int) == 34) = true by rw [beq_iff_eq]; omega]
    rw [e, chancelref1_escape.j0, if_pos rfl, wrap_next pos (by omega), if_pos (by omega), if_pos (by omega), if_pos c1, hb, show wrap32 ((c0 : Nat) : Int) = ((c0 : Nat) : Int) by unfold wrap32; omega]
    rfl
  have e : (if (c0 : Int) = 92 then chancelref1_escape.j0 (k + 6 + 4 + 2) s pos c0 ((c0 : Int) == 92) else chancelref1_escape.j0 (k + 6 + 4 + 2) s pos c0 ((c0 : Int) == 34)) = chancelref1_escape.j0 (k + 6 + 4 + 2) s pos c0 false := by
    rw [if_neg (by omega), show ((c0 : Int) == 34) = false by rw [beq_eq_false_iff_ne]; omega]
  rw [e, chancelref1_escape.j0, if_neg (by decide), if_neg c1]
  by_cases c2 : c0 = 110
  · rw [if_pos (by omega), if_pos c2]
    rfl
  rw [if_neg (by omega), if_neg c2]
  by_cases c3 : c0 = 116
  · rw [if_pos (by omega), if_pos c3]
    rfl
  rw [if_neg (by omega), if_neg c3]
  by_cases c4 : c0 = 117
  · rw [if_pos (by omega), show wrap64 ((pos : Int) + 2) = ((pos + 2 : Nat) : Int) by unfold wrap64; omega]
    by_cases c5 : pos + 2 ≥ s.size
    · rw [if_pos (by omega), chancelref1_escape.j1, if_pos rfl, if_neg (by omega)]
      rfl
    rw [if_neg (by omega), if_pos (by omega), if_pos (by omega)]
    have hb1 := bt_pos s (pos + 1) 1 (by omega)
    rw [show pos + 1 + 1 = pos + 2 from rfl] at hb1
    rw [hb1]
    by_cases c6 : at_ (s.data.toList.drop (pos + 1)) 1 = 123
    · have h6 : (((at_ (s.data.toList.drop (pos + 1)) 1 : Nat) : Int) != 123) = false := by rw [c6]; rfl
      rw [h6, chancelref1_escape.j1, if_neg (by decide), show wrap64 ((pos : Int) + 3) = ((pos + 3 : Nat) : Int) by unfold wrap64; omega, if_pos ⟨c4, by omega, c6⟩, List.drop_drop]
      obtain ⟨k', hk', el⟩ := escape_l0 s hs pos 6 0 0 k (by omega) (by omega) (by decide)
      simp only [Nat.add_zero, Nat.zero_add] at el
      obtain ⟨k', rfl⟩ : ∃ m, k' = m + 3 := ⟨k' - 3, by omega⟩
      have h1 := hexes_len 6 (s.data.toList.drop (pos + 3)) 0
      have h2 := hexes_lt 6 (s.data.toList.drop (pos + 3)) 0 0 (by omega) (by decide)
      have hl3 : (s.data.toList.drop (pos + 3)).length = s.size - (pos + 3) := by rw [List.length_drop, list_len]
      rw [escape_end s hs pos _ _ k' (by omega) h2] at el
      rw [show ((0 : Nat) : Int) = 0 from rfl] at el
      rw [show pos + 1 + 2 = pos + 3 from rfl]
      refine el.trans (congrArg some ?_)
      unfold bracedL
      generalize hexes 6 (s.data.toList.drop (pos + 3)) 0 = p
      obtain ⟨v, n⟩ := p
      by_cases d1 : n = 0 ∨ (s.data.toList.drop (pos + 3)).length ≤ n ∨ at_ (s.data.toList.drop (pos + 3)) n ≠ 125
      · rw [if_pos d1]
        simp only [if_pos d1]
        rfl
      · rw [if_neg d1]
        simp only [if_neg d1]
        by_cases d2 : isR (v : Int)
        · simp only [if_pos d2]
          unfold lift1
          simp only [if_true]
          rw [show ((n + 1 : Nat) : Int) + 3 = ((n + 1 : Nat) : Int) + 2 + 1 by omega]
        · simp only [if_neg d2]
          rfl
    · have h6 : (((at_ (s.data.toList.drop (pos + 1)) 1 : Nat) : Int) != 123) = true := by rw [bne_iff_ne]; omega
      rw [h6, chancelref1_escape.j1, if_pos rfl, if_neg (by omega)]
      rfl
  · rw [if_neg (by omega), if_neg (by omega)]
    rfl
end Go.Proofs.YtaiegjgbdfmfpaaDoor.Pure
namespace Go.Proofs.YtaiegjgbdfmfpaaDoor.Pure
open Go.RowKit Go.Proofs.YtaiegjgbdfmfpaaDoor.GL Go.Proofs.YtaiegjgbdfmfpaaDoor.HandL Go.Proofs.YtaiegjgbdfmfpaaDoorW.PrintWords Go.Proofs.YtaiegjgbdfmfpaaDoorW.PrintLast
/-- A quoted text, read from a place on. -/
def readL : Nat → List Int → List UInt8 → Nat → ByteArray × Int × Int
  | 0, _, _, _ => ((⟨#[]⟩ : ByteArray), 0, 12)
  | f + 1, acc, l, pos => if l.length = 0 then ((⟨#[]⟩ : ByteArray), 0, 12) else if at_ l 0 = 34 then (strOfNums acc, ((pos + 1 : Nat) : Int), 0)
    else if (stepL l).2.2 = 0 then readL f (acc ++ encZ (stepL l).1) (l.drop (stepL l).2.1.toNat) (pos + (stepL l).2.1.toNat) else ((⟨#[]⟩ : ByteArray), 0, (stepL l).2.2)
theorem norm_e (x : Int × Int × Int) : (norm x).2.2 = x.2.2 := by
  unfold norm
  split <;> rfl
theorem norm_zero {x : Int × Int × Int} (h : x.2.2 = 0) : norm x = x := by unfold norm; exact if_pos h
theorem text_read_l0 (s : ByteArray) (hs : s.size ≤ 100000) : ∀ (f pos k : Nat) (acc : List Int), s.size ≤ pos + f → acc.length ≤ 4 * pos → pos ≤ s.size → 2 * f + 50 < k →
    text_Read.l0 k s acc pos = some (readL (f + 1) acc (s.data.toList.drop pos) pos) := by
  intro f
  induction f with
  | zero =>
    intro pos k acc h1 h2 h3 hk
    obtain ⟨k, rfl⟩ : ∃ m, k = m + 2 := ⟨k - 2, by omega⟩
    have hd : s.data.toList.drop pos = [] := List.drop_of_length_le (by rw [list_len]; omega)
    have hz := ext_size s pos
    obtain ⟨x, hx, hn⟩ := one_text (s.extract pos s.size) (by omega) k (by omega)
    rw [ext_data, hd] at hn
    have he : x.2.2 = 12 := by rw [← norm_e, hn]; rfl
    rw [text_Read.l0, if_pos (by omega), text_Read.j2, if_pos rfl, if_pos (by omega), if_pos (by omega), show ((pos : Int)).toNat = pos by omega, hx, Option.bind_some, if_neg (by omega), he, hd, readL, if_pos (by simp)]
  | succ f ih =>
    intro pos k acc h1 h2 h3 hk
    obtain ⟨k, rfl⟩ : ∃ m, k = m + 2 := ⟨k - 2, by omega⟩
    have hz := ext_size s pos
    have hl : (s.data.toList.drop pos).length = s.size - pos := by rw [List.length_drop, list_len]
    obtain ⟨x, hx, hn⟩ := one_text (s.extract pos s.size) (by omega) k (by omega)
    rw [ext_data] at hn
    have tail : text_Read.j2 (k + 1) s acc pos true = some (if (stepL (s.data.toList.drop pos)).2.2 = 0 then readL (f + 1) (acc ++ encZ (stepL (s.data.toList.drop pos)).1) ((s.data.toList.drop pos).drop (stepL (s.data.toList.drop pos)).2.1.toNat) (pos + (stepL (s.data.toList.drop pos)).2.1.toNat) else ((⟨#[]⟩ : ByteArray), 0, (stepL (s.data.toList.drop pos)).2.2)) := by
      rw [text_Read.j2, if_pos rfl, if_pos (by omega), if_pos (by omega), show ((pos : Int)).toNat = pos by omega, hx, Option.bind_some, ← hn, norm_e]
      have hok := step_ok (s.data.toList.drop pos)
      rw [← hn, norm_e, hl] at hok
      by_cases c : x.2.2 = 0
      · rw [norm_zero c] at hok ⊢
        obtain ⟨o1, o2, o3, o4⟩ := hok c
        have hez := encZ_len x.1
        rw [if_pos c, if_pos c, append_rune acc x.1 o1 (by omega), Option.bind_some, show wrap64 ((pos : Int) + x.2.1) = ((pos + x.2.1.toNat : Nat) : Int) by unfold wrap64; omega, List.drop_drop]
        exact ih (pos + x.2.1.toNat) k (acc ++ encZ x.1) (by omega) (by rw [List.length_append]; omega) (by omega) (by omega)
      · rw [if_neg c, if_neg c]
    rw [text_Read.l0, readL]
    by_cases c : pos < s.size
    · have hb := bt_pos s pos 0 (by omega)
      rw [Nat.add_zero] at hb
      rw [if_neg (by omega), if_pos (by omega), if_pos (by omega), hb, if_neg (show ¬ (s.data.toList.drop pos).length = 0 by omega)]
      by_cases c1 : at_ (s.data.toList.drop pos) 0 = 34
      · rw [if_pos c1, show (((at_ (s.data.toList.drop pos) 0 : Nat) : Int) != 34) = false by rw [c1]; rfl, text_Read.j2, if_neg (by decide), wrap_next pos (by omega)]
      · rw [if_neg c1, show (((at_ (s.data.toList.drop pos) 0 : Nat) : Int) != 34) = true by rw [bne_iff_ne]; omega]
        exact tail
    · have hd : s.data.toList.drop pos = [] := List.drop_of_length_le (by rw [list_len]; omega)
      rw [if_pos (by omega), tail, hd, if_pos (show ([] : List UInt8).length = 0 from rfl)]
      rfl
theorem ref_read_l0 (s : ByteArray) (hs : s.size ≤ 100000) : ∀ (f pos k : Nat) (acc : List Int), s.size ≤ pos + f → acc.length ≤ 4 * pos → pos ≤ s.size → 2 * f + 50 < k →
    chancelref1_Read.l0 k s acc pos = some (readL (f + 1) acc (s.data.toList.drop pos) pos) := by
  intro f
  induction f with
  | zero =>
    intro pos k acc h1 h2 h3 hk
    obtain ⟨k, rfl⟩ : ∃ m, k = m + 2 := ⟨k - 2, by omega⟩
    have hd : s.data.toList.drop pos = [] := List.drop_of_length_le (by rw [list_len]; omega)
    rw [chancelref1_Read.l0, if_pos (by omega), chancelref1_Read.j2, if_pos rfl, hd, readL, if_pos (by simp)]
  | succ f ih =>
    intro pos k acc h1 h2 h3 hk
    obtain ⟨k, rfl⟩ : ∃ m, k = m + 2 := ⟨k - 2, by omega⟩
    have hl : (s.data.toList.drop pos).length = s.size - pos := by rw [List.length_drop, list_len]
    rw [chancelref1_Read.l0, readL]
    by_cases c : pos < s.size
    · have hb := bt_pos s pos 0 (by omega)
      rw [Nat.add_zero] at hb
      have hlt := at_lt (s.data.toList.drop pos) 0
      have hok := step_ok (s.data.toList.drop pos)
      have hne : ¬ (s.data.toList.drop pos).length = 0 := by omega
      have go : ∀ r w : Int, isR r → 1 ≤ w → w ≤ s.size - pos → w ≤ 11 → ((chancelref1_put.f acc r).bind fun t => chancelref1_Read.l0 k s t (wrap64 ((pos : Int) + w))) = some (readL (f + 1) (acc ++ encZ r) ((s.data.toList.drop pos).drop w.toNat) (pos + w.toNat)) := by
        intro r w o1 o2 o3 o4
        have hez := encZ_len r
        rw [put_eq acc r o1 (by omega), Option.bind_some, show wrap64 ((pos : Int) + w) = ((pos + w.toNat : Nat) : Int) by unfold wrap64; omega, List.drop_drop]
        exact ih (pos + w.toNat) k (acc ++ encZ r) (by omega) (by rw [List.length_append]; omega) (by omega) (by omega)
      rw [if_neg (by omega), if_pos (by omega), if_pos (by omega), hb, if_neg hne]
      by_cases c0 : at_ (s.data.toList.drop pos) 0 < 32
      · have e : stepL (s.data.toList.drop pos) = (0, 0, 12) := by unfold stepL; rw [if_neg hne, if_pos c0]
        rw [decide_eq_true (by omega), chancelref1_Read.j2, if_pos rfl, if_neg (by omega), e, if_neg (by simp)]
      rw [decide_eq_false (by omega), chancelref1_Read.j2, if_neg (by decide), if_pos (by omega), if_pos (by omega), hb]
      by_cases c1 : at_ (s.data.toList.drop pos) 0 = 34
      · rw [if_pos c1, if_pos (by omega), wrap_next pos (by omega)]
      rw [if_neg c1, if_neg (by omega)]
      by_cases c2 : at_ (s.data.toList.drop pos) 0 = 92
      · have h92 := dec_92 (s.data.toList.drop pos) (by omega)
        have e : stepL (s.data.toList.drop pos) = lift1 (escL (s.data.toList.drop (pos + 1))) := by
          unfold stepL lift1
          rw [if_neg hne, if_neg c0, if_neg (by rw [h92]; simp only; omega), if_pos c2, List.drop_drop]
        rw [if_pos (by omega), escape_eq s (by omega) pos c k (by omega), Option.bind_some, e]
        rw [e] at hok
        by_cases c3 : (lift1 (escL (s.data.toList.drop (pos + 1)))).2.2 = 0
        · obtain ⟨o1, o2, o3, o4⟩ := hok c3
          rw [if_pos c3, if_pos c3]
          exact go _ _ o1 o2 (by omega) o4
        · rw [if_neg c3, if_neg c3]
      · rw [if_neg (by omega), one_eq s pos k c (by omega) (by omega), Option.bind_some]
        by_cases c3 : (decL (s.data.toList.drop pos)).1 = 65533 ∧ (decL (s.data.toList.drop pos)).2 = 1
        · have e : stepL (s.data.toList.drop pos) = (0, 0, 11) := by unfold stepL; rw [if_neg hne, if_neg c0, if_pos c3]
          rw [show oneL (s.data.toList.drop pos) = (0, 0) by unfold oneL; exact if_pos c3, if_pos rfl, e, if_neg (by simp)]
        · have e : stepL (s.data.toList.drop pos) = ((((decL (s.data.toList.drop pos)).1 : Nat) : Int), (((decL (s.data.toList.drop pos)).2 : Nat) : Int), 0) := by unfold stepL; rw [if_neg hne, if_neg c0, if_neg c3, if_neg c2]
          have e2 : oneL (s.data.toList.drop pos) = ((((decL (s.data.toList.drop pos)).1 : Nat) : Int), (((decL (s.data.toList.drop pos)).2 : Nat) : Int)) := by unfold oneL; exact if_neg c3
          rw [e] at hok ⊢
          obtain ⟨o1, o2, o3, o4⟩ := hok rfl
          rw [e2, if_neg (by simp only at o2; omega), if_pos rfl]
          exact go _ _ o1 o2 (by simp only at o3; omega) o4
    · have hd : s.data.toList.drop pos = [] := List.drop_of_length_le (by rw [list_len]; omega)
      rw [if_pos (by omega), chancelref1_Read.j2, if_pos rfl, hd, if_pos (by simp)]
/-- A quoted text, read. -/
def readT (l : List UInt8) : ByteArray × Int × Int := if l.length = 0 ∨ at_ l 0 ≠ 34 then ((⟨#[]⟩ : ByteArray), 0, 12) else readL l.length [] (l.drop 1) 1
theorem text_read_eq (s : ByteArray) (hs : s.size ≤ 100000) (k : Nat) (hk : 2 * s.size + 60 < k) : text_Read.f k s = some (readT s.data.toList) := by
  obtain ⟨k, rfl⟩ : ∃ m, k = m + 1 := ⟨k - 1, by omega⟩
  have hl := list_len s
  unfold text_Read.f readT
  by_cases c : s.toList = []
  · rw [if_pos c, text_Read.j0, if_pos rfl, if_pos]
    rw [Lib.toList_data] at c
    exact .inl (by rw [c]; rfl)
  have hp : 0 < s.size := Nat.pos_of_ne_zero fun e => c (by rw [Lib.toList_data]; exact List.eq_nil_of_length_eq_zero (by omega))
  have hb := bt_at_ s 0 hp
  rw [show ((0 : Nat) : Int) = 0 from rfl] at hb
  rw [if_neg c, if_pos (by omega), hb]
  by_cases c1 : at_ s.data.toList 0 = 34
  · rw [show (((at_ s.data.toList 0 : Nat) : Int) != 34) = false by rw [c1]; rfl, text_Read.j0, if_neg (by decide), if_neg (by omega)]
    have := text_read_l0 s hs (s.size - 1) 1 k [] (by omega) (by simp) (by omega) (by omega)
    rw [show ((1 : Nat) : Int) = 1 from rfl, show s.size - 1 + 1 = s.data.toList.length by omega] at this
    exact this
  · rw [show (((at_ s.data.toList 0 : Nat) : Int) != 34) = true by rw [bne_iff_ne]; omega, text_Read.j0, if_pos rfl, if_pos (.inr c1)]
theorem ref_read_eq (s : ByteArray) (hs : s.size ≤ 100000) (k : Nat) (hk : 2 * s.size + 60 < k) : chancelref1_Read.f k s = some (readT s.data.toList) := by
  obtain ⟨k, rfl⟩ : ∃ m, k = m + 1 := ⟨k - 1, by omega⟩
  have hl := list_len s
  unfold chancelref1_Read.f readT
  by_cases c : s.size = 0
  · rw [if_pos (by omega), chancelref1_Read.j0, if_pos rfl, if_pos (.inl (by omega))]
  have hb := bt_at_ s 0 (by omega)
  rw [show ((0 : Nat) : Int) = 0 from rfl] at hb
  rw [if_neg (by omega), if_pos (by omega), hb]
  by_cases c1 : at_ s.data.toList 0 = 34
  · rw [show (((at_ s.data.toList 0 : Nat) : Int) != 34) = false by rw [c1]; rfl, chancelref1_Read.j0, if_neg (by decide), if_neg (by omega)]
    have := ref_read_l0 s hs (s.size - 1) 1 k [] (by omega) (by simp) (by omega) (by omega)
    rw [show ((1 : Nat) : Int) = 1 from rfl, show s.size - 1 + 1 = s.data.toList.length by omega] at this
    exact this
  · rw [show (((at_ s.data.toList 0 : Nat) : Int) != 34) = true by rw [bne_iff_ne]; omega, chancelref1_Read.j0, if_pos rfl, if_pos (.inr c1)]
end Go.Proofs.YtaiegjgbdfmfpaaDoor.Pure
namespace Go.Proofs.YtaiegjgbdfmfpaaDoor.Pure
open Go.RowKit Go.Proofs.YtaiegjgbdfmfpaaDoor.GL Go.Proofs.YtaiegjgbdfmfpaaDoor.HandL Go.Proofs.YtaiegjgbdfmfpaaDoorW.PrintWords Go.Proofs.YtaiegjgbdfmfpaaDoorW.PrintLast
/-! ### what was quoted is read -/
theorem at_cons (c : UInt8) (l : List UInt8) : at_ (c :: l) 0 = c.toNat := rfl
theorem step_ctl (h : UInt8) (rest : List UInt8) (d : Nat) (hd : hexD h.toNat = some d) : stepL ([92, 117, 123] ++ [h] ++ [125] ++ rest) = ((d : Int), 5, 0) := by
  have hdl := hexD_lt hd
  have e1 : hexes 6 (h :: 125 :: rest) 0 = (d, 1) := by
    rw [hexes, hd]
    simp only [Nat.mul_zero, Nat.zero_add]
    rw [hexes, show hexD (125 : UInt8).toNat = none by decide]
  have e2 : bracedL (h :: 125 :: rest) = ((d : Int), 2, 0) := by
    unfold bracedL
    rw [e1]
    simp only
    rw [if_neg (by rw [at_succ, at_zero]; simp), if_pos ⟨by omega, by omega, by omega⟩]
    rfl
  have e3 : escL (117 :: 123 :: h :: 125 :: rest) = ((d : Int), 4, 0) := by
    unfold escL
    rw [if_neg (by simp), if_neg (by rw [at_zero]; decide), if_neg (by rw [at_zero]; decide), if_neg (by rw [at_zero]; decide), if_pos ⟨by rw [at_zero]; rfl, by simp, by rw [at_succ, at_zero]; rfl⟩]
    rw [show (117 :: 123 :: h :: 125 :: rest).drop 2 = h :: 125 :: rest from rfl, e2, if_pos rfl]
    rfl
  unfold stepL
  rw [if_neg (by simp), if_neg (by show ¬ (92 : UInt8).toNat < 32; decide), if_neg (by rw [dec_92 _ (by show (92 : UInt8).toNat < 128; decide)]; simp only; intro e; exact absurd e.1 (by show ¬ (92 : UInt8).toNat = 65533; decide)), if_pos (by rfl)]
  rw [show List.drop 1 ([92, 117, 123] ++ [h] ++ [125] ++ rest) = 117 :: 123 :: h :: 125 :: rest from rfl, e3, if_pos rfl]
  rfl
theorem step_ctl2 (g h : UInt8) (rest : List UInt8) (c d : Nat) (hc : hexD g.toNat = some c) (hd : hexD h.toNat = some d) : stepL ([92, 117, 123] ++ [g, h] ++ [125] ++ rest) = (((16 * c + d : Nat) : Int), 6, 0) := by
  have hcl := hexD_lt hc
  have hdl := hexD_lt hd
  have e1 : hexes 6 (g :: h :: 125 :: rest) 0 = (16 * c + d, 2) := by
    rw [hexes, hc]
    simp only [Nat.mul_zero, Nat.zero_add]
    rw [hexes, hd]
    simp only
    rw [hexes, show hexD (125 : UInt8).toNat = none by decide]
  have e2 : bracedL (g :: h :: 125 :: rest) = (((16 * c + d : Nat) : Int), 3, 0) := by
    unfold bracedL
    rw [e1]
    simp only
    rw [if_neg (by rw [at_succ, at_succ, at_zero]; simp), if_pos ⟨by omega, by omega, by omega⟩]
    rfl
  have e3 : escL (117 :: 123 :: g :: h :: 125 :: rest) = (((16 * c + d : Nat) : Int), 5, 0) := by
    unfold escL
    rw [if_neg (by simp), if_neg (by rw [at_zero]; decide), if_neg (by rw [at_zero]; decide), if_neg (by rw [at_zero]; decide), if_pos ⟨by rw [at_zero]; rfl, by simp, by rw [at_succ, at_zero]; rfl⟩]
    rw [show (117 :: 123 :: g :: h :: 125 :: rest).drop 2 = g :: h :: 125 :: rest from rfl, e2, if_pos rfl]
    rfl
  unfold stepL
  rw [if_neg (by simp), if_neg (by show ¬ (92 : UInt8).toNat < 32; decide), if_neg (by rw [dec_92 _ (by show (92 : UInt8).toNat < 128; decide)]; simp only; intro e; exact absurd e.1 (by show ¬ (92 : UInt8).toNat = 65533; decide)), if_pos (by rfl)]
  rw [show List.drop 1 ([92, 117, 123] ++ [g, h] ++ [125] ++ rest) = 117 :: 123 :: g :: h :: 125 :: rest from rfl, e3, if_pos rfl]
  rfl
theorem step_two (c : UInt8) (r : Int) (rest : List UInt8) (h : escL (c :: rest) = (r, 1, 0)) : stepL (92 :: c :: rest) = (r, 2, 0) := by
  unfold stepL
  rw [if_neg (by simp), if_neg (by show ¬ (92 : UInt8).toNat < 32; decide), if_neg (by rw [dec_92 _ (by show (92 : UInt8).toNat < 128; decide)]; simp only; intro e; exact absurd e.1 (by show ¬ (92 : UInt8).toNat = 65533; decide)), if_pos (by rfl)]
  rw [show (92 :: c :: rest).drop 1 = c :: rest from rfl, h, if_pos rfl]
  rfl
theorem hexD_hx : ∀ n : Fin 16, hexD (hx n.val).toNat = some n.val := by decide +kernel
theorem step_shown (r : Int) (hr : isR r) (rest : List UInt8) : stepL (shownL r ++ rest) = (r, ((shownL r).length : Int), 0) ∧ at_ (shownL r ++ rest) 0 ≠ 34 := by
  obtain ⟨h0, h1, h2⟩ := hr
  unfold shownL
  by_cases c1 : r = 92
  · subst c1
    rw [if_pos rfl]
    exact ⟨step_two 92 92 rest (by unfold escL; rw [if_neg (by simp), if_pos (.inl rfl)]; rfl), by show ¬ (92 : UInt8).toNat = 34; decide⟩
  rw [if_neg c1]
  by_cases c2 : r = 34
  · subst c2
    rw [if_pos rfl]
    exact ⟨step_two 34 34 rest (by unfold escL; rw [if_neg (by simp), if_pos (.inr rfl)]; rfl), by show ¬ (92 : UInt8).toNat = 34; decide⟩
  rw [if_neg c2]
  by_cases c3 : r = 10
  · subst c3
    rw [if_pos rfl]
    exact ⟨step_two 110 10 rest (by unfold escL; rw [if_neg (by simp), if_neg (by rw [at_zero]; decide), if_pos (show at_ ((110 : UInt8) :: rest) 0 = 110 from rfl)]), by show ¬ (92 : UInt8).toNat = 34; decide⟩
  rw [if_neg c3]
  by_cases c4 : r = 9
  · subst c4
    rw [if_pos rfl]
    exact ⟨step_two 116 9 rest (by unfold escL; rw [if_neg (by simp), if_neg (by rw [at_zero]; decide), if_neg (by rw [at_zero]; decide), if_pos (show at_ ((116 : UInt8) :: rest) 0 = 116 from rfl)]), by show ¬ (92 : UInt8).toNat = 34; decide⟩
  rw [if_neg c4]
  by_cases c5 : r < 32 ∨ r = 127
  · rw [if_pos c5]
    obtain ⟨n, rfl⟩ : ∃ n : Nat, r = n := ⟨r.toNat, by omega⟩
    rw [show ((n : Int)).toNat = n by omega]
    unfold hexL
    by_cases c6 : n < 16
    · rw [if_pos c6, step_ctl _ rest n (hexD_hx ⟨n, c6⟩)]
      exact ⟨rfl, by show ¬ (92 : UInt8).toNat = 34; decide⟩
    · rw [if_neg c6, step_ctl2 _ _ rest (n / 16) (n % 16) (hexD_hx ⟨n / 16, by omega⟩) (hexD_hx ⟨n % 16, by omega⟩), show 16 * (n / 16) + n % 16 = n by omega]
      exact ⟨rfl, by show ¬ (92 : UInt8).toNat = 34; decide⟩
  · rw [if_neg c5, encode_eq r ⟨h0, h1, h2⟩]
    have hd := dec_enc r ⟨h0, h1, h2⟩ rest
    have hb := encB_pos r
    have hat : (r < 128 → at_ (encB r ++ rest) 0 = r.toNat) ∧ (¬ r < 128 → 128 ≤ at_ (encB r ++ rest) 0) := by
      constructor
      · intro c
        rw [encB_one c]
        show (UInt8.ofNat r.toNat).toNat = r.toNat
        rw [tn _ (by omega)]
      · intro c
        by_cases d2 : r < 2048
        · rw [encB_two c d2]
          show 128 ≤ (UInt8.ofNat _).toNat
          rw [tn _ (by omega)]; omega
        by_cases d3 : r < 65536
        · rw [encB_three c d2 d3]
          show 128 ≤ (UInt8.ofNat _).toNat
          rw [tn _ (by omega)]; omega
        · rw [encB_four c d2 d3]
          show 128 ≤ (UInt8.ofNat _).toNat
          rw [tn _ (by omega)]; omega
    have hn : ¬ ((65533 : Nat) = r.toNat ∧ (encB r).length = 1) := fun e => enc_not_bad r (by rw [← e.1, e.2])
    have h34 : at_ (encB r ++ rest) 0 ≠ 34 ∧ at_ (encB r ++ rest) 0 ≠ 92 ∧ ¬ at_ (encB r ++ rest) 0 < 32 := by
      by_cases c : r < 128
      · have := hat.1 c; omega
      · have := hat.2 c; omega
    refine ⟨?_, h34.1⟩
    unfold stepL
    rw [if_neg (by rw [List.length_append]; omega), if_neg h34.2.2, hd, if_neg (by simp only; omega), if_neg h34.2.1]
    simp only
    rw [show ((r.toNat : Nat) : Int) = r by omega]
theorem shown_pos (r : Int) (hr : isR r) : 1 ≤ (shownL r).length := by
  have h := step_ok (shownL r ++ []) (by rw [(step_shown r hr []).1])
  rw [(step_shown r hr []).1] at h
  have := h.2.1
  simp only at this
  omega
theorem read_shown : ∀ (rs : List Int) (rest : List UInt8) (f pos : Nat) (acc : List Int), (∀ r ∈ rs, isR r) → rs.length < f →
    readL f acc (showsL rs ++ 34 :: rest) pos = (strOfNums (acc ++ encN rs), ((pos + (showsL rs).length + 1 : Nat) : Int), 0)
  | [], rest, f, pos, acc, _, hf => by
    obtain ⟨f, rfl⟩ : ∃ m, f = m + 1 := ⟨f - 1, by omega⟩
    rw [readL, if_neg (by simp), if_pos (by rfl)]
    simp [encN, showsL]
  | r :: rs, rest, f, pos, acc, hr, hf => by
    obtain ⟨f, rfl⟩ : ∃ m, f = m + 1 := ⟨f - 1, by omega⟩
    obtain ⟨e1, e2⟩ := step_shown r (hr r (by simp)) (showsL rs ++ 34 :: rest)
    have hp := shown_pos r (hr r (by simp))
    rw [showsL, List.append_assoc, readL, if_neg (by rw [List.length_append]; omega), if_neg e2, e1, if_pos rfl]
    simp only
    rw [show (((shownL r).length : Nat) : Int).toNat = (shownL r).length by omega, List.drop_left,
      read_shown rs rest f (pos + (shownL r).length) (acc ++ encZ r) (fun x hx => hr x (by simp [hx])) (by simp only [List.length_cons] at hf; omega), encN, List.append_assoc, List.length_append]
    rw [show pos + (shownL r).length + (showsL rs).length + 1 = pos + ((shownL r).length + (showsL rs).length) + 1 by omega]
theorem read_quoted (rs : List Int) (hr : ∀ r ∈ rs, isR r) (rest : List UInt8) : readT (34 :: (showsL rs ++ [34]) ++ rest) = (txt rs, (((showsL rs).length + 2 : Nat) : Int), 0) := by
  unfold readT
  have hl : rs.length ≤ (showsL rs).length := by
    clear rest
    induction rs with
    | nil => exact Nat.zero_le _
    | cons r rs ih =>
      have h1 := shown_pos r (hr r (by simp))
      have h2 := ih (fun x hx => hr x (by simp [hx]))
      rw [showsL, List.length_append, List.length_cons]
      omega
  rw [if_neg (by simp [at_]), show List.drop 1 (34 :: (showsL rs ++ [34]) ++ rest) = showsL rs ++ 34 :: rest by simp, read_shown rs rest _ 1 [] hr (by simp; omega), List.nil_append, str_enc]
  rw [show 1 + (showsL rs).length + 1 = (showsL rs).length + 2 by omega]
/-! ### the reference's quoting -/
/-- A byte as it is quoted. -/
def showB (c : UInt8) : List UInt8 := if c = 92 ∨ c = 34 then [92, c] else if c = 10 then [92, 110] else if c = 9 then [92, 116] else if c.toNat < 32 ∨ c = 127 then [92, 117, 123] ++ hexL c.toNat ++ [125] else [c]
def showBs : List UInt8 → List UInt8
  | [] => []
  | c :: l => showB c ++ showBs l
theorem showBs_app : ∀ a b, showBs (a ++ b) = showBs a ++ showBs b
  | [], _ => rfl
  | c :: l, b => by simp only [List.cons_append, showBs, showBs_app l b, List.append_assoc]
theorem showB_len (c : UInt8) : (showB c).length ≤ 6 := by
  unfold showB hexL
  split
  · simp
  split
  · simp
  split
  · simp
  split
  · split <;> simp
  · simp
theorem showBs_high : ∀ l : List UInt8, (∀ c ∈ l, 128 ≤ c.toNat) → showBs l = l
  | [], _ => rfl
  | c :: l, h => by
    have hc := h c (by simp)
    have e : showB c = [c] := by
      unfold showB
      have n1 : ¬ (c = 92 ∨ c = 34) := by rintro (rfl | rfl) <;> exact absurd hc (by decide)
      have n2 : ¬ c = 10 := by rintro rfl; exact absurd hc (by decide)
      have n3 : ¬ c = 9 := by rintro rfl; exact absurd hc (by decide)
      have n4 : ¬ (c.toNat < 32 ∨ c = 127) := by
        rintro (h4 | rfl)
        · omega
        · exact absurd hc (by decide)
      rw [if_neg n1, if_neg n2, if_neg n3, if_neg n4]
    rw [showBs, e, showBs_high l (fun x hx => h x (by simp [hx]))]
    rfl
theorem byte_one (r : Int) (h0 : 0 ≤ r) (h : r < 128) : showB (UInt8.ofNat r.toNat) = shownL r := by
  have key : ∀ n : Fin 128, showB (UInt8.ofNat n.val) = shownL (n.val : Int) := by decide +kernel
  have := key ⟨r.toNat, by omega⟩
  simp only at this
  rw [this, show ((r.toNat : Nat) : Int) = r by omega]
theorem showBs_enc (r : Int) (hr : isR r) : showBs (encB r) = shownL r := by
  by_cases c : r < 128
  · rw [encB_one c, ← byte_one r hr.1 c]
    simp [showBs]
  · obtain ⟨h0, h1, h2⟩ := hr
    have e : shownL r = encB r := by
      unfold shownL
      rw [if_neg (by omega), if_neg (by omega), if_neg (by omega), if_neg (by omega), if_neg (by omega), encode_eq r ⟨h0, h1, h2⟩]
    rw [e]
    refine showBs_high _ fun x hx => ?_
    by_cases d2 : r < 2048
    · rw [encB_two c d2] at hx
      simp only [List.mem_cons, List.mem_nil_iff, or_false] at hx
      rcases hx with rfl | rfl <;> (rw [tn _ (by omega)]; omega)
    by_cases d3 : r < 65536
    · rw [encB_three c d2 d3] at hx
      simp only [List.mem_cons, List.mem_nil_iff, or_false] at hx
      rcases hx with rfl | rfl | rfl <;> (rw [tn _ (by omega)]; omega)
    · rw [encB_four c d2 d3] at hx
      simp only [List.mem_cons, List.mem_nil_iff, or_false] at hx
      rcases hx with rfl | rfl | rfl | rfl <;> (rw [tn _ (by omega)]; omega)
theorem showBs_encA : ∀ rs : List Int, (∀ r ∈ rs, isR r) → showBs (encA rs) = showsL rs
  | [], _ => rfl
  | r :: rs, h => by rw [encA, showBs_app, showBs_enc r (h r (by simp)), showBs_encA rs (fun x hx => h x (by simp [hx])), showsL]
end Go.Proofs.YtaiegjgbdfmfpaaDoor.Pure
namespace Go.Proofs.YtaiegjgbdfmfpaaDoor.Pure
open Go.RowKit Go.Proofs.YtaiegjgbdfmfpaaDoor.GL Go.Proofs.YtaiegjgbdfmfpaaDoor.HandL Go.Proofs.YtaiegjgbdfmfpaaDoorW.PrintWords Go.Proofs.YtaiegjgbdfmfpaaDoorW.PrintLast
/-- Bytes as a text. -/
def mk (a : List UInt8) : ByteArray := ⟨a.toArray⟩
theorem mk_size (a : List UInt8) : (mk a).size = a.length := by show a.toArray.size = _; simp
theorem mk_data (a : List UInt8) : (mk a).data.toList = a := rfl
theorem mk_app (a b : List UInt8) : mk a ++ mk b = mk (a ++ b) := by
  apply ByteArray.ext
  apply Array.toList_inj.1
  rw [Go.Joins.data_append]
  rfl
theorem mk_of (s : ByteArray) (a : List UInt8) (h : s.data.toList = a) : s = mk a := by
  apply ByteArray.ext
  apply Array.toList_inj.1
  rw [h]
  rfl
theorem hex_cut : ∀ n : Fin 16, (⟨#[48, 49, 50, 51, 52, 53, 54, 55, 56, 57, 97, 98, 99, 100, 101, 102]⟩ : ByteArray).extract n.val (n.val + 1) = mk [hx n.val] := by decide +kernel
theorem hex_one (n : Nat) (h : n < 16) (k : Nat) : chancelref1_hex.f (k + 1) (n : Int) = some (mk [hx n]) := by
  rw [chancelref1_hex.f, if_neg (by omega), wrap_next n (by omega), if_pos (by omega), if_pos (by omega), if_pos (by omega), show ((n : Int)).toNat = n by omega, show (((n + 1 : Nat) : Int)).toNat = n + 1 by omega, hex_cut ⟨n, h⟩]
theorem hex_any (n : Nat) (h : n < 256) (k : Nat) : chancelref1_hex.f (k + 2) (n : Int) = some (mk (hexL n)) := by
  unfold hexL
  by_cases c : n < 16
  · rw [if_pos c]
    exact hex_one n c (k + 1)
  · rw [if_neg c, chancelref1_hex.f, if_pos (by omega), show Int.tdiv (n : Int) 16 = ((n / 16 : Nat) : Int) from rfl, show Int.tmod (n : Int) 16 = ((n % 16 : Nat) : Int) from rfl, show wrap64 ((n / 16 : Nat) : Int) = ((n / 16 : Nat) : Int) by unfold wrap64; omega,
      hex_one (n / 16) (by omega) k, hex_one (n % 16) (by omega) k, Option.bind_some, Option.bind_some, mk_size, mk_size, if_pos (by simp), mk_app]
    rfl
theorem one_byte (s : ByteArray) (pos : Nat) (c : UInt8) (t : List UInt8) (h : s.data.toList.drop pos = c :: t) : s.extract pos (pos + 1) = mk [c] := by
  refine mk_of _ _ ?_
  rw [Lib.extract_data, h, show pos + 1 - pos = 1 by omega]
  rfl
theorem refq_l0 (s : ByteArray) (hs : s.size ≤ 100000) : ∀ (d pos k : Nat) (a : List UInt8), s.size - pos = d → pos ≤ s.size → a.length ≤ 1 + 6 * pos → 2 * d + 20 < k →
    chancelref1_Quote.l0 k s (mk a) pos = some (mk (a ++ showBs (s.data.toList.drop pos) ++ [34])) := by
  intro d
  induction d with
  | zero =>
    intro pos k a h1 h2 h3 hk
    obtain ⟨k, rfl⟩ : ∃ m, k = m + 1 := ⟨k - 1, by omega⟩
    have hd : s.data.toList.drop pos = [] := List.drop_of_length_le (by rw [list_len]; omega)
    rw [chancelref1_Quote.l0, if_neg (by omega), mk_size, if_pos (by omega), show (⟨#[34]⟩ : ByteArray) = mk [34] from rfl, mk_app, hd, showBs, List.append_nil]
  | succ d ih =>
    intro pos k a h1 h2 h3 hk
    obtain ⟨k, rfl⟩ : ∃ m, k = m + 2 := ⟨k - 2, by omega⟩
    have hp : pos < s.size := by omega
    obtain ⟨c, t, hd⟩ : ∃ c t, s.data.toList.drop pos = c :: t := ⟨_, _, List.drop_eq_getElem_cons (by rw [list_len]; exact hp)⟩
    have hd2 : s.data.toList.drop (pos + 1) = t := by rw [← List.drop_drop, hd]; rfl
    have hb := bt_pos s pos 0 (by omega)
    rw [Nat.add_zero, hd, at_zero] at hb
    have hlt := c.toNat_lt
    have hx : s.extract ((pos : Int)).toNat (wrap64 ((pos : Int) + 1)).toNat = mk [c] := by
      rw [wrap_next pos (by omega), show ((pos : Int)).toNat = pos by omega, show (((pos + 1 : Nat) : Int)).toNat = pos + 1 by omega]
      exact one_byte s pos c t hd
    have go : ∀ b : List UInt8, b = showB c → chancelref1_Quote.l0 k s (mk (a ++ b)) (wrap64 ((pos : Int) + 1)) = some (mk (a ++ showBs (s.data.toList.drop pos) ++ [34])) := by
      intro b hb
      have hlen := showB_len c
      subst hb
      rw [wrap_next pos (by omega), ih (pos + 1) k (a ++ showB c) (by omega) (by omega) (by rw [List.length_append]; omega) (by omega), hd, hd2, showBs, List.append_assoc, List.append_assoc, List.append_assoc, List.append_assoc]
    have e92 : (c = 92) ↔ c.toNat = 92 := by rw [← UInt8.toNat_inj]; rfl
    have e34 : (c = 34) ↔ c.toNat = 34 := by rw [← UInt8.toNat_inj]; rfl
    have e10 : (c = 10) ↔ c.toNat = 10 := by rw [← UInt8.toNat_inj]; rfl
    have e9 : (c = 9) ↔ c.toNat = 9 := by rw [← UInt8.toNat_inj]; rfl
    have e127 : (c = 127) ↔ c.toNat = 127 := by rw [← UInt8.toNat_inj]; rfl
    rw [chancelref1_Quote.l0, if_pos (by omega), if_pos (by omega), hb]
    by_cases c1 : c = 92 ∨ c = 34
    · have c1p : c.toNat = 92 ∨ c.toNat = 34 := c1.imp e92.1 e34.1
      have e : (if (c.toNat : Int) = 92 then chancelref1_Quote.j1 (k + 1) s (mk a) pos c.toNat true else chancelref1_Quote.j1 (k + 1) s (mk a) pos c.toNat ((c.toNat : Int) == 34)) = chancelref1_Quote.j1 (k + 1) s (mk a) pos c.toNat true := by
        split
        · rfl
        · rw [show ((c.toNat : Int) == 34) = true by rw [beq_iff_eq]; omega]
      rw [e, chancelref1_Quote.j1, if_pos rfl, mk_size, if_pos (by omega), if_pos (by omega), if_pos (by rw [wrap_next pos (by omega)]; omega), if_pos (by rw [wrap_next pos (by omega)]; omega), hx, show (⟨#[92]⟩ : ByteArray) = mk [92] from rfl, mk_app, mk_size, mk_size, if_pos (by simp; omega), mk_app, List.append_assoc]
      exact go _ (by unfold showB; rw [if_pos c1]; rfl)
    have c1n : c.toNat ≠ 92 ∧ c.toNat ≠ 34 := ⟨fun h => c1 (.inl (e92.2 h)), fun h => c1 (.inr (e34.2 h))⟩
    have e : (if (c.toNat : Int) = 92 then chancelref1_Quote.j1 (k + 1) s (mk a) pos c.toNat true else chancelref1_Quote.j1 (k + 1) s (mk a) pos c.toNat ((c.toNat : Int) == 34)) = chancelref1_Quote.j1 (k + 1) s (mk a) pos c.toNat false := by
      rw [if_neg (by omega), show ((c.toNat : Int) == 34) = false by rw [beq_eq_false_iff_ne]; omega]
    rw [e, chancelref1_Quote.j1, if_neg (by decide)]
    by_cases c2 : c = 10
    · have c2p := e10.1 c2
      rw [if_pos (by omega), mk_size, if_pos (by omega), show (⟨#[92, 110]⟩ : ByteArray) = mk [92, 110] from rfl, mk_app]
      exact go _ (by unfold showB; rw [if_neg c1, if_pos c2])
    have c2n : c.toNat ≠ 10 := fun h => c2 (e10.2 h)
    rw [if_neg (by omega)]
    by_cases c3 : c = 9
    · have c3p := e9.1 c3
      rw [if_pos (by omega), mk_size, if_pos (by omega), show (⟨#[92, 116]⟩ : ByteArray) = mk [92, 116] from rfl, mk_app]
      exact go _ (by unfold showB; rw [if_neg c1, if_neg c2, if_pos c3])
    have c3n : c.toNat ≠ 9 := fun h => c3 (e9.2 h)
    rw [if_neg (by omega)]
    have hex : ∀ (h : c.toNat < 32 ∨ c = 127), (if (mk a).size + 3 ≤ 9223372036854775807 then ((chancelref1_hex.f k (wrap64 (c.toNat : Int))).bind fun t239 => (if (mk a ++ (⟨#[92, 117, 123]⟩ : ByteArray)).size + t239.size ≤ 9223372036854775807 then (if ((mk a ++ (⟨#[92, 117, 123]⟩ : ByteArray)) ++ t239).size + 1 ≤ 9223372036854775807 then (chancelref1_Quote.l0 k s (((mk a ++ (⟨#[92, 117, 123]⟩ : ByteArray)) ++ t239) ++ (⟨#[125]⟩ : ByteArray)) (wrap64 ((pos : Int) + 1))) else (none)) else (none))) else (none)) = some (mk (a ++ showBs (s.data.toList.drop pos) ++ [34])) := by
      intro h
      obtain ⟨k2, hk2⟩ : ∃ m, k = m + 2 := ⟨k - 2, by omega⟩
      have hh : chancelref1_hex.f k (c.toNat : Int) = some (mk (hexL c.toNat)) := by rw [hk2]; exact hex_any c.toNat hlt k2
      have hlen : (hexL c.toNat).length ≤ 2 := by unfold hexL; split <;> simp
      rw [mk_size, if_pos (by omega), show wrap64 (c.toNat : Int) = (c.toNat : Int) by unfold wrap64; omega, hh, Option.bind_some, show (⟨#[92, 117, 123]⟩ : ByteArray) = mk [92, 117, 123] from rfl, show (⟨#[125]⟩ : ByteArray) = mk [125] from rfl, mk_app, mk_app, mk_app, mk_size, mk_size, mk_size,
        if_pos (by simp; omega), if_pos (by simp; omega), List.append_assoc, List.append_assoc]
      exact go _ (by unfold showB; rw [if_neg c1, if_neg c2, if_neg c3, if_pos h, List.append_assoc])
    by_cases c4 : c.toNat < 32
    · rw [if_pos (by omega)]
      exact hex (.inl c4)
    rw [if_neg (by omega)]
    by_cases c5 : c = 127
    · have c5p := e127.1 c5
      rw [if_pos (by omega)]
      exact hex (.inr c5)
    have c5n : c.toNat ≠ 127 := fun h => c5 (e127.2 h)
    rw [if_neg (by omega), if_pos (by omega), if_pos (by rw [wrap_next pos (by omega)]; omega), if_pos (by rw [wrap_next pos (by omega)]; omega), hx, mk_size, mk_size, if_pos (by simp; omega), mk_app]
    exact go _ (by unfold showB; rw [if_neg c1, if_neg c2, if_neg c3, if_neg (by rintro (h | h); exact c4 h; exact c5 h)])
theorem refq_txt (rs : List Int) (hr : ∀ r ∈ rs, isR r) (hl : rs.length ≤ 1000) (k : Nat) (hk : 20000 ≤ k) : chancelref1_Quote.f k (txt rs) = some (qtd rs) := by
  have z := encA_len rs
  have hsz := txt_size rs
  unfold chancelref1_Quote.f
  have h := refq_l0 (txt rs) (by omega) (txt rs).size 0 k [34] (by omega) (by omega) (by simp) (by omega)
  rw [show ((0 : Nat) : Int) = 0 from rfl, List.drop_zero, show (txt rs).data.toList = encA rs from rfl, showBs_encA rs hr] at h
  exact h
end Go.Proofs.YtaiegjgbdfmfpaaDoor.Pure
