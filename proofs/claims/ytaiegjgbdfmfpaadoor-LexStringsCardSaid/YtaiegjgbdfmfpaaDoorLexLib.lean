import Derived.Test.YtaiegjgbdfmfpaaDoorGL1
import Derived.Test.YtaiegjgbdfmfpaaDoorGL2
import Derived.Laws.Bits64b
import Derived.Lib.SmallJoins
import Derived.Lib.Bytes
import Derived.Lib.SlBytesRow
/-! Blanks and remarks, names and numbers, on rows of bytes. -/
namespace Go.Proofs.YtaiegjgbdfmfpaaDoor.Pure
open Go.RowKit Go.Proofs.YtaiegjgbdfmfpaaDoor.GL Go.Proofs.YtaiegjgbdfmfpaaDoor.HandL Go.Proofs.YtaiegjgbdfmfpaaDoorW.PrintWords Go.Proofs.YtaiegjgbdfmfpaaDoorW.PrintLast
theorem lx_len (s : ByteArray) : s.data.toList.length = s.size := by rw [Array.length_toList]; rfl
theorem lx_ext (s : ByteArray) (i : Nat) : (s.extract i s.size).data.toList = s.data.toList.drop i := by
  rw [Lib.extract_data, List.take_of_length_le (by rw [List.length_drop, Array.length_toList]; exact Nat.le_refl _)]
theorem lx_take (s : ByteArray) (i j : Nat) : (s.extract i j).data.toList = (s.data.toList.drop i).take (j - i) := Lib.extract_data s i j
theorem lx_next (i : Nat) (hi : i < 1000000000) : wrap64 ((i : Int) + 1) = ((i + 1 : Nat) : Int) := by unfold wrap64; omega
theorem lx_prefix (s p : ByteArray) (hp : p.size ≤ 1000000) : strings_HasPrefix.f s p = some (s.data.toList.take p.data.toList.length == p.data.toList) := by
  unfold strings_HasPrefix.f stringslite_HasPrefix.f
  have hl := lx_len s
  have hq := lx_len p
  by_cases c : p.size ≤ s.size
  · rw [if_pos (by omega), if_pos (by omega), if_pos (by omega), Option.bind_some, Lib.toList_data, Lib.toList_data, Lib.extract_data, List.drop_zero, hq]
    rfl
  · rw [if_neg (by omega), Option.bind_some]
    congr 1
    rw [eq_comm, beq_eq_false_iff_ne]
    intro h
    have := congrArg List.length h
    rw [List.length_take] at this
    omega
/-- Is the byte a blank? -/
def isBl (c : UInt8) : Bool := c == 32 || c == 9 || c == 10 || c == 13
theorem isBl_eq (c : UInt8) : decide (0 ≤ Lib.indexByte [32, 9, 10, 13] c) = isBl c := by
  have h : ∀ x : Fin 256, decide (0 ≤ Lib.indexByte [32, 9, 10, 13] (UInt8.ofNat x.val)) = isBl (UInt8.ofNat x.val) := by decide +kernel
  have := h ⟨c.toNat, c.toNat_lt⟩
  simpa using this
theorem idx_none : ∀ (l : List UInt8) (c : UInt8), c ∉ l → Lib.indexByte l c = -1
  | [], _, _ => rfl
  | b :: l, c, h => by
    rw [List.mem_cons, not_or] at h
    unfold Lib.indexByte
    rw [if_neg (by rw [beq_iff_eq]; exact fun e => h.1 e.symm), idx_none l c h.2]
    rfl
theorem idx_at : ∀ (l r : List UInt8) (c : UInt8), c ∉ l → Lib.indexByte (l ++ c :: r) c = l.length
  | [], r, c, _ => by
    show Lib.indexByte (c :: r) c = 0
    unfold Lib.indexByte
    rw [if_pos (beq_self_eq_true c)]
  | b :: l, r, c, h => by
    rw [List.mem_cons, not_or] at h
    show Lib.indexByte (b :: (l ++ c :: r)) c = _
    unfold Lib.indexByte
    rw [if_neg (by rw [beq_iff_eq]; exact fun e => h.1 e.symm), idx_at l r c h.2, if_neg (by rw [beq_iff_eq]; omega), List.length_cons]
    omega
/-- Of how many bytes are blanks and remarks? -/
inductive Over : List UInt8 → Nat → Prop
  | nil : Over [] 0
  | stop (c : UInt8) (l : List UInt8) : isBl c = false → ((c :: l).take 2 == [47, 47]) = false → Over (c :: l) 0
  | blank (c : UInt8) (l : List UInt8) (n : Nat) : isBl c = true → Over l n → Over (c :: l) (n + 1)
  | remark (m r : List UInt8) (n : Nat) : (10 : UInt8) ∉ m → Over (10 :: r) n → Over (47 :: 47 :: m ++ 10 :: r) (2 + m.length + n)
  | remend (m : List UInt8) : (10 : UInt8) ∉ m → Over (47 :: 47 :: m) (2 + m.length)
theorem drop_lt {s : ByteArray} {i : Nat} {c : UInt8} {l : List UInt8} (h : s.data.toList.drop i = c :: l) : i < s.size ∧ s.data.toList.drop (i + 1) = l ∧ s.size = i + l.length + 1 := by
  have h1 := congrArg List.length h
  rw [List.length_drop, lx_len, List.length_cons] at h1
  refine ⟨by omega, ?_, by omega⟩
  rw [← List.drop_drop, h]
  rfl
theorem over_main (s : ByteArray) (hs : s.size ≤ 1000000) : ∀ (l : List UInt8) (n : Nat), Over l n → ∀ i k, s.data.toList.drop i = l → i ≤ s.size → l.length < k → lex_over.l0 k s (i : Int) = some ((i + n : Nat) : Int) := by
  intro l n H
  have hl := lx_len s
  induction H with
  | nil =>
    intro i k h hi hk
    obtain ⟨k, rfl⟩ : ∃ m, k = m + 1 := ⟨k - 1, by omega⟩
    have := congrArg List.length h
    rw [List.length_drop] at this
    have e : ([] : List UInt8).length = 0 := rfl
    simp only [lex_over.l0]
    rw [if_neg (by omega)]
    rfl
  | stop c l hb hp =>
    intro i k h hi hk
    obtain ⟨k, rfl⟩ : ∃ m, k = m + 1 := ⟨k - 1, by omega⟩
    obtain ⟨hlt, h1, h2⟩ := drop_lt h
    have ht : (s.extract i (i + 1)).data.toList = [c] := by rw [lx_take, h, Nat.add_sub_cancel_left]; rfl
    have hz : (s.extract i (i + 1)).size = 1 := by rw [← lx_len, ht]; rfl
    simp only [lex_over.l0]
    rw [if_pos (by omega), if_pos (by omega), if_pos (by omega), Int.toNat_natCast, lx_prefix _ _ (by decide), lx_ext, h, Option.bind_some,
      show (List.take (⟨#[47, 47]⟩ : ByteArray).data.toList.length (c :: l) == (⟨#[47, 47]⟩ : ByteArray).data.toList) = ((c :: l).take 2 == [47, 47]) from rfl, hp,
      if_neg (by decide), lx_next i (by omega), if_pos (by omega), if_pos (by omega), Int.toNat_natCast, strings_Contains.f, if_pos hz, ht, Option.bind_some]
    rw [show (decide (0 ≤ Lib.indexByte (⟨#[32, 9, 10, 13]⟩ : ByteArray).data.toList ([c].getD 0 0))) = decide (0 ≤ Lib.indexByte [32, 9, 10, 13] c) from rfl, isBl_eq, hb, if_neg (by decide)]
    rfl
  | blank c l n hb hn ih =>
    intro i k h hi hk
    obtain ⟨k, rfl⟩ : ∃ m, k = m + 1 := ⟨k - 1, by omega⟩
    obtain ⟨hlt, h1, h2⟩ := drop_lt h
    have ht : (s.extract i (i + 1)).data.toList = [c] := by rw [lx_take, h, Nat.add_sub_cancel_left]; rfl
    have hz : (s.extract i (i + 1)).size = 1 := by rw [← lx_len, ht]; rfl
    have hp : ((c :: l).take 2 == [47, 47]) = false := by
      rw [beq_eq_false_iff_ne]
      intro e
      have : c = 47 := by
        have e2 := congrArg List.head? e
        rw [List.head?_take, if_neg (by decide)] at e2
        exact Option.some.inj e2
      rw [this] at hb
      exact absurd hb (by decide)
    simp only [lex_over.l0]
    rw [if_pos (by omega), if_pos (by omega), if_pos (by omega), Int.toNat_natCast, lx_prefix _ _ (by decide), lx_ext, h, Option.bind_some,
      show (List.take (⟨#[47, 47]⟩ : ByteArray).data.toList.length (c :: l) == (⟨#[47, 47]⟩ : ByteArray).data.toList) = ((c :: l).take 2 == [47, 47]) from rfl, hp,
      if_neg (by decide), lx_next i (by omega), if_pos (by omega), if_pos (by omega), Int.toNat_natCast, strings_Contains.f, if_pos hz, ht, Option.bind_some]
    rw [show (decide (0 ≤ Lib.indexByte (⟨#[32, 9, 10, 13]⟩ : ByteArray).data.toList ([c].getD 0 0))) = decide (0 ≤ Lib.indexByte [32, 9, 10, 13] c) from rfl, isBl_eq, hb, if_pos rfl,
      ih (i + 1) k h1 (by omega) (by rw [List.length_cons] at hk; omega), show i + 1 + n = i + (n + 1) by omega]
  | remark m r n hm hn ih =>
    intro i k h hi hk
    obtain ⟨k, rfl⟩ : ∃ m, k = m + 1 := ⟨k - 1, by omega⟩
    obtain ⟨hlt, h1, h2⟩ := drop_lt h
    have hd : s.data.toList.drop (i + (2 + m.length)) = 10 :: r := by
      rw [← List.drop_drop, h, List.drop_append_of_le_length (by simp; omega), List.drop_of_length_le (by simp; omega)]
      rfl
    have hd2 := drop_lt hd
    simp only [lex_over.l0]
    rw [if_pos (by omega), if_pos (by omega), if_pos (by omega), Int.toNat_natCast, lx_prefix _ _ (by decide), lx_ext, h, Option.bind_some, if_pos (by rfl), strings_Index.f, if_pos (by rfl), lx_ext, h,
      show Lib.indexByte (47 :: 47 :: m ++ 10 :: r) ((⟨#[10]⟩ : ByteArray).data.toList.getD 0 0) = ((47 :: 47 :: m).length : Nat) from idx_at (47 :: 47 :: m) r 10 (by
        rw [List.mem_cons, List.mem_cons]; rintro (e | e | e)
        · exact absurd e (by decide)
        · exact absurd e (by decide)
        · exact hm e), Option.bind_some, if_neg (by omega),
      show wrap64 ((i : Int) + ((47 :: 47 :: m).length : Nat)) = ((i + (2 + m.length) : Nat) : Int) by rw [List.length_cons, List.length_cons]; unfold wrap64; omega,
      ih _ k hd (by omega) (by simp only [List.cons_append, List.length_cons, List.length_append] at hk ⊢; omega), show i + (2 + m.length) + n = i + (2 + m.length + n) by omega]
  | remend m hm =>
    intro i k h hi hk
    obtain ⟨k, rfl⟩ : ∃ m, k = m + 1 := ⟨k - 1, by omega⟩
    obtain ⟨hlt, h1, h2⟩ := drop_lt h
    simp only [lex_over.l0]
    rw [if_pos (by omega), if_pos (by omega), if_pos (by omega), Int.toNat_natCast, lx_prefix _ _ (by decide), lx_ext, h, Option.bind_some, if_pos (by rfl), strings_Index.f, if_pos (by rfl), lx_ext, h,
      show Lib.indexByte (47 :: 47 :: m) ((⟨#[10]⟩ : ByteArray).data.toList.getD 0 0) = -1 from idx_none _ 10 (by
        rw [List.mem_cons, List.mem_cons]; rintro (e | e | e)
        · exact absurd e (by decide)
        · exact absurd e (by decide)
        · exact hm e), Option.bind_some, if_pos (by decide), h2, List.length_cons, show i + (m.length + 1) + 1 = i + (2 + m.length) by omega]
theorem over_len {l : List UInt8} {n : Nat} (h : Over l n) : n ≤ l.length := by
  induction h with
  | nil => exact Nat.le_refl _
  | stop c l _ _ => exact Nat.zero_le _
  | blank c l n _ _ ih => rw [List.length_cons]; omega
  | remark m r n _ _ ih => simp only [List.cons_append, List.length_cons, List.length_append] at ih ⊢; omega
  | remend m _ => simp only [List.length_cons]; omega
theorem over_eq (s : ByteArray) (hs : s.size ≤ 1000000) {n : Nat} (h : Over s.data.toList n) (k : Nat) (hk : s.size < k) : lex_over.f k s = some (n : Int) := by
  unfold lex_over.f
  have := over_main s hs _ n h 0 k (by rw [List.drop_zero]) (Nat.zero_le _) (by rw [lx_len]; exact hk)
  rw [Nat.zero_add] at this
  exact this
theorem row_run (p : UInt8 → Bool) : ∀ (w r : List UInt8), w.all p = true → (∀ c t, r = c :: t → p c = false) → rowL p (w ++ r) = w.length
  | [], [], _, _ => rfl
  | [], c :: t, _, h => by
    show rowL p (c :: t) = 0
    rw [rowL, h c t rfl]
    rfl
  | c :: w, r, hw, h => by
    rw [List.all_cons, Bool.and_eq_true] at hw
    show rowL p (c :: (w ++ r)) = _
    rw [rowL, if_pos hw.1, row_run p w r hw.2 h, List.length_cons]
theorem name_eq (s : ByteArray) (hs : s.size ≤ 1000000) (w r : List UInt8) (e : s.data.toList = w ++ r) (hw : (w.all fun c => isLet c || isFig c) = true) (hr : ∀ c t, r = c :: t → (isLet c || isFig c) = false) :
    lex_name.f s = if 12 < w.length then some (0, (⟨#[]⟩ : ByteArray), 0, 0, 0, 5) else some (1, (⟨w.toArray⟩ : ByteArray), 0, 0, (w.length : Int), 0) := by
  have hn : lex_name.n s = w.length := by unfold lex_name.n; rw [e]; exact row_run _ w r hw hr
  unfold lex_name.f
  rw [if_pos (by omega), hn]
  have hx : s.extract 0 w.length = (⟨w.toArray⟩ : ByteArray) := by
    apply ByteArray.ext
    apply Array.toList_inj.1
    rw [lx_take, List.drop_zero, e, Nat.sub_zero, List.take_left]
  rw [hx]
theorem long_eq (s : ByteArray) (hs : s.size ≤ 1000000) (w r : List UInt8) (e : s.data.toList = w ++ r) (hw : (w.all isFig) = true) (hr : ∀ c t, r = c :: t → isFig c = false) :
    lex_long.f s = (num_Parse.f (⟨w.toArray⟩ : ByteArray)).bind fun t => some (2, (⟨#[]⟩ : ByteArray), t.1, 0, (w.length : Int), t.2) := by
  have hn : lex_long.n s = w.length := by unfold lex_long.n; rw [e]; exact row_run _ w r hw hr
  unfold lex_long.f
  rw [if_pos (by omega), hn]
  have hx : s.extract 0 w.length = (⟨w.toArray⟩ : ByteArray) := by
    apply ByteArray.ext
    apply Array.toList_inj.1
    rw [lx_take, List.drop_zero, e, Nat.sub_zero, List.take_left]
  rw [hx]
theorem digit_eq (c : UInt8) : lex_digit.f ((c.toNat : Nat) : Int) = some (isFig c) := by
  unfold lex_digit.f isFig
  by_cases h : (c.toNat : Int) ≥ 48
  · rw [if_pos h, decide_eq_true (show 48 ≤ c.toNat by omega), Bool.true_and]
    congr 1
    rw [decide_eq_decide]
    omega
  · rw [if_neg h, decide_eq_false (show ¬ 48 ≤ c.toNat by omega), Bool.false_and]
/-- All bytes below 128: a text. -/
theorem check_ascii_from (s : ByteArray) (h : (s.data.toList.all fun c => decide (c.toNat < 128)) = true) : ∀ fuel pos, checkFrom s fuel pos = 0
  | 0, _ => rfl
  | fuel + 1, pos => by
    simp only [checkFrom]
    by_cases hp : pos < s.size
    · have hc : (s[pos]'hp).toNat < 128 := by
        rw [List.all_eq_true] at h
        have := h (s[pos]'hp) (by show (s.data[pos]) ∈ s.data.toList; simp)
        exact of_decide_eq_true this
      rw [if_pos hp, decode_ascii s pos hp hc, if_neg (by rintro ⟨e, _⟩; simp only at e; omega)]
      exact check_ascii_from s h fuel _
    · rw [if_neg hp]
theorem check_ascii (s : ByteArray) (hs : s.size ≤ 1000000) (h : (s.data.toList.all fun c => decide (c.toNat < 128)) = true) : text_Check.f s = some 0 := by
  unfold text_Check.f
  rw [if_pos (by omega), check_ascii_from s h]
end Go.Proofs.YtaiegjgbdfmfpaaDoor.Pure
