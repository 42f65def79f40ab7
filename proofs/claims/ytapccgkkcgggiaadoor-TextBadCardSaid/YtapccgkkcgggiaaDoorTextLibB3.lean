import Derived.Test.YtapccgkkcgggiaaDoorTextLibB2
import Derived.Test.YtapccgkkcgggiaaDoorGB9
namespace Go.Proofs.YtapccgkkcgggiaaDoor.Pure
open Go.RowKit Go.Proofs.YtapccgkkcgggiaaDoor.GB Go.Proofs.YtapccgkkcgggiaaDoor.HandB Go.Proofs.YtapccgkkcgggiaaDoorW.PrintWords Go.Proofs.YtapccgkkcgggiaaDoorW.PrintLast
/-! ### any bytes: what is decoded of them -/
theorem u8_of (c : UInt8) (n : Nat) (h : n = c.toNat) : UInt8.ofNat n = c := by subst h; exact UInt8.ofNat_toNat
theorem cont_one {c : UInt8} {t : List UInt8} (h : cont_ (c :: t) 1 = true) : ∃ d t', t = d :: t' ∧ d.toNat / 64 = 2 := by
  rw [cont_succ] at h
  cases t with
  | nil => simp [cont_] at h
  | cons d t' => rw [cont_zero] at h; exact ⟨d, t', rfl, by simpa using h⟩
theorem dec_cases (l : List UInt8) (hl : l ≠ []) : (decL l = (65533, 1)) ∨ (∃ r, isR r ∧ decL l = (r.toNat, (encB r).length) ∧ l = encB r ++ l.drop (encB r).length) := by
  obtain ⟨c0, t, rfl⟩ : ∃ c t, l = c :: t := by cases l with
    | nil => exact absurd rfl hl
    | cons c t => exact ⟨c, t, rfl⟩
  have b0 := c0.toNat_lt
  by_cases c1 : c0.toNat < 128
  · right
    refine ⟨(c0.toNat : Int), ⟨by omega, by omega, by omega⟩, ?_, ?_⟩
    · rw [encB_one (by omega)]
      unfold decL
      rw [at_zero, if_pos c1]
      simp
    · rw [encB_one (by omega), u8_of c0 _ (by omega)]
      rfl
  by_cases c2 : (at_ (c0 :: t) 0 / 32 == 6 && cont_ (c0 :: t) 1) = true
  · have h := c2
    rw [Bool.and_eq_true, at_zero, beq_iff_eq] at h
    obtain ⟨h0, h1⟩ := h
    obtain ⟨d1, t, rfl, h1⟩ := cont_one h1
    have b1 := d1.toNat_lt
    unfold decL
    rw [if_neg (by rw [at_zero]; omega), if_pos c2]
    obtain ⟨v, hv2⟩ : ∃ v, at_ (c0 :: d1 :: t) 0 % 32 * 64 + at_ (c0 :: d1 :: t) 1 % 64 = v := ⟨_, rfl⟩
    rw [hv2]
    rw [at_zero, at_succ, at_zero] at hv2
    by_cases hv : v ≥ 128
    · right
      rw [if_pos hv]
      refine ⟨(v : Int), ⟨by omega, by omega, by omega⟩, ?_, ?_⟩
      · rw [encB_two (by omega) (by omega)]; simp
      · rw [encB_two (by omega) (by omega), u8_of c0 _ (by omega), u8_of d1 _ (by omega)]
        rfl
    · left
      rw [if_neg hv]
  by_cases c3 : (at_ (c0 :: t) 0 / 16 == 14 && cont_ (c0 :: t) 1 && cont_ (c0 :: t) 2) = true
  · have h := c3
    rw [Bool.and_eq_true, Bool.and_eq_true, at_zero, beq_iff_eq] at h
    obtain ⟨⟨h0, h1⟩, h2⟩ := h
    obtain ⟨d1, t, rfl, h1⟩ := cont_one h1
    rw [cont_succ] at h2
    obtain ⟨d2, t, rfl, h2⟩ := cont_one h2
    have b1 := d1.toNat_lt
    have b2 := d2.toNat_lt
    unfold decL
    rw [if_neg (by rw [at_zero]; omega), if_neg c2, if_pos c3]
    obtain ⟨v, hv2⟩ : ∃ v, at_ (c0 :: d1 :: d2 :: t) 0 % 16 * 4096 + at_ (c0 :: d1 :: d2 :: t) 1 % 64 * 64 + at_ (c0 :: d1 :: d2 :: t) 2 % 64 = v := ⟨_, rfl⟩
    rw [hv2, valid_iff]
    rw [at_zero, at_succ, at_zero, at_succ, at_succ, at_zero] at hv2
    by_cases hv : (decide (v ≥ 2048) && decide (isR (v : Int))) = true
    · right
      rw [if_pos hv]
      rw [Bool.and_eq_true, decide_eq_true_eq, decide_eq_true_eq] at hv
      refine ⟨(v : Int), hv.2, ?_, ?_⟩
      · rw [encB_three (by omega) (by omega) (by omega)]; simp
      · rw [encB_three (by omega) (by omega) (by omega), u8_of c0 _ (by omega), u8_of d1 _ (by omega), u8_of d2 _ (by omega)]
        rfl
    · left
      rw [if_neg hv]
  by_cases c4 : (at_ (c0 :: t) 0 / 8 == 30 && cont_ (c0 :: t) 1 && cont_ (c0 :: t) 2 && cont_ (c0 :: t) 3) = true
  · have h := c4
    rw [Bool.and_eq_true, Bool.and_eq_true, Bool.and_eq_true, at_zero, beq_iff_eq] at h
    obtain ⟨⟨⟨h0, h1⟩, h2⟩, h3⟩ := h
    obtain ⟨d1, t, rfl, h1⟩ := cont_one h1
    rw [cont_succ] at h2 h3
    obtain ⟨d2, t, rfl, h2⟩ := cont_one h2
    rw [cont_succ] at h3
    obtain ⟨d3, t, rfl, h3⟩ := cont_one h3
    have b1 := d1.toNat_lt
    have b2 := d2.toNat_lt
    have b3 := d3.toNat_lt
    unfold decL
    rw [if_neg (by rw [at_zero]; omega), if_neg c2, if_neg c3, if_pos c4]
    obtain ⟨v, hv2⟩ : ∃ v, at_ (c0 :: d1 :: d2 :: d3 :: t) 0 % 8 * 262144 + at_ (c0 :: d1 :: d2 :: d3 :: t) 1 % 64 * 4096 + at_ (c0 :: d1 :: d2 :: d3 :: t) 2 % 64 * 64 + at_ (c0 :: d1 :: d2 :: d3 :: t) 3 % 64 = v := ⟨_, rfl⟩
    rw [hv2, valid_iff]
    rw [at_zero, at_succ, at_zero, at_succ, at_succ, at_zero, at_succ, at_succ, at_succ, at_zero] at hv2
    by_cases hv : (decide (v ≥ 65536) && decide (isR (v : Int))) = true
    · right
      rw [if_pos hv]
      rw [Bool.and_eq_true, decide_eq_true_eq, decide_eq_true_eq] at hv
      refine ⟨(v : Int), hv.2, ?_, ?_⟩
      · rw [encB_four (by omega) (by omega) (by omega)]; simp
      · rw [encB_four (by omega) (by omega) (by omega), u8_of c0 _ (by omega), u8_of d1 _ (by omega), u8_of d2 _ (by omega), u8_of d3 _ (by omega)]
        rfl
    · left
      rw [if_neg hv]
  · left
    unfold decL
    rw [if_neg (by rw [at_zero]; omega), if_neg c2, if_neg c3, if_neg c4]
theorem go_dec (s : ByteArray) (pos : Nat) (h : pos < s.size) : Lib.decodeGo (s.extract pos s.size) = decL (s.data.toList.drop pos) := by
  have hx : (s.extract pos s.size).data.toList = s.data.toList.drop pos := by
    rw [Lib.extract_data, List.take_of_length_le (by rw [List.length_drop, Array.length_toList]; exact Nat.le_refl _)]
  have hs : (s.extract pos s.size).size = s.size - pos := by rw [show (s.extract pos s.size).size = (s.extract pos s.size).data.toList.length from rfl, hx, List.length_drop, Array.length_toList]; rfl
  unfold Lib.decodeGo
  rw [if_neg (by omega), decode_drop, List.drop_zero, hx]
theorem enc_not_bad (r : Int) (h : (65533, 1) = (r.toNat, (encB r).length)) : False := by
  have h1 := congrArg Prod.fst h
  have h2 := congrArg Prod.snd h
  simp only at h1 h2
  rw [encB_three (by omega) (by omega) (by omega)] at h2
  simp at h2
/-- Check, and the reference's, of any bytes. -/
theorem check_from (s : ByteArray) (hs : s.size ≤ 1000000) : ∀ (fuel pos k : Nat), s.size ≤ pos + fuel → pos ≤ s.size → fuel + 20 < k →
    chancelref1_Check.l0 k s pos = some (checkFrom s fuel pos) ∧ (checkFrom s fuel pos = 11 ∨ checkFrom s fuel pos = 0 ∧ ∃ rs, (∀ r ∈ rs, isR r) ∧ s.data.toList.drop pos = encA rs)
  | 0, pos, k, h1, h2, h3 => by
    obtain ⟨k, rfl⟩ : ∃ m, k = m + 1 := ⟨k - 1, by omega⟩
    rw [show checkFrom s 0 pos = 0 from rfl]
    refine ⟨?_, .inr ⟨rfl, [], by simp, ?_⟩⟩
    · simp only [chancelref1_Check.l0]
      rw [if_neg (by omega)]
    rw [List.drop_of_length_le (by rw [Array.length_toList]; show s.size ≤ pos; omega)]
    rfl
  | fuel + 1, pos, k, h1, h2, h3 => by
    obtain ⟨k, rfl⟩ : ∃ m, k = m + 1 := ⟨k - 1, by omega⟩
    simp only [chancelref1_Check.l0, checkFrom]
    by_cases hp : pos < s.size
    · have hlen : (s.data.toList.drop pos).length = s.size - pos := by rw [List.length_drop, Array.length_toList]; rfl
      rw [if_pos (by omega), if_pos hp, one_eq s pos k hp (by omega) (by omega), decode_drop, go_dec s pos hp]
      simp only [Option.bind_some]
      rcases dec_cases (s.data.toList.drop pos) (by intro e; rw [e] at hlen; simp at hlen; omega) with hd | ⟨r, hr, hd, hdr⟩
      · rw [oneL_err hd, hd]
        simp
      · have hn : ¬ ((65533 : Nat) = r.toNat ∧ (encB r).length = 1) := fun e => enc_not_bad r (by rw [← e.1, e.2])
        have hb := encB_pos r
        rw [oneL_ok hd (by omega), hd]
        simp only
        have hle := congrArg List.length hdr
        rw [List.length_append, hlen] at hle
        rw [if_neg (by omega), if_neg (by omega), show wrap64 ((pos : Int) + ((encB r).length : Int)) = ((pos + (encB r).length : Nat) : Int) by unfold wrap64; omega]
        obtain ⟨i1, i2⟩ := check_from s hs fuel (pos + (encB r).length) k (by omega) (by omega) (by omega)
        refine ⟨i1, i2.imp id fun ⟨e, rs, g, hh⟩ => ⟨e, r :: rs, ?_, ?_⟩⟩
        · intro x hx
          rcases List.mem_cons.1 hx with rfl | hx
          · exact hr
          · exact g x hx
        · rw [encA, ← hh, ← List.drop_drop]
          exact hdr
    · rw [if_neg (by omega), if_neg hp]
      refine ⟨rfl, .inr ⟨rfl, [], by simp, ?_⟩⟩
      rw [List.drop_of_length_le (by rw [Array.length_toList]; show s.size ≤ pos; omega)]
      rfl
theorem check_ref (s : ByteArray) (hs : s.size ≤ 1000000) (k : Nat) (hk : s.size + 20 < k) : chancelref1_Check.f k s = text_Check.f s := by
  unfold chancelref1_Check.f text_Check.f
  rw [if_pos (by omega)]
  exact (check_from s hs s.size 0 k (by omega) (by omega) hk).1
theorem check_cases (s : ByteArray) (hs : s.size ≤ 1000000) : text_Check.f s = some 11 ∨ text_Check.f s = some 0 ∧ ∃ rs, (∀ r ∈ rs, isR r) ∧ s = txt rs := by
  unfold text_Check.f
  rw [if_pos (by omega)]
  rcases (check_from s hs s.size 0 (s.size + 21) (by omega) (by omega) (by omega)).2 with h | ⟨h, rs, g, e⟩
  · exact .inl (by rw [h])
  · refine .inr ⟨by rw [h], rs, g, ?_⟩
    apply ByteArray.ext
    apply Array.toList_inj.1
    rw [List.drop_zero] at e
    exact e
theorem check_enc (s : ByteArray) : ∀ (rs : List Int) (pos fuel : Nat), (∀ r ∈ rs, isR r) → s.data.toList.drop pos = encA rs → checkFrom s fuel pos = 0
  | [], pos, fuel, _, hd => by
    refine text_Check.end_ s fuel pos ?_
    have := congrArg List.length hd
    rw [List.length_drop, Array.length_toList] at this
    simp only [encA, List.length_nil] at this
    show ¬ pos < s.data.size
    omega
  | r :: rs, pos, fuel, hr, hd => by
    cases fuel with
    | zero => rfl
    | succ fuel =>
    simp only [checkFrom]
    split
    · next hp =>
      have hdec := dec_enc r (hr r (by simp)) (encA rs)
      rw [decode_drop, go_dec s pos hp, hd, encA, hdec]
      simp only
      have hn : ¬ ((65533 : Nat) = r.toNat ∧ (encB r).length = 1) := fun e => enc_not_bad r (by rw [← e.1, e.2])
      have hb := encB_pos r
      rw [if_neg (by omega)]
      refine check_enc s rs _ fuel (fun x hx => hr x (by simp [hx])) ?_
      rw [← List.drop_drop, hd, encA, List.drop_left]
    · rfl
theorem check_txt (rs : List Int) (hr : ∀ r ∈ rs, isR r) (hl : rs.length < 4000000) : text_Check.f (txt rs) = some 0 := by
  unfold text_Check.f
  have := encA_len rs
  rw [txt_size, if_pos (by omega), check_enc (txt rs) rs 0 _ hr rfl]
/-! ### the text of any runes -/
theorem valid_rune (r : Int) (k : Nat) (hk : 1 ≤ k) : utf8_ValidRune.f k r = some (decide (isR r)) := by
  obtain ⟨k, rfl⟩ : ∃ m, k = m + 1 := ⟨k - 1, by omega⟩
  unfold utf8_ValidRune.f isR
  simp only [utf8_ValidRune.j0]
  by_cases h0 : 0 ≤ r
  · rw [if_pos h0]
    by_cases h2 : r < 55296
    · rw [if_pos (decide_eq_true h2)]; congr 1; symm; rw [decide_eq_true_eq]; omega
    · rw [if_neg (by rw [decide_eq_true_eq]; exact h2)]
      by_cases h3 : 57343 < r
      · rw [if_pos h3]
        by_cases h1 : r ≤ 1114111
        · rw [if_pos h1]; congr 1; symm; rw [decide_eq_true_eq]; omega
        · rw [if_neg h1]; congr 1; symm; rw [decide_eq_false_iff_not]; omega
      · rw [if_neg h3]; congr 1; symm; rw [decide_eq_false_iff_not]; omega
  · rw [if_neg h0, if_neg (by decide)]
    by_cases h3 : 57343 < r
    · omega
    · rw [if_neg h3]; congr 1; symm; rw [decide_eq_false_iff_not]; omega
theorem append_rune (l : List Int) (r : Int) (h : isR r) (hl : l.length < 140000000000000) : utf8_AppendRune.f l r = some (l ++ encZ r) := by
  obtain ⟨h0, h1, h2⟩ := h
  unfold utf8_AppendRune.f utf8_appendRuneNonASCII.f encZ
  by_cases c1 : r < 128
  · rw [if_pos (by omega), if_pos (by omega), if_pos c1, show r % 256 = r by omega]
  rw [if_neg (by omega), if_pos (by omega), if_neg c1]
  simp only [Option.bind_some]
  by_cases c2 : r < 2048
  · rw [if_pos c2, Lib.encodeRuneZ_two (by omega) (by omega)]
  rw [if_neg c2]
  by_cases c3 : r < 65536
  · rw [if_pos c3, Lib.encodeRuneZ_three (by omega)]
  · rw [if_neg c3, Lib.encodeRuneZ_four (by omega) (by omega)]
/-- What of runes comes: their text, or that it is none. -/
def ofL (acc rs : List Int) : ByteArray × Int := if rs.all (fun r => decide (isR r)) = true then (strOfNums (acc ++ encN rs), 0) else ((⟨#[]⟩ : ByteArray), 11)
theorem ofL_cons (acc : List Int) (r : Int) (rs : List Int) : ofL acc (r :: rs) = if decide (isR r) = true then ofL (acc ++ encZ r) rs else ((⟨#[]⟩ : ByteArray), 11) := by
  unfold ofL
  rw [List.all_cons, encN, List.append_assoc]
  by_cases h : isR r
  · rw [decide_eq_true h, Bool.true_and]
    rfl
  · rw [decide_eq_false h]
    rfl
theorem ofL_nil (acc : List Int) : ofL acc [] = (strOfNums acc, 0) := by unfold ofL; simp [encN]
theorem of_any_l0 (rs : List Int) (hl : rs.length < 1000000) (d : Nat) : ∀ (i k : Nat) (acc : List Int), rs.length - i = d → i ≤ rs.length → d < k → acc.length ≤ 4 * i →
    chancelref1_Of.l0 k rs acc i = some (ofL acc (rs.drop i)) := by
  induction d with
  | zero =>
    intro i k acc h1 h2 h3 h4
    obtain ⟨k, rfl⟩ : ∃ m, k = m + 1 := ⟨k - 1, by omega⟩
    simp only [chancelref1_Of.l0]
    rw [if_neg (by omega), List.drop_of_length_le (by omega), ofL_nil]
  | succ d ih =>
    intro i k acc h1 h2 h3 h4
    obtain ⟨k, rfl⟩ : ∃ m, k = m + 1 := ⟨k - 1, by omega⟩
    have hi : i < rs.length := by omega
    have hz := encZ_len (rs[i]'hi)
    simp only [chancelref1_Of.l0]
    rw [if_pos (by omega), if_pos (by omega), rd_at rs i hi, is_eq, List.drop_eq_getElem_cons hi, ofL_cons]
    simp only [Option.bind_some]
    by_cases hR : isR (rs[i]'hi)
    · rw [if_pos (decide_eq_true hR), if_pos (decide_eq_true hR), put_eq acc _ hR (by omega)]
      simp only [Option.bind_some]
      rw [show wrap64 ((i : Int) + 1) = ((i + 1 : Nat) : Int) by unfold wrap64; omega, ih (i + 1) k (acc ++ encZ (rs[i]'hi)) (by omega) (by omega) (by omega) (by rw [List.length_append]; omega)]
    · rw [if_neg (by rw [decide_eq_true_eq]; exact hR), if_neg (by rw [decide_eq_true_eq]; exact hR)]
theorem of_any (rs : List Int) (hl : rs.length < 1000000) (k : Nat) (hk : rs.length < k) : chancelref1_Of.f k rs = some (ofL [] rs) := by
  unfold chancelref1_Of.f
  have := of_any_l0 rs hl rs.length 0 k [] (by omega) (by omega) hk (by simp)
  rw [show ((0 : Nat) : Int) = 0 from rfl] at this
  rw [this, List.drop_zero]
theorem text_of_l0 (rs : List Int) (hl : rs.length < 1000000) (d : Nat) : ∀ (i k : Nat) (acc : List Int), rs.length - i = d → i ≤ rs.length → d + 2 < k → acc.length ≤ 4 * i →
    text_Of.l0 k acc rs (rs.length : Int) i = some (ofL acc (rs.drop i)) := by
  induction d with
  | zero =>
    intro i k acc h1 h2 h3 h4
    obtain ⟨k, rfl⟩ : ∃ m, k = m + 1 := ⟨k - 1, by omega⟩
    simp only [text_Of.l0]
    rw [if_neg (by omega), List.drop_of_length_le (by omega), ofL_nil]
  | succ d ih =>
    intro i k acc h1 h2 h3 h4
    obtain ⟨k, rfl⟩ : ∃ m, k = m + 1 := ⟨k - 1, by omega⟩
    have hi : i < rs.length := by omega
    have hz := encZ_len (rs[i]'hi)
    simp only [text_Of.l0]
    rw [if_pos (by omega), if_pos (by omega), if_pos (by omega), rd_at rs i hi, valid_rune _ k (by omega), List.drop_eq_getElem_cons hi, ofL_cons]
    simp only [Option.bind_some]
    by_cases hR : isR (rs[i]'hi)
    · rw [if_pos (decide_eq_true hR), if_pos (decide_eq_true hR), append_rune acc _ hR (by omega)]
      simp only [Option.bind_some]
      rw [show wrap64 ((i : Int) + 1) = ((i + 1 : Nat) : Int) by unfold wrap64; omega, ih (i + 1) k (acc ++ encZ (rs[i]'hi)) (by omega) (by omega) (by omega) (by rw [List.length_append]; omega)]
    · rw [if_neg (by rw [decide_eq_true_eq]; exact hR), if_neg (by rw [decide_eq_true_eq]; exact hR)]
theorem text_of (rs : List Int) (hl : rs.length < 1000000) (k : Nat) (hk : rs.length + 2 < k) : text_Of.f k rs = some (ofL [] rs) := by
  unfold text_Of.f
  have := text_of_l0 rs hl rs.length 0 k [] (by omega) (by omega) hk (by simp)
  rw [show ((0 : Nat) : Int) = 0 from rfl] at this
  rw [this, List.drop_zero]
theorem ofL_good (rs : List Int) (hr : ∀ r ∈ rs, isR r) : ofL [] rs = (txt rs, 0) := by
  unfold ofL
  rw [if_pos (List.all_eq_true.2 fun r h => decide_eq_true (hr r h)), List.nil_append, str_enc]
theorem ofL_cases (rs : List Int) : (∀ r ∈ rs, isR r) ∧ ofL [] rs = (txt rs, 0) ∨ ofL [] rs = ((⟨#[]⟩ : ByteArray), 11) := by
  by_cases h : ∀ r ∈ rs, isR r
  · exact .inl ⟨h, ofL_good rs h⟩
  · right
    unfold ofL
    rw [if_neg (fun e => h fun r hr => of_decide_eq_true (List.all_eq_true.1 e r hr))]
theorem same_l0 (a b : List Int) (hl : a.length < 1000000) (hb : a.length = b.length) (d : Nat) : ∀ (i k : Nat), a.length - i = d → i ≤ a.length → d < k → chancellaw1_same.l0 k a b i = some (decide (a.drop i = b.drop i)) := by
  induction d with
  | zero =>
    intro i k h1 h2 h3
    obtain ⟨k, rfl⟩ : ∃ m, k = m + 1 := ⟨k - 1, by omega⟩
    simp only [chancellaw1_same.l0]
    rw [if_neg (by omega), List.drop_of_length_le (by omega), List.drop_of_length_le (by omega)]
    rfl
  | succ d ih =>
    intro i k h1 h2 h3
    obtain ⟨k, rfl⟩ : ∃ m, k = m + 1 := ⟨k - 1, by omega⟩
    have hi : i < a.length := by omega
    have hj : i < b.length := by omega
    simp only [chancellaw1_same.l0]
    rw [if_pos (by omega), if_pos (by omega), if_pos (by omega), rd_at a i hi, rd_at b i hj, List.drop_eq_getElem_cons hi, List.drop_eq_getElem_cons hj]
    by_cases h : a[i]'hi = b[i]'hj
    · rw [if_pos h, show wrap64 ((i : Int) + 1) = ((i + 1 : Nat) : Int) by unfold wrap64; omega, ih (i + 1) k (by omega) (by omega) (by omega)]
      congr 1
      rw [decide_eq_decide, h]
      exact ⟨fun e => by rw [e], fun e => (List.cons.inj e).2⟩
    · rw [if_neg h]
      congr 1
      symm
      rw [decide_eq_false_iff_not]
      intro e
      exact h (List.cons.inj e).1
theorem same_eq (a b : List Int) (hl : a.length < 1000000) (k : Nat) (hk : a.length < k) : chancellaw1_same.f k a b = some (decide (a = b)) := by
  unfold chancellaw1_same.f
  by_cases h : a.length = b.length
  · rw [if_pos (by omega)]
    have := same_l0 a b hl h a.length 0 k (by omega) (by omega) hk
    rw [show ((0 : Nat) : Int) = 0 from rfl] at this
    rw [this, List.drop_zero, List.drop_zero]
  · rw [if_neg (by omega)]
    congr 1
    symm
    rw [decide_eq_false_iff_not]
    intro e
    exact h (by rw [e])
end Go.Proofs.YtapccgkkcgggiaaDoor.Pure
