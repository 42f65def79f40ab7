import Derived.Test.YtapccgkkcgggiaaDoorReadLibB
namespace Go.Proofs.YtapccgkkcgggiaaDoor.Pure
open Go.RowKit Go.Proofs.YtapccgkkcgggiaaDoor.GB Go.Proofs.YtapccgkkcgggiaaDoor.HandB Go.Proofs.YtapccgkkcgggiaaDoorW.PrintWords Go.Proofs.YtapccgkkcgggiaaDoorW.PrintLast
theorem norm_ok (a b : Int) : norm (a, b, 0) = (a, b, 0) := rfl
theorem norm_bad (a b : Int) {e : Int} (h : e ≠ 0) : norm (a, b, e) = (0, 0, e) := by unfold norm; exact if_neg h
theorem list_len (s : ByteArray) : s.data.toList.length = s.size := by rw [Array.length_toList]; rfl
theorem prefix_eq (s : ByteArray) : strings_HasPrefix.f s (⟨#[117, 123]⟩ : ByteArray) = some (decide (2 ≤ s.size ∧ at_ s.data.toList 0 = 117 ∧ at_ s.data.toList 1 = 123)) := by
  unfold strings_HasPrefix.f stringslite_HasPrefix.f
  have hl := list_len s
  rw [show (⟨#[117, 123]⟩ : ByteArray).size = 2 from rfl]
  by_cases c : 2 ≤ s.size
  · rw [if_pos (by omega), if_pos (by omega), if_pos (by omega), Option.bind_some]
    have e : (s.extract 0 (((2 : Nat) : Int) : Int).toNat).toList = s.data.toList.take 2 := by rw [Lib.toList_data, Lib.extract_data, List.drop_zero]; rfl
    rw [e, show (⟨#[117, 123]⟩ : ByteArray).toList = [117, 123] by rw [Lib.toList_data]]
    generalize s.data.toList = l at hl ⊢
    rcases l with _ | ⟨a, _ | ⟨b, t⟩⟩
    · simp at hl; omega
    · simp at hl; omega
    · congr 1
      rw [Bool.eq_iff_iff, beq_iff_eq, decide_eq_true_eq]
      constructor
      · intro h
        injection h with h1 h
        injection h with h2 _
        subst h1 h2
        exact ⟨c, rfl, rfl⟩
      · rintro ⟨_, h1, h2⟩
        obtain rfl : a = 117 := UInt8.toNat_inj.1 h1
        obtain rfl : b = 123 := UInt8.toNat_inj.1 h2
        rfl
  · rw [if_neg (by omega), Option.bind_some, decide_eq_false (by omega)]
theorem braced_e (u : List UInt8) : (bracedL u).2.2 = 0 ∨ (bracedL u).2.2 = 11 ∨ (bracedL u).2.2 = 12 := by
  unfold bracedL
  split
  · simp
  split <;> simp
theorem braced_ok (u : List UInt8) (h : (bracedL u).2.2 = 0) : isR (bracedL u).1 ∧ 0 ≤ (bracedL u).2.1 ∧ (bracedL u).2.1 ≤ 7 ∧ (bracedL u).2.1 ≤ u.length := by
  have hl := hexes_len 6 u 0
  unfold bracedL at h ⊢
  split at h
  · simp at h
  next c =>
  split at h
  next c2 =>
    rw [if_neg c, if_pos c2]
    refine ⟨c2, ?_, ?_, ?_⟩ <;> simp only <;> omega
  next => simp at h
theorem turned_eq (s : ByteArray) (hs : s.size ≤ 1000000) (k : Nat) (hk : 30 ≤ k) : ∃ x, text_turned.f k s = some x ∧ norm x = escL s.data.toList := by
  obtain ⟨k, rfl⟩ : ∃ m, k = m + 1 := ⟨k - 1, by omega⟩
  have hl := list_len s
  unfold text_turned.f
  by_cases c : s.toList = []
  · rw [if_pos c]
    rw [Lib.toList_data] at c
    refine ⟨_, rfl, ?_⟩
    unfold escL
    rw [if_pos (by rw [c]; rfl)]
    rfl
  have hp : 0 < s.size := Nat.pos_of_ne_zero fun e => c (by rw [Lib.toList_data]; exact List.eq_nil_of_length_eq_zero (by omega))
  have hb := bt_at_ s 0 hp
  rw [show ((0 : Nat) : Int) = 0 from rfl] at hb
  have hlt := at_lt s.data.toList 0
  rw [if_neg c, if_pos (by omega)]
  unfold escL
  rw [if_neg (show ¬ s.data.toList.length = 0 by omega)]
  by_cases c1 : at_ s.data.toList 0 = 92 ∨ at_ s.data.toList 0 = 34
  · have e : (if bt s 0 = 92 then text_turned.j0 (k + 1) s true else text_turned.j0 (k + 1) s (bt s 0 == 34)) = text_turned.j0 (k + 1) s true := by
      split
      · rfl
      · rw [show (bt s 0 == 34) = true by rw [beq_iff_eq]; omega]
    rw [e, text_turned.j0, if_pos rfl, if_pos (by omega), if_pos c1]
    refine ⟨_, rfl, ?_⟩
    rw [norm_ok, hb, show wrap32 ((at_ s.data.toList 0 : Nat) : Int) = ((at_ s.data.toList 0 : Nat) : Int) by unfold wrap32; omega]
  have e : (if bt s 0 = 92 then text_turned.j0 (k + 1) s true else text_turned.j0 (k + 1) s (bt s 0 == 34)) = text_turned.j0 (k + 1) s false := by
    rw [if_neg (by omega), show (bt s 0 == 34) = false by rw [beq_eq_false_iff_ne]; omega]
  rw [e, text_turned.j0, if_neg (by decide), if_pos (by omega), if_neg c1]
  by_cases c2 : at_ s.data.toList 0 = 110
  · rw [if_pos (by omega), if_pos c2]
    exact ⟨_, rfl, rfl⟩
  rw [if_neg (by omega), if_neg c2]
  by_cases c3 : at_ s.data.toList 0 = 116
  · rw [if_pos (by omega), if_pos c3]
    exact ⟨_, rfl, rfl⟩
  rw [if_neg (by omega), if_neg c3, prefix_eq, Option.bind_some]
  by_cases c4 : 2 ≤ s.size ∧ at_ s.data.toList 0 = 117 ∧ at_ s.data.toList 1 = 123
  · have hz := ext_size s 2
    rw [if_pos (decide_eq_true c4), if_pos (by omega), if_pos ⟨c4.2.1, by omega, c4.2.2⟩, braced_eq _ (by omega) k (by omega), Option.bind_some, ext_data]
    have hq := braced_ok (s.data.toList.drop 2)
    generalize bracedL (s.data.toList.drop 2) = q at hq ⊢
    obtain ⟨a, b, e⟩ := q
    refine ⟨_, rfl, ?_⟩
    by_cases he : e = 0
    · subst he
      have := hq rfl
      rw [if_pos rfl, norm_ok]
      rw [show wrap64 (b + 2) = b + 2 by unfold wrap64; simp only at this; omega]
    · rw [if_neg he, norm_bad _ _ he]
  · rw [if_neg (by rw [decide_eq_true_eq]; exact c4), if_neg (by rw [hl]; omega)]
    exact ⟨_, rfl, rfl⟩
theorem esc_ok (l : List UInt8) (h : (escL l).2.2 = 0) : isR (escL l).1 ∧ 1 ≤ (escL l).2.1 ∧ (escL l).2.1 ≤ 10 ∧ (escL l).2.1 ≤ l.length := by
  have hlt := at_lt l 0
  unfold escL at h ⊢
  by_cases c0 : l.length = 0
  · rw [if_pos c0] at h; simp at h
  rw [if_neg c0] at h ⊢
  by_cases c1 : at_ l 0 = 92 ∨ at_ l 0 = 34
  · rw [if_pos c1]
    refine ⟨⟨by omega, by omega, by omega⟩, ?_, ?_, ?_⟩ <;> simp only <;> omega
  rw [if_neg c1] at h ⊢
  by_cases c2 : at_ l 0 = 110
  · rw [if_pos c2]
    refine ⟨by decide, ?_, ?_, ?_⟩ <;> simp only <;> omega
  rw [if_neg c2] at h ⊢
  by_cases c3 : at_ l 0 = 116
  · rw [if_pos c3]
    refine ⟨by decide, ?_, ?_, ?_⟩ <;> simp only <;> omega
  rw [if_neg c3] at h ⊢
  by_cases c4 : at_ l 0 = 117 ∧ 2 ≤ l.length ∧ at_ l 1 = 123
  · rw [if_pos c4] at h ⊢
    by_cases c5 : (bracedL (l.drop 2)).2.2 = 0
    · obtain ⟨b1, b2, b3, b4⟩ := braced_ok (l.drop 2) c5
      rw [List.length_drop] at b4
      rw [if_pos c5]
      refine ⟨b1, ?_, ?_, ?_⟩ <;> simp only <;> omega
    · rw [if_neg c5] at h
      exact absurd h c5
  · rw [if_neg c4] at h
    simp at h
/-- A rune of a quoted text, read. -/
def stepL (l : List UInt8) : Int × Int × Int :=
  if l.length = 0 then (0, 0, 12) else if at_ l 0 < 32 then (0, 0, 12)
  else if (decL l).1 = 65533 ∧ (decL l).2 = 1 then (0, 0, 11)
  else if at_ l 0 = 92 then (if (escL (l.drop 1)).2.2 = 0 then ((escL (l.drop 1)).1, (escL (l.drop 1)).2.1 + 1, 0) else (0, 0, (escL (l.drop 1)).2.2))
  else (((decL l).1 : Nat), ((decL l).2 : Nat), 0)
theorem dec_92 (l : List UInt8) (h : at_ l 0 < 128) : decL l = (at_ l 0, 1) := by unfold decL; rw [if_pos h]
theorem step_ok (l : List UInt8) (h : (stepL l).2.2 = 0) : isR (stepL l).1 ∧ 1 ≤ (stepL l).2.1 ∧ (stepL l).2.1 ≤ l.length ∧ (stepL l).2.1 ≤ 11 := by
  unfold stepL at h ⊢
  by_cases c0 : l.length = 0
  · rw [if_pos c0] at h; simp at h
  rw [if_neg c0] at h ⊢
  by_cases c1 : at_ l 0 < 32
  · rw [if_pos c1] at h; simp at h
  rw [if_neg c1] at h ⊢
  by_cases c2 : (decL l).1 = 65533 ∧ (decL l).2 = 1
  · rw [if_pos c2] at h; simp at h
  rw [if_neg c2] at h ⊢
  by_cases c3 : at_ l 0 = 92
  · rw [if_pos c3] at h ⊢
    by_cases c4 : (escL (l.drop 1)).2.2 = 0
    · obtain ⟨b1, b2, b3, b4⟩ := esc_ok (l.drop 1) c4
      rw [List.length_drop] at b4
      rw [if_pos c4]
      refine ⟨b1, ?_, ?_, ?_⟩ <;> simp only <;> omega
    · rw [if_neg c4] at h
      exact absurd h c4
  · rw [if_neg c3]
    rcases dec_cases l (by intro e; rw [e] at c0; exact c0 rfl) with hd | ⟨r, hr, hd, hdr⟩
    · rw [hd] at c2
      exact absurd ⟨rfl, rfl⟩ c2
    · rw [hd]
      have hb := encB_pos r
      have hle := congrArg List.length hdr
      rw [List.length_append] at hle
      have h0 := hr.1
      refine ⟨?_, ?_, ?_, ?_⟩
      · simp only
        rw [show ((r.toNat : Nat) : Int) = r by omega]
        exact hr
      · simp only; omega
      · simp only; omega
      · simp only; omega
theorem one_text (s : ByteArray) (hs : s.size ≤ 1000000) (k : Nat) (hk : 40 ≤ k) : ∃ x, text_one.f k s = some x ∧ norm x = stepL s.data.toList := by
  obtain ⟨k, rfl⟩ : ∃ m, k = m + 2 := ⟨k - 2, by omega⟩
  have hl := list_len s
  unfold text_one.f utf8_DecodeRuneInString.f stepL
  rw [Option.bind_some]
  by_cases c : s.toList = []
  · rw [if_pos c, text_one.j0, if_pos rfl]
    rw [Lib.toList_data] at c
    rw [if_pos (by rw [c]; rfl)]
    exact ⟨_, rfl, rfl⟩
  have hp : 0 < s.size := Nat.pos_of_ne_zero fun e => c (by rw [Lib.toList_data]; exact List.eq_nil_of_length_eq_zero (by omega))
  have hb := bt_at_ s 0 hp
  rw [show ((0 : Nat) : Int) = 0 from rfl] at hb
  have hlt := at_lt s.data.toList 0
  have hdec : Lib.decodeGo s = decL s.data.toList := by
    have := go_dec s 0 hp
    rw [List.drop_zero] at this
    rw [← this]
    congr 1
    apply ByteArray.ext
    apply Array.toList_inj.1
    rw [ext_data, List.drop_zero]
  rw [if_neg c, if_pos (by omega), if_neg (by omega), hdec]
  by_cases c1 : at_ s.data.toList 0 < 32
  · rw [decide_eq_true (by omega), text_one.j0, if_pos rfl, if_pos c1]
    exact ⟨_, rfl, rfl⟩
  rw [decide_eq_false (by omega), text_one.j0, if_neg (by decide), if_neg c1]
  have hw : 1 ≤ (decL s.data.toList).2 := by
    rcases dec_cases s.data.toList (by intro e; rw [e] at hl; simp at hl; omega) with hd | ⟨r, hr, hd, hdr⟩
    · rw [hd]; exact Nat.le_refl _
    · rw [hd]; exact (encB_pos r).1
  by_cases c2 : (decL s.data.toList).1 = 65533 ∧ (decL s.data.toList).2 = 1
  · rw [if_pos (by omega), decide_eq_true (by omega), text_one.j1, if_pos rfl, if_pos c2]
    exact ⟨_, rfl, rfl⟩
  have e : (if ((decL s.data.toList).1 : Int) = 65533 then text_one.j1 (k + 1) s ((decL s.data.toList).1 : Nat) ((decL s.data.toList).2 : Nat) (decide (((decL s.data.toList).2 : Int) ≤ 1)) else text_one.j1 (k + 1) s ((decL s.data.toList).1 : Nat) ((decL s.data.toList).2 : Nat) false) = text_one.j1 (k + 1) s ((decL s.data.toList).1 : Nat) ((decL s.data.toList).2 : Nat) false := by
    split
    · rw [decide_eq_false (by omega)]
    · rfl
  rw [e, text_one.j1, if_neg (by decide), if_neg c2]
  by_cases c3 : at_ s.data.toList 0 = 92
  · have h92 := dec_92 s.data.toList (by omega)
    have hz := ext_size s 1
    rw [if_pos (by rw [h92]; simp only; omega), if_pos (by omega), if_pos c3]
    obtain ⟨⟨a, b, er⟩, hx, hn⟩ := turned_eq (s.extract 1 s.size) (by omega) k (by omega)
    rw [hx, Option.bind_some]
    rw [ext_data] at hn
    refine ⟨_, rfl, ?_⟩
    rw [← hn]
    have hq := esc_ok (s.data.toList.drop 1)
    rw [← hn] at hq
    by_cases he : er = 0
    · subst he
      rw [norm_ok a b] at hq ⊢
      have := hq rfl
      rw [if_pos rfl, norm_ok _ (wrap64 (b + 1)), show wrap64 (b + 1) = b + 1 by unfold wrap64; simp only at this; omega]
    · rw [norm_bad a b he, norm_bad _ _ he, if_neg he]
  · rw [if_neg, if_neg c3]
    · exact ⟨_, rfl, rfl⟩
    · by_cases c4 : at_ s.data.toList 0 < 128
      · rw [dec_92 _ c4]
        simp only
        omega
      · rcases dec_cases s.data.toList (by intro e; rw [e] at hl; simp at hl; omega) with hd | ⟨r, hr, hd, hdr⟩
        · rw [hd] at c2
          exact absurd ⟨rfl, rfl⟩ c2
        · rw [hd]
          simp only
          intro e92
          have h0 := hr.1
          have : r = 92 := by omega
          subst this
          rw [hdr, encB_one (by omega)] at c3
          exact c3 rfl
end Go.Proofs.YtapccgkkcgggiaaDoor.Pure
