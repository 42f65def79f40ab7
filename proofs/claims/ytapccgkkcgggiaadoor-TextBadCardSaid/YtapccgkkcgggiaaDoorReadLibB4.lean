import Derived.Test.YtapccgkkcgggiaaDoorReadLibB3
namespace Go.Proofs.YtapccgkkcgggiaaDoor.Pure
open Go.RowKit Go.Proofs.YtapccgkkcgggiaaDoor.GB Go.Proofs.YtapccgkkcgggiaaDoor.HandB Go.Proofs.YtapccgkkcgggiaaDoorW.PrintWords Go.Proofs.YtapccgkkcgggiaaDoorW.PrintLast
/-- A quoted text, read from a place on. -/
def readL : Nat → List Int → List UInt8 → Nat → ByteArray × Int × Int
  | 0, _, _, _ => ((⟨#[]⟩ : ByteArray), 0, 12)
  | f + 1, acc, l, pos => if l.length = 0 then ((⟨#[]⟩ : ByteArray), 0, 12) else if at_ l 0 = 34 then (strOfNums acc, ((pos + 1 : Nat) : Int), 0)
    else if (stepL l).2.2 = 0 then readL f (acc ++ encZ (stepL l).1) (l.drop (stepL l).2.1.toNat) (pos + (stepL l).2.1.toNat) else ((⟨#[]⟩ : ByteArray), 0, (stepL l).2.2)
theorem norm_e (x : Int × Int × Int) : (norm x).2.2 = x.2.2 := by
  unfold norm
  split <;> rfl
theorem norm_zero {x : Int × Int × Int} (h : x.2.2 = 0) : norm x = x := by unfold norm; exact if_pos h
theorem text_read_l0 (s : ByteArray) (hs : s.size ≤ 100000) : ∀ (f pos k : Nat) (acc : List Int), s.size ≤ pos + f → acc.length ≤ 4 * pos → pos ≤ s.size → 2 * f + 50 < k →
    text_Read.l0 k s acc pos = some (readL (f + 1) acc (s.data.toList.drop pos) pos) := by
  intro f
  induction f with
  | zero =>
    intro pos k acc h1 h2 h3 hk
    obtain ⟨k, rfl⟩ : ∃ m, k = m + 2 := ⟨k - 2, by omega⟩
    have hd : s.data.toList.drop pos = [] := List.drop_of_length_le (by rw [list_len]; omega)
    have hz := ext_size s pos
    obtain ⟨x, hx, hn⟩ := one_text (s.extract pos s.size) (by omega) k (by omega)
    rw [ext_data, hd] at hn
    have he : x.2.2 = 12 := by rw [← norm_e, hn]; rfl
    rw [text_Read.l0, if_pos (by omega), text_Read.j2, if_pos rfl, if_pos (by omega), if_pos (by omega), show ((pos : Int)).toNat = pos by omega, hx, Option.bind_some, if_neg (by omega), he, hd, readL, if_pos (by simp)]
  | succ f ih =>
    intro pos k acc h1 h2 h3 hk
    obtain ⟨k, rfl⟩ : ∃ m, k = m + 2 := ⟨k - 2, by omega⟩
    have hz := ext_size s pos
    have hl : (s.data.toList.drop pos).length = s.size - pos := by rw [List.length_drop, list_len]
    obtain ⟨x, hx, hn⟩ := one_text (s.extract pos s.size) (by omega) k (by omega)
    rw [ext_data] at hn
    have tail : text_Read.j2 (k + 1) s acc pos true = some (if (stepL (s.data.toList.drop pos)).2.2 = 0 then readL (f + 1) (acc ++ encZ (stepL (s.data.toList.drop pos)).1) ((s.data.toList.drop pos).drop (stepL (s.data.toList.drop pos)).2.1.toNat) (pos + (stepL (s.data.toList.drop pos)).2.1.toNat) else ((⟨#[]⟩ : ByteArray), 0, (stepL (s.data.toList.drop pos)).2.2)) := by
      rw [text_Read.j2, if_pos rfl, if_pos (by omega), if_pos (by omega), show ((pos : Int)).toNat = pos by omega, hx, Option.bind_some, ← hn, norm_e]
      have hok := step_ok (s.data.toList.drop pos)
      rw [← hn, norm_e, hl] at hok
      by_cases c : x.2.2 = 0
      · rw [norm_zero c] at hok ⊢
        obtain ⟨o1, o2, o3, o4⟩ := hok c
        have hez := encZ_len x.1
        rw [if_pos c, if_pos c, append_rune acc x.1 o1 (by omega), Option.bind_some, show wrap64 ((pos : Int) + x.2.1) = ((pos + x.2.1.toNat : Nat) : Int) by unfold wrap64; omega, List.drop_drop]
        exact ih (pos + x.2.1.toNat) k (acc ++ encZ x.1) (by omega) (by rw [List.length_append]; omega) (by omega) (by omega)
      · rw [if_neg c, if_neg c]
    rw [text_Read.l0, readL]
    by_cases c : pos < s.size
    · have hb := bt_pos s pos 0 (by omega)
      rw [Nat.add_zero] at hb
      rw [if_neg (by omega), if_pos (by omega), if_pos (by omega), hb, if_neg (show ¬ (s.data.toList.drop pos).length = 0 by omega)]
      by_cases c1 : at_ (s.data.toList.drop pos) 0 = 34
      · rw [if_pos c1, show (((at_ (s.data.toList.drop pos) 0 : Nat) : Int) != 34) = false by rw [c1]; rfl, text_Read.j2, if_neg (by decide), wrap_next pos (by omega)]
      · rw [if_neg c1, show (((at_ (s.data.toList.drop pos) 0 : Nat) : Int) != 34) = true by rw [bne_iff_ne]; omega]
        exact tail
    · have hd : s.data.toList.drop pos = [] := List.drop_of_length_le (by rw [list_len]; omega)
      rw [if_pos (by omega), tail, hd, if_pos (show ([] : List UInt8).length = 0 from rfl)]
      rfl
theorem ref_read_l0 (s : ByteArray) (hs : s.size ≤ 100000) : ∀ (f pos k : Nat) (acc : List Int), s.size ≤ pos + f → acc.length ≤ 4 * pos → pos ≤ s.size → 2 * f + 50 < k →
    chancelref1_Read.l0 k s acc pos = some (readL (f + 1) acc (s.data.toList.drop pos) pos) := by
  intro f
  induction f with
  | zero =>
    intro pos k acc h1 h2 h3 hk
    obtain ⟨k, rfl⟩ : ∃ m, k = m + 2 := ⟨k - 2, by omega⟩
    have hd : s.data.toList.drop pos = [] := List.drop_of_length_le (by rw [list_len]; omega)
    rw [chancelref1_Read.l0, if_pos (by omega), chancelref1_Read.j2, if_pos rfl, hd, readL, if_pos (by simp)]
  | succ f ih =>
    intro pos k acc h1 h2 h3 hk
    obtain ⟨k, rfl⟩ : ∃ m, k = m + 2 := ⟨k - 2, by omega⟩
    have hl : (s.data.toList.drop pos).length = s.size - pos := by rw [List.length_drop, list_len]
    rw [chancelref1_Read.l0, readL]
    by_cases c : pos < s.size
    · have hb := bt_pos s pos 0 (by omega)
      rw [Nat.add_zero] at hb
      have hlt := at_lt (s.data.toList.drop pos) 0
      have hok := step_ok (s.data.toList.drop pos)
      have hne : ¬ (s.data.toList.drop pos).length = 0 := by omega
      have go : ∀ r w : Int, isR r → 1 ≤ w → w ≤ s.size - pos → w ≤ 11 → ((chancelref1_put.f acc r).bind fun t => chancelref1_Read.l0 k s t (wrap64 ((pos : Int) + w))) = some (readL (f + 1) (acc ++ encZ r) ((s.data.toList.drop pos).drop w.toNat) (pos + w.toNat)) := by
        intro r w o1 o2 o3 o4
        have hez := encZ_len r
        rw [put_eq acc r o1 (by omega), Option.bind_some, show wrap64 ((pos : Int) + w) = ((pos + w.toNat : Nat) : Int) by unfold wrap64; omega, List.drop_drop]
        exact ih (pos + w.toNat) k (acc ++ encZ r) (by omega) (by rw [List.length_append]; omega) (by omega) (by omega)
      rw [if_neg (by omega), if_pos (by omega), if_pos (by omega), hb, if_neg hne]
      by_cases c0 : at_ (s.data.toList.drop pos) 0 < 32
      · have e : stepL (s.data.toList.drop pos) = (0, 0, 12) := by unfold stepL; rw [if_neg hne, if_pos c0]
        rw [decide_eq_true (by omega), chancelref1_Read.j2, if_pos rfl, if_neg (by omega), e, if_neg (by simp)]
      rw [decide_eq_false (by omega), chancelref1_Read.j2, if_neg (by decide), if_pos (by omega), if_pos (by omega), hb]
      by_cases c1 : at_ (s.data.toList.drop pos) 0 = 34
      · rw [if_pos c1, if_pos (by omega), wrap_next pos (by omega)]
      rw [if_neg c1, if_neg (by omega)]
      by_cases c2 : at_ (s.data.toList.drop pos) 0 = 92
      · have h92 := dec_92 (s.data.toList.drop pos) (by omega)
        have e : stepL (s.data.toList.drop pos) = lift1 (escL (s.data.toList.drop (pos + 1))) := by
          unfold stepL lift1
          rw [if_neg hne, if_neg c0, if_neg (by rw [h92]; simp only; omega), if_pos c2, List.drop_drop]
        rw [if_pos (by omega), escape_eq s (by omega) pos c k (by omega), Option.bind_some, e]
        rw [e] at hok
        by_cases c3 : (lift1 (escL (s.data.toList.drop (pos + 1)))).2.2 = 0
        · obtain ⟨o1, o2, o3, o4⟩ := hok c3
          rw [if_pos c3, if_pos c3]
          exact go _ _ o1 o2 (by omega) o4
        · rw [if_neg c3, if_neg c3]
      · rw [if_neg (by omega), one_eq s pos k c (by omega) (by omega), Option.bind_some]
        by_cases c3 : (decL (s.data.toList.drop pos)).1 = 65533 ∧ (decL (s.data.toList.drop pos)).2 = 1
        · have e : stepL (s.data.toList.drop pos) = (0, 0, 11) := by unfold stepL; rw [if_neg hne, if_neg c0, if_pos c3]
          rw [show oneL (s.data.toList.drop pos) = (0, 0) by unfold oneL; exact if_pos c3, if_pos rfl, e, if_neg (by simp)]
        · have e : stepL (s.data.toList.drop pos) = ((((decL (s.data.toList.drop pos)).1 : Nat) : Int), (((decL (s.data.toList.drop pos)).2 : Nat) : Int), 0) := by unfold stepL; rw [if_neg hne, if_neg c0, if_neg c3, if_neg c2]
          have e2 : oneL (s.data.toList.drop pos) = ((((decL (s.data.toList.drop pos)).1 : Nat) : Int), (((decL (s.data.toList.drop pos)).2 : Nat) : Int)) := by unfold oneL; exact if_neg c3
          rw [e] at hok ⊢
          obtain ⟨o1, o2, o3, o4⟩ := hok rfl
          rw [e2, if_neg (by simp only at o2; omega), if_pos rfl]
          exact go _ _ o1 o2 (by simp only at o3; omega) o4
    · have hd : s.data.toList.drop pos = [] := List.drop_of_length_le (by rw [list_len]; omega)
      rw [if_pos (by omega), chancelref1_Read.j2, if_pos rfl, hd, if_pos (by simp)]
/-- A quoted text, read. -/
def readT (l : List UInt8) : ByteArray × Int × Int := if l.length = 0 ∨ at_ l 0 ≠ 34 then ((⟨#[]⟩ : ByteArray), 0, 12) else readL l.length [] (l.drop 1) 1
theorem text_read_eq (s : ByteArray) (hs : s.size ≤ 100000) (k : Nat) (hk : 2 * s.size + 60 < k) : text_Read.f k s = some (readT s.data.toList) := by
  obtain ⟨k, rfl⟩ : ∃ m, k = m + 1 := ⟨k - 1, by omega⟩
  have hl := list_len s
  unfold text_Read.f readT
  by_cases c : s.toList = []
  · rw [if_pos c, text_Read.j0, if_pos rfl, if_pos]
    rw [Lib.toList_data] at c
    exact .inl (by rw [c]; rfl)
  have hp : 0 < s.size := Nat.pos_of_ne_zero fun e => c (by rw [Lib.toList_data]; exact List.eq_nil_of_length_eq_zero (by omega))
  have hb := bt_at_ s 0 hp
  rw [show ((0 : Nat) : Int) = 0 from rfl] at hb
  rw [if_neg c, if_pos (by omega), hb]
  by_cases c1 : at_ s.data.toList 0 = 34
  · rw [show (((at_ s.data.toList 0 : Nat) : Int) != 34) = false by rw [c1]; rfl, text_Read.j0, if_neg (by decide), if_neg (by omega)]
    have := text_read_l0 s hs (s.size - 1) 1 k [] (by omega) (by simp) (by omega) (by omega)
    rw [show ((1 : Nat) : Int) = 1 from rfl, show s.size - 1 + 1 = s.data.toList.length by omega] at this
    exact this
  · rw [show (((at_ s.data.toList 0 : Nat) : Int) != 34) = true by rw [bne_iff_ne]; omega, text_Read.j0, if_pos rfl, if_pos (.inr c1)]
theorem ref_read_eq (s : ByteArray) (hs : s.size ≤ 100000) (k : Nat) (hk : 2 * s.size + 60 < k) : chancelref1_Read.f k s = some (readT s.data.toList) := by
  obtain ⟨k, rfl⟩ : ∃ m, k = m + 1 := ⟨k - 1, by omega⟩
  have hl := list_len s
  unfold chancelref1_Read.f readT
  by_cases c : s.size = 0
  · rw [if_pos (by omega), chancelref1_Read.j0, if_pos rfl, if_pos (.inl (by omega))]
  have hb := bt_at_ s 0 (by omega)
  rw [show ((0 : Nat) : Int) = 0 from rfl] at hb
  rw [if_neg (by omega), if_pos (by omega), hb]
  by_cases c1 : at_ s.data.toList 0 = 34
  · rw [show (((at_ s.data.toList 0 : Nat) : Int) != 34) = false by rw [c1]; rfl, chancelref1_Read.j0, if_neg (by decide), if_neg (by omega)]
    have := ref_read_l0 s hs (s.size - 1) 1 k [] (by omega) (by simp) (by omega) (by omega)
    rw [show ((1 : Nat) : Int) = 1 from rfl, show s.size - 1 + 1 = s.data.toList.length by omega] at this
    exact this
  · rw [show (((at_ s.data.toList 0 : Nat) : Int) != 34) = true by rw [bne_iff_ne]; omega, chancelref1_Read.j0, if_pos rfl, if_pos (.inr c1)]
end Go.Proofs.YtapccgkkcgggiaaDoor.Pure
