import Derived.Test.YtaiegjgbdfmfpaaDoorLexLib3
import Derived.Test.YtaiegjgbdfmfpaaDoorLexNum
import Derived.Test.YtaiegjgbdfmfpaaDoorGL18
/-! LexNumbers: digits are one number as long as they go; a sign ahead is a token of its own. -/
namespace Go.Proofs.YtaiegjgbdfmfpaaDoor.Pure
open Go.RowKit Go.Proofs.YtaiegjgbdfmfpaaDoor.GL Go.Proofs.YtaiegjgbdfmfpaaDoor.HandL Go.Proofs.YtaiegjgbdfmfpaaDoorW.PrintWords Go.Proofs.YtaiegjgbdfmfpaaDoorW.PrintLast
theorem dig_len (u : Nat) (hu : u < 18446744073709551616) : 1 ≤ (Lib.decDigits u).length ∧ (Lib.decDigits u).length ≤ 20 := by
  rw [Lib.decDigits_length]
  exact ⟨Lib.nDigits_pos u, nDigits_le 19 u (by
    have : (10 ^ (19 + 1) : Nat) = 100000000000000000000 := by decide
    omega)⟩
theorem parse_dig (u : Nat) (hu : u < 18446744073709551616) : num_Parse.f ⟨(Lib.decDigits u).toArray⟩ = if (u : Int) ≤ 9223372036854775807 then some ((u : Int), 0) else some (0, 17) := by
  obtain ⟨hl1, hl2⟩ := dig_len u hu
  obtain ⟨d1, d2, d3⟩ := dec_dig u
  unfold num_Parse.f
  rw [lit_size, if_neg (by omega), if_neg (by omega), if_neg, if_pos d1, lit_data, go_eq _ _ d1 (by omega) (by omega), d2]
  rintro ⟨e1, e2⟩
  cases hd : Lib.decDigits u with
  | nil => rw [hd] at hl1; simp at hl1
  | cons c l =>
    have hc : c = 48 := by
      rw [hd, bt_head] at e1
      have e1' : c.toNat = (48 : UInt8).toNat := by
        have : (48 : UInt8).toNat = 48 := rfl
        omega
      exact UInt8.toNat_inj.1 e1'
    have := d3 (by rw [hd, hc]; rfl)
    rw [this, Lib.decDigits_one (by omega)] at e2
    simp at e2
def tails : List (List UInt8) := [[], [32], [46], [120], [43, 49]]
theorem tail_lx (m : List UInt8) (hm : m ∈ tails) (j : Nat) : ∃ o ts, Over m o ∧ Lx (m.drop o) (j + o) ts 0 ∧ ts.length ≤ 2 := by
  unfold tails at hm
  simp only [List.mem_cons, List.not_mem_nil, or_false] at hm
  rcases hm with rfl | rfl | rfl | rfl | rfl
  · exact ⟨0, [], Over.nil, Lx.nil _, by decide⟩
  · exact ⟨1, [], Over.blank 32 [] 0 (by decide) Over.nil, Lx.nil _, by decide⟩
  · refine ⟨0, _, over_stop_let 46 [] (by decide) (by decide), Lx.tok [46] (j + 0) 4 _ 0 0 1 0 (j + 0 + 1 + 0) [] [] 0 (by simp) (next_sign 46 [] _ (by decide) (by decide) (by decide) (sign_one 46 [] (by decide) (fun _ _ h => by cases h))) (by omega) (by simp) Over.nil rfl rfl (Lx.nil _), by simp⟩
  · exact ⟨0, _, over_let 120 [] (by decide), lx_name 120 [] (by decide) rfl (by decide) (j + 0), by simp⟩
  · have h1 : Lx [49] (j + 0 + 1 + 0) [⟨2, (⟨#[]⟩ : ByteArray), 1, ((j + 0 + 1 + 0 : Nat) : Int)⟩] 0 := by
      refine Lx.tok [49] _ 2 _ 1 0 1 0 _ [] [] 0 (by simp) ?_ (by omega) (by simp) Over.nil rfl rfl (Lx.nil _)
      exact next_long 49 [] [] 1 0 (by decide) rfl (fun _ _ h => by cases h) (by decide +kernel)
    refine ⟨0, _, over_stop_let 43 [49] (by decide) (by decide), Lx.tok [43, 49] (j + 0) 4 _ 0 0 1 0 (j + 0 + 1 + 0) [49] _ 0 (by simp) (next_sign 43 [49] _ (by decide) (by decide) (by decide) (sign_one 43 [49] (by decide) ?_)) (by omega) (by simp) (over_fig 49 [] (by decide)) rfl rfl h1, by simp⟩
    intro d t h
    injection h with h1 _
    subst h1
    decide
theorem tail_head (m : List UInt8) (hm : m ∈ tails) : (∀ c t, m = c :: t → isFig c = false) ∧ (m.all fun c => decide (c.toNat < 128)) = true ∧ m.length ≤ 2 := by
  unfold tails at hm
  simp only [List.mem_cons, List.not_mem_nil, or_false] at hm
  rcases hm with rfl | rfl | rfl | rfl | rfl <;> refine ⟨fun c t h => ?_, by decide, by decide⟩ <;> first | (cases h; done) | (cases h; decide)
theorem dig_cons (u : Nat) (hu : u < 18446744073709551616) : ∃ c w, Lib.decDigits u = c :: w ∧ isFig c = true ∧ w.all isFig = true := by
  obtain ⟨hl1, hl2⟩ := dig_len u hu
  obtain ⟨d1, d2, d3⟩ := dec_dig u
  cases hd : Lib.decDigits u with
  | nil => rw [hd] at hl1; simp at hl1
  | cons c w =>
    rw [hd, List.all_cons, Bool.and_eq_true] at d1
    exact ⟨c, w, rfl, d1.1, d1.2⟩
/-- Digits, and what stands behind. -/
theorem dig_lx (u : Nat) (hu : (u : Int) ≤ 9223372036854775807) (m : List UInt8) (hm : m ∈ tails) (i : Nat) :
    ∃ ts, Lx (Lib.decDigits u ++ m) i (⟨2, (⟨#[]⟩ : ByteArray), (u : Int), (i : Int)⟩ :: ts) 0 ∧ ts.length ≤ 2 := by
  obtain ⟨c, w, e, hc, hw⟩ := dig_cons u (by omega)
  have hp := parse_dig u (by omega)
  rw [if_pos hu, e] at hp
  obtain ⟨o, ts, h1, h2, h3⟩ := tail_lx m hm (i + (w.length + 1))
  refine ⟨ts, ?_, h3⟩
  rw [e]
  refine Lx.tok (c :: w ++ m) i 2 _ (u : Int) 0 (w.length + 1) o (i + (w.length + 1) + o) (m.drop o) ts 0 (by simp) (next_long c w m _ 0 hc hw (tail_head m hm).1 hp) (by omega) (by simp) ?_ ?_ rfl h2
  · rw [List.drop_left' (by simp)]; exact h1
  · rw [← List.drop_drop, List.drop_left' (by simp)]
theorem dig_over (u : Nat) (hu : u < 18446744073709551616) (m : List UInt8) : Over (Lib.decDigits u ++ m) 0 := by
  obtain ⟨c, w, e, hc, hw⟩ := dig_cons u hu
  rw [e]
  exact over_fig c (w ++ m) hc
theorem dig_ascii (u : Nat) : ((Lib.decDigits u).all fun c => decide (c.toNat < 128)) = true := by
  obtain ⟨d1, _, _⟩ := dec_dig u
  rw [List.all_eq_true] at d1 ⊢
  intro c hc
  exact decide_eq_true (fig_stop c (d1 c hc)).2.2.2.2
theorem minus_next (u : Nat) (hu : u < 18446744073709551616) (m : List UInt8) : Next (45 :: (Lib.decDigits u ++ m)) (4, (⟨#[45]⟩ : ByteArray), 0, 0, ((1 : Nat) : Int), 0) := by
  obtain ⟨c, w, e, hc, hw⟩ := dig_cons u hu
  refine next_sign 45 _ _ (by decide) (by decide) (by decide) (sign_one 45 _ (by decide) ?_)
  intro d t h
  rw [e] at h
  injection h with h1 _
  subst h1
  have h2 : ∀ x ∈ ([58, 61, 38, 124, 62] : List UInt8), isFig x = false := by decide
  intro hm
  rw [h2 _ hm] at hc
  cases hc
theorem LexNumbers : chancellaw4_LexNumbers.Pure := by
  intro a b ha hb
  have hR := inR_of_wf ha
  suffices h : ∀ k, 2000000 ≤ k → chancellaw4_LexNumbers.f k a b = some true from ⟨2000000, h _ (Nat.le_refl _)⟩
  intro k hk
  unfold chancellaw4_LexNumbers.f
  rw [lxknown_true k hk, Option.bind_some, if_pos rfl]
  obtain ⟨t, ht, htl⟩ := text_ref a hR k (by omega)
  rw [ht, Option.bind_some, Option.bind_some]
  obtain ⟨i, hi, h0, h5⟩ := lxwithin_eq b 5 (by omega) (by omega)
  rw [hi, Option.bind_some, if_pos h0, if_pos (by simpa using h5)]
  generalize hm : rdOf ByteArray.empty ([(⟨#[]⟩ : ByteArray), (⟨#[32]⟩ : ByteArray), (⟨#[46]⟩ : ByteArray), (⟨#[120]⟩ : ByteArray), (⟨#[43, 49]⟩ : ByteArray)] : List ByteArray) i = m
  have hml : m.data.toList ∈ tails := by
    subst hm
    obtain ⟨n, rfl⟩ : ∃ n : Nat, i = n := ⟨i.toNat, by omega⟩
    have hn : n = 0 ∨ n = 1 ∨ n = 2 ∨ n = 3 ∨ n = 4 := by omega
    rcases hn with rfl | rfl | rfl | rfl | rfl <;> decide
  obtain ⟨hm1, hm2, hm3⟩ := tail_head _ hml
  have hms := lx_len m
  have hts := lx_len t
  have hdat : (t ++ m).data.toList = t.data.toList ++ m.data.toList := Go.Joins.data_append t m
  have hjs : (t ++ m).size = t.size + m.size := by rw [ByteArray.size_append]
  unfold InR at hR
  unfold Lib.itoa at htl
  by_cases hneg : a < 0
  · rw [if_pos hneg] at htl
    have hu : a.natAbs < 18446744073709551616 := by omega
    obtain ⟨hl1, hl2⟩ := dig_len a.natAbs hu
    rw [htl, List.length_cons] at hts
    have hd : (t ++ m).data.toList = 45 :: (Lib.decDigits a.natAbs ++ m.data.toList) := by rw [hdat, htl]; rfl
    have hck : text_Check.f (t ++ m) = some 0 := check_ascii _ (by omega) (by rw [hd, List.all_cons, List.all_append, dig_ascii, hm2]; rfl)
    have hov : Over (t ++ m).data.toList 0 := by rw [hd]; exact over_stop_let 45 _ (by decide) (by decide)
    by_cases hmin : a = -9223372036854775808
    · obtain ⟨c, w, e, hc, hw⟩ := dig_cons a.natAbs hu
      have hp := parse_dig a.natAbs hu
      rw [if_neg (by omega), e] at hp
      have hlx : Lx ((t ++ m).data.toList.drop 0) 0 [⟨4, (⟨#[45]⟩ : ByteArray), 0, ((0 : Nat) : Int)⟩] 17 := by
        rw [List.drop_zero, hd]
        refine Lx.tok _ 0 4 _ 0 0 1 0 1 (Lib.decDigits a.natAbs ++ m.data.toList) [] 17 (by simp) (minus_next a.natAbs hu _) (by omega) (by simp) (dig_over _ hu _) rfl rfl ?_
        rw [e]
        exact Lx.err _ 1 _ 17 (by simp) (next_long c w m.data.toList _ 17 hc hw hm1 hp) rfl (by decide)
      rw [if_pos (by omega), tokens_eq (t ++ m) (by omega) hck hov hlx k hk, if_neg (by decide), if_neg (by decide), Option.bind_some, if_pos hmin, if_pos rfl]
      rfl
    · obtain ⟨ts, h1, h2⟩ := dig_lx a.natAbs (by omega) m.data.toList hml 1
      have hlx : Lx ((t ++ m).data.toList.drop 0) 0 (⟨4, (⟨#[45]⟩ : ByteArray), 0, ((0 : Nat) : Int)⟩ :: ⟨2, (⟨#[]⟩ : ByteArray), ((a.natAbs : Nat) : Int), ((1 : Nat) : Int)⟩ :: ts) 0 := by
        rw [List.drop_zero, hd]
        exact Lx.tok _ 0 4 _ 0 0 1 0 1 (Lib.decDigits a.natAbs ++ m.data.toList) _ 0 (by simp) (minus_next a.natAbs hu _) (by omega) (by simp) (dig_over _ hu _) rfl rfl h1
      rw [if_pos (by omega), tokens_eq (t ++ m) (by omega) hck hov hlx k hk, if_neg (by simp only [List.length_cons]; omega), if_pos rfl, Option.bind_some, if_neg hmin, if_pos hneg, if_pos rfl]
      rw [if_pos (by simp only [List.length_cons]; omega), if_pos (by simp only [List.length_cons]; omega), if_pos (by rw [Lib.toList_data]; rfl), if_pos (by simp only [List.length_cons]; omega), if_pos (by rfl)]
      have hw : wrap64 (-a) = ((a.natAbs : Nat) : Int) := by unfold wrap64; omega
      rw [hw]
      show some ((((a.natAbs : Nat) : Int)) == ((a.natAbs : Nat) : Int)) = _
      rw [beq_self_eq_true]
  · rw [if_neg hneg] at htl
    have hu : a.toNat < 18446744073709551616 := by omega
    obtain ⟨hl1, hl2⟩ := dig_len a.toNat hu
    rw [htl] at hts
    have hd : (t ++ m).data.toList = Lib.decDigits a.toNat ++ m.data.toList := by rw [hdat, htl]
    have hck : text_Check.f (t ++ m) = some 0 := check_ascii _ (by omega) (by rw [hd, List.all_append, dig_ascii, hm2]; rfl)
    have hov : Over (t ++ m).data.toList 0 := by rw [hd]; exact dig_over _ hu _
    obtain ⟨ts, h1, h2⟩ := dig_lx a.toNat (by omega) m.data.toList hml 0
    have hlx : Lx ((t ++ m).data.toList.drop 0) 0 (⟨2, (⟨#[]⟩ : ByteArray), ((a.toNat : Nat) : Int), ((0 : Nat) : Int)⟩ :: ts) 0 := by
      rw [List.drop_zero, hd]
      exact h1
    rw [if_pos (by omega), tokens_eq (t ++ m) (by omega) hck hov hlx k hk, if_neg (by simp only [List.length_cons]; omega), if_pos rfl, Option.bind_some, if_neg (by omega), if_neg hneg, if_pos rfl]
    rw [if_pos (by simp only [List.length_cons]; omega), if_pos (by simp only [List.length_cons]; omega), if_pos (by rfl), if_pos (by show ((a.toNat : Nat) : Int) = a; omega)]
    rfl
end Go.Proofs.YtaiegjgbdfmfpaaDoor.Pure
