import Derived.Test.YtapccgkkcgggiaaDoorKnownB
import Derived.Test.YtapccgkkcgggiaaDoorTextLibB3
import Derived.Test.YtapccgkkcgggiaaDoorGB13
namespace Go.Proofs.YtapccgkkcgggiaaDoor.Pure
open Go.RowKit Go.Proofs.YtapccgkkcgggiaaDoor.GB Go.Proofs.YtapccgkkcgggiaaDoor.HandB Go.Proofs.YtapccgkkcgggiaaDoorW.PrintWords Go.Proofs.YtapccgkkcgggiaaDoorW.PrintLast
/-- What begins no rune. -/
theorem dec_cont (c : UInt8) (t : List UInt8) (h0 : 128 ≤ c.toNat) (h1 : c.toNat < 192) : decL (c :: t) = (65533, 1) := by
  unfold decL
  rw [if_neg (by rw [at_zero]; omega), if_neg (by rw [at_zero]; simp; omega), if_neg (by rw [at_zero]; simp; omega), if_neg (by rw [at_zero]; simp; omega)]
/-- What is cut short. -/
theorem dec_short1 (c : UInt8) (h0 : 128 ≤ c.toNat) : decL [c] = (65533, 1) := by
  unfold decL
  rw [if_neg (by rw [at_zero]; omega), if_neg (by simp [cont_]), if_neg (by simp [cont_]), if_neg (by simp [cont_])]
theorem dec_short2 (c d : UInt8) (h0 : 224 ≤ c.toNat) : decL [c, d] = (65533, 1) := by
  have := c.toNat_lt
  unfold decL
  rw [if_neg (by rw [at_zero]; omega), if_neg (by rw [at_zero]; simp; omega), if_neg (by simp [cont_]), if_neg (by simp [cont_])]
theorem dec_short3 (c d e : UInt8) (h0 : 240 ≤ c.toNat) : decL [c, d, e] = (65533, 1) := by
  have := c.toNat_lt
  unfold decL
  rw [if_neg (by rw [at_zero]; omega), if_neg (by rw [at_zero]; simp; omega), if_neg (by rw [at_zero]; simp; omega), if_neg (by simp [cont_])]
theorem check_bad (s : ByteArray) (hs : s.size ≤ 1000000) (h0 : 0 < s.size) (h : decL s.data.toList = (65533, 1)) : text_Check.f s = some 11 := by
  unfold text_Check.f
  rw [if_pos (by omega)]
  obtain ⟨n, hn⟩ : ∃ n, s.size = n + 1 := ⟨s.size - 1, by omega⟩
  rw [hn]
  simp only [checkFrom]
  rw [if_pos h0, decode_drop, go_dec s 0 h0, List.drop_zero, h]
  simp
theorem enc_head (r : Int) (hr : isR r) : ∀ n, (encB r).length = n → n ≠ 1 → decL ((encB r).drop 1) = (65533, 1) ∧ decL ((encB r).take (n - 1)) = (65533, 1) := by
  intro n hn h1
  obtain ⟨h0, h2, h3⟩ := hr
  by_cases c1 : r < 128
  · rw [encB_one c1] at hn
    simp at hn
    omega
  by_cases c2 : r < 2048
  · rw [encB_two c1 c2] at hn ⊢
    simp at hn
    subst hn
    exact ⟨dec_cont _ _ (by rw [tn _ (by omega)]; omega) (by rw [tn _ (by omega)]; omega), dec_short1 _ (by rw [tn _ (by omega)]; omega)⟩
  by_cases c3 : r < 65536
  · rw [encB_three c1 c2 c3] at hn ⊢
    simp at hn
    subst hn
    exact ⟨dec_cont _ _ (by rw [tn _ (by omega)]; omega) (by rw [tn _ (by omega)]; omega), dec_short2 _ _ (by rw [tn _ (by omega)]; omega)⟩
  · rw [encB_four c1 c2 c3] at hn ⊢
    simp at hn
    subst hn
    exact ⟨dec_cont _ _ (by rw [tn _ (by omega)]; omega) (by rw [tn _ (by omega)]; omega), dec_short3 _ _ _ (by rw [tn _ (by omega)]; omega)⟩
theorem txt_one (r : Int) : (txt [r]).size = (encB r).length := by rw [txt_size]; simp [encA]
theorem txt_one_data (r : Int) : (txt [r]).data.toList = encB r := by show (encA [r]).toArray.toList = _; simp [encA]
theorem size_j4 (r : Int) (hr : isR r) (n : Nat) (w : Int) (hw : ((encB r).length : Int) = w) : chancellaw1_TextSize.j4 (n + 1) (txt [r]) w false = some true := by
  simp only [chancellaw1_TextSize.j4, Bool.false_eq_true, if_false]
  have hb := encB_pos r
  by_cases h1 : w = 1
  · rw [if_pos h1]
  rw [if_neg h1, txt_one, if_pos (by omega)]
  obtain ⟨e1, e2⟩ := enc_head r hr _ rfl (by omega)
  have x1 : ((txt [r]).extract 1 (encB r).length).data.toList = (encB r).drop 1 := by
    rw [Lib.extract_data, txt_one_data, List.take_of_length_le (by rw [List.length_drop]; omega)]
  have x2 : ((txt [r]).extract 0 ((wrap64 (w - 1)) : Int).toNat).data.toList = (encB r).take ((encB r).length - 1) := by
    rw [Lib.extract_data, txt_one_data, List.drop_zero]
    congr 1
    unfold wrap64
    omega
  have s1 : ((txt [r]).extract 1 (encB r).length).size = (encB r).length - 1 := by
    rw [show ((txt [r]).extract 1 (encB r).length).size = ((txt [r]).extract 1 (encB r).length).data.toList.length from rfl, x1, List.length_drop]
  have s2 : ((txt [r]).extract 0 ((wrap64 (w - 1)) : Int).toNat).size = (encB r).length - 1 := by
    rw [show ((txt [r]).extract 0 ((wrap64 (w - 1)) : Int).toNat).size = ((txt [r]).extract 0 ((wrap64 (w - 1)) : Int).toNat).data.toList.length from rfl, x2, List.length_take]
    omega
  rw [check_bad _ (by omega) (by omega) (by rw [x1]; exact e1)]
  simp only [Option.bind_some, if_true]
  rw [if_pos (by unfold wrap64; omega), if_pos (by unfold wrap64; omega), check_bad _ (by omega) (by omega) (by rw [x2]; exact e2)]
  rfl
theorem size_j3 (r : Int) (hr : isR r) (n : Nat) (w : Int) (hw : ((encB r).length : Int) = w) : chancellaw1_TextSize.j3 (n + 2) r (txt [r]) 0 w = some true := by
  simp only [chancellaw1_TextSize.j3]
  have hg : ∀ x ∈ [r], isR x := by intro x hx; rw [List.mem_singleton.1 hx]; exact hr
  rw [runes_txt [r] hg (by simp)]
  simp only [Option.bind_some, if_true]
  rw [txt_one, if_pos hw, if_pos (by simp), if_pos (by simp)]
  have h0 : (rd [r] 0 != wrap32 r) = false := by
    obtain ⟨h0, h1, h2⟩ := hr
    rw [show rd [r] 0 = r from rfl, show wrap32 r = r by unfold wrap32; omega]
    simp
  rw [h0]
  exact size_j4 r hr n w hw
theorem TextSize : chancellaw1_TextSize.Pure := by
  intro a0 _
  refine ⟨4002000, ?_⟩
  unfold chancellaw1_TextSize.f
  rw [known_true _ (by omega)]
  simp only [Option.bind_some, if_true]
  obtain ⟨t, ht, t0, t1⟩ := within_eq a0 1117112 (by omega) (by omega)
  rw [ht]
  simp only [Option.bind_some]
  obtain ⟨r, hr⟩ : ∃ r, t - 1000 = r := ⟨_, rfl⟩
  rw [show wrap64 (t - 1000) = r by unfold wrap64; omega, show wrap32 r = r by unfold wrap32; omega, text_of [r] (by simp) 4002000 (by simp)]
  simp only [Option.bind_some]
  by_cases hR : isR r
  · have hg : ∀ x ∈ [r], isR x := by intro x hx; rw [List.mem_singleton.1 hx]; exact hR
    rw [ofL_good _ hg]
    simp only
    have key : chancellaw1_TextSize.j0 4002000 r (txt [r]) 0 false = some true := by
      simp only [chancellaw1_TextSize.j0, Bool.false_eq_true, if_false]
      obtain ⟨h0, h1, h2⟩ := hR
      by_cases c1 : r < 128
      · rw [if_neg (by omega)]
        simp only [chancellaw1_TextSize.j1]
        rw [if_neg (by omega)]
        simp only [chancellaw1_TextSize.j2]
        rw [if_neg (by omega)]
        exact size_j3 r ⟨h0, h1, h2⟩ 4001995 1 (by rw [encB_one c1]; rfl)
      rw [if_pos (by omega)]
      simp only [chancellaw1_TextSize.j1]
      by_cases c2 : r < 2048
      · rw [if_neg (by omega)]
        simp only [chancellaw1_TextSize.j2]
        rw [if_neg (by omega)]
        exact size_j3 r ⟨h0, h1, h2⟩ 4001995 2 (by rw [encB_two c1 c2]; rfl)
      rw [if_pos (by omega)]
      simp only [chancellaw1_TextSize.j2]
      by_cases c3 : r < 65536
      · rw [if_neg (by omega)]
        exact size_j3 r ⟨h0, h1, h2⟩ 4001995 3 (by rw [encB_three c1 c2 c3]; rfl)
      rw [if_pos (by omega)]
      exact size_j3 r ⟨h0, h1, h2⟩ 4001995 4 (by rw [encB_four c1 c2 c3]; rfl)
    obtain ⟨h0, h1, h2⟩ := hR
    rw [if_neg (by omega), if_neg (by omega)]
    by_cases c : r ≥ 55296
    · rw [if_pos c, decide_eq_false (by omega)]
      exact key
    · rw [if_neg c]
      exact key
  · have e : ofL [] [r] = ((⟨#[]⟩ : ByteArray), 11) := by
      rcases ofL_cases [r] with ⟨h, _⟩ | h
      · exact absurd (h r (by simp)) hR
      · exact h
    rw [e]
    simp only
    have key : chancellaw1_TextSize.j0 4002000 r (⟨#[]⟩ : ByteArray) 11 true = some true := by
      simp only [chancellaw1_TextSize.j0, if_true]
      rw [show (⟨#[]⟩ : ByteArray).toList = [] by rw [Lib.toList_data]]
      rfl
    by_cases c1 : r < 0
    · rw [if_pos c1]
      exact key
    rw [if_neg c1]
    by_cases c2 : r > 1114111
    · rw [if_pos c2]
      exact key
    rw [if_neg c2, if_pos (by unfold isR at hR; omega), decide_eq_true (by unfold isR at hR; omega)]
    exact key
end Go.Proofs.YtapccgkkcgggiaaDoor.Pure
