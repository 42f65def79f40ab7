import Derived.Test.YtapccgkkcgggiaaDoorQuoteLibB2
import Derived.Test.YtapccgkkcgggiaaDoorKnownB
import Derived.Test.YtapccgkkcgggiaaDoorGB14
namespace Go.Proofs.YtapccgkkcgggiaaDoor.Pure
open Go.RowKit Go.Proofs.YtapccgkkcgggiaaDoor.GB Go.Proofs.YtapccgkkcgggiaaDoor.HandB Go.Proofs.YtapccgkkcgggiaaDoorW.PrintWords Go.Proofs.YtapccgkkcgggiaaDoorW.PrintLast
theorem enc_bytes (r : Int) (hr : isR r) : ∀ x ∈ encB r, x.toNat ≠ 192 ∧ x.toNat ≠ 193 ∧ x.toNat ≤ 244 := by
  obtain ⟨h0, h1, h2⟩ := hr
  intro x hx
  by_cases c1 : r < 128
  · rw [encB_one c1] at hx
    rw [List.mem_singleton.1 hx, tn _ (by omega)]
    omega
  by_cases c2 : r < 2048
  · rw [encB_two c1 c2] at hx
    simp only [List.mem_cons, List.mem_nil_iff, or_false] at hx
    rcases hx with rfl | rfl <;> (rw [tn _ (by omega)]; omega)
  by_cases c3 : r < 65536
  · rw [encB_three c1 c2 c3] at hx
    simp only [List.mem_cons, List.mem_nil_iff, or_false] at hx
    rcases hx with rfl | rfl | rfl <;> (rw [tn _ (by omega)]; omega)
  · rw [encB_four c1 c2 c3] at hx
    simp only [List.mem_cons, List.mem_nil_iff, or_false] at hx
    rcases hx with rfl | rfl | rfl | rfl <;> (rw [tn _ (by omega)]; omega)
theorem encA_bytes : ∀ rs : List Int, (∀ r ∈ rs, isR r) → ∀ x ∈ encA rs, x.toNat ≠ 192 ∧ x.toNat ≠ 193 ∧ x.toNat ≤ 244
  | [], _, x, hx => by simp [encA] at hx
  | r :: rs, h, x, hx => by
    rw [encA] at hx
    rcases List.mem_append.1 hx with hx | hx
    · exact enc_bytes r (h r (by simp)) x hx
    · exact encA_bytes rs (fun y hy => h y (by simp [hy])) x hx
/-- A byte that no text has. -/
def badB (c : UInt8) : Prop := c.toNat = 192 ∨ c.toNat = 193 ∨ 245 ≤ c.toNat
theorem dec_bad (c : UInt8) (l : List UInt8) (h : badB c) : decL (c :: l) = (65533, 1) := by
  rcases dec_cases (c :: l) (by simp) with hd | ⟨r, hr, hd, hdr⟩
  · exact hd
  · exfalso
    have hb := encB_pos r
    obtain ⟨x, t, hx⟩ : ∃ x t, encB r = x :: t := by
      cases he : encB r with
      | nil => rw [he] at hb; simp at hb
      | cons x t => exact ⟨x, t, rfl⟩
    have := enc_bytes r hr x (by rw [hx]; simp)
    rw [hx, List.cons_append] at hdr
    rw [← (List.cons.inj hdr).1] at this
    unfold badB at h
    omega
theorem check_mid (s : ByteArray) (hs : s.size ≤ 1000000) (a b : List UInt8) (c : UInt8) (h : badB c) (e : s.data.toList = a ++ [c] ++ b) : text_Check.f s = some 11 := by
  rcases check_cases s hs with hc | ⟨_, rs, hr, he⟩
  · exact hc
  · exfalso
    have hm : c ∈ encA rs := by
      have : s.data.toList = encA rs := by rw [he]; rfl
      rw [← this, e]
      simp
    have := encA_bytes rs hr c hm
    unfold badB at h
    omega
theorem read_bad (c : UInt8) (l : List UInt8) (h : badB c) : (readT (34 :: c :: l)).2.2 = 11 := by
  have hs : stepL (c :: l) = (0, 0, 11) := by
    unfold stepL
    unfold badB at h
    rw [if_neg (by simp), if_neg (by rw [at_zero]; omega), dec_bad c l h, if_pos ⟨rfl, rfl⟩]
  unfold readT
  rw [if_neg (by rintro (h | h); · simp at h
                 · exact h rfl)]
  rw [show (34 :: c :: l).length = (c :: l).length + 1 from rfl, readL, show List.drop 1 (34 :: c :: l) = c :: l from rfl, if_neg (by simp), if_neg (by rw [at_zero]; unfold badB at h; omega), hs, if_neg (by decide)]
theorem bad_cut : ∀ b : Fin 6, (([255, 254, 192, 193, 248, 245] : List Int).take (b.val + 1)).drop b.val = [([255, 254, 192, 193, 248, 245] : List Int).getD b.val 0] := by decide
theorem bad_is : ∀ b : Fin 6, (UInt8.ofNat (([255, 254, 192, 193, 248, 245] : List Int).getD b.val 0).toNat).toNat = 192 ∨ (UInt8.ofNat (([255, 254, 192, 193, 248, 245] : List Int).getD b.val 0).toNat).toNat = 193 ∨ 245 ≤ (UInt8.ofNat (([255, 254, 192, 193, 248, 245] : List Int).getD b.val 0).toNat).toNat := by decide
theorem one_num (z : Int) : (strOfNums [z]).data.toList = [UInt8.ofNat z.toNat] := by rw [strOfNums_data]; rfl
theorem TextBad : chancellaw1_TextBad.Pure := by
  intro l0 a1 a2 _ _ _ _ _
  suffices hs : ∀ n : Nat, 4000000 ≤ n → chancellaw1_TextBad.f n l0 a1 a2 = some true from ⟨4000000, hs 4000000 (by omega)⟩
  intro n hn
  unfold chancellaw1_TextBad.f
  obtain ⟨a, g1, g2, g3⟩ := law_of l0
  have hz := encA_len a
  have hsz := txt_size a
  obtain ⟨i, hi, i0, i1⟩ := within_eq a1 ((txt a).size + 1) (by omega) (by omega)
  obtain ⟨b, hb, b0, b1⟩ := within_eq a2 6 (by omega) (by omega)
  obtain ⟨i, rfl⟩ : ∃ m : Nat, i = m := ⟨i.toNat, by omega⟩
  obtain ⟨b, rfl⟩ : ∃ m : Nat, b = m := ⟨b.toNat, by omega⟩
  have hcut := bad_cut ⟨b, by omega⟩
  have hbad := bad_is ⟨b, by omega⟩
  simp only at hcut hbad
  generalize ([255, 254, 192, 193, 248, 245] : List Int).getD b 0 = z at hcut hbad
  have x1 : ((txt a).extract 0 i).size ≤ 160 := by rw [ByteArray.size_extract]; omega
  have x2 : ((txt a).extract i (txt a).size).size ≤ 160 := by rw [ByteArray.size_extract]; omega
  have x3 : (strOfNums [z]).size = 1 := by rw [show (strOfNums [z]).size = (strOfNums [z]).data.toList.length from rfl, one_num]; rfl
  have e1 : (((txt a).extract 0 i ++ strOfNums [z]) ++ (txt a).extract i (txt a).size).data.toList = ((txt a).extract 0 i).data.toList ++ [UInt8.ofNat z.toNat] ++ ((txt a).extract i (txt a).size).data.toList := by
    rw [Go.Joins.data_append, Go.Joins.data_append, one_num]
  have hck := check_mid (((txt a).extract 0 i ++ strOfNums [z]) ++ (txt a).extract i (txt a).size) (by rw [ByteArray.size_append, ByteArray.size_append]; omega) _ _ _ hbad e1
  have x0 : (⟨#[34]⟩ : ByteArray).size = 1 := rfl
  rw [known_true _ (by omega), Option.bind_some, if_pos rfl, g3 n (by omega), Option.bind_some, Option.bind_some, show wrap64 (((txt a).size : Int) + 1) = ((txt a).size : Int) + 1 by unfold wrap64; omega, hi, Option.bind_some, if_pos i0, if_pos (by omega), hb, Option.bind_some, Option.bind_some, if_pos b0,
    show wrap64 ((b : Int) + 1) = ((b + 1 : Nat) : Int) by unfold wrap64; omega, if_pos (by omega), if_pos (by simp only [List.length_cons, List.length_nil]; omega), Option.bind_some, show (((b + 1 : Nat) : Int)).toNat = b + 1 by omega, show ((b : Nat) : Int).toNat = b by omega, hcut, show ((i : Nat) : Int).toNat = i by omega,
    if_pos (by omega), if_pos (by rw [ByteArray.size_append]; omega), if_pos (by rw [ByteArray.size_append, ByteArray.size_append]; omega), if_pos (by rw [ByteArray.size_append, ByteArray.size_append, ByteArray.size_append]; omega)]
  rw [text_read_eq _ (by rw [ByteArray.size_append, ByteArray.size_append, ByteArray.size_append, ByteArray.size_append]; omega) n (by rw [ByteArray.size_append, ByteArray.size_append, ByteArray.size_append, ByteArray.size_append]; omega), Option.bind_some, hck, Option.bind_some, if_pos rfl]
  by_cases c : i = 0
  · subst c
    have e2 : (((⟨#[34]⟩ : ByteArray) ++ (((txt a).extract 0 0 ++ strOfNums [z]) ++ (txt a).extract 0 (txt a).size)) ++ (⟨#[34]⟩ : ByteArray)).data.toList = 34 :: UInt8.ofNat z.toNat :: (((txt a).extract 0 (txt a).size).data.toList ++ [34]) := by
      rw [Go.Joins.data_append, Go.Joins.data_append, e1, show ((txt a).extract 0 0).data.toList = [] by rw [Lib.extract_data]; rfl]
      rfl
    rw [e2, if_pos (read_bad _ _ hbad)]
  · split
    · rfl
    split
    · rfl
    · rw [decide_eq_true (by omega)]
end Go.Proofs.YtapccgkkcgggiaaDoor.Pure
