import Derived.Test.YtapccgkkcgggiaaDoorKnownA
namespace Go.Proofs.YtapccgkkcgggiaaDoor.Pure
open Go.RowKit Go.Proofs.YtapccgkkcgggiaaDoor.GA Go.Proofs.YtapccgkkcgggiaaDoor.HandA Go.Proofs.YtapccgkkcgggiaaDoorW.PrintWords Go.Proofs.YtapccgkkcgggiaaDoorW.PrintLast
theorem txt_star : (⟨#[42]⟩ : ByteArray) = txt [42] := by decide +kernel
theorem txt_stars : (⟨#[42, 42]⟩ : ByteArray) = txt [42, 42] := by decide +kernel
theorem txt_888 : (⟨#[205, 184]⟩ : ByteArray) = txt [888] := by decide +kernel
theorem good_app {a b : List Int} (ha : ∀ r ∈ a, isR r) (hb : ∀ r ∈ b, isR r) : ∀ r ∈ a ++ b, isR r := fun r hr => (List.mem_append.1 hr).elim (ha r) (hb r)
/-- A pattern that takes a piece, whatever comes behind. -/
def Fits (p x : List Int) : Prop := ∀ q b, likes q b = true → likes (p ++ q) (x ++ b) = true
theorem fits_nil : Fits [] [] := fun _ _ h => h
theorem fits_same {p x : List Int} (h : Fits p x) (c : Int) (hc : c ≠ 42) : Fits (p ++ [c]) (x ++ [c]) := by
  intro q b hq
  rw [List.append_assoc, List.append_assoc]
  refine h _ _ ?_
  show likes (c :: q) (c :: b) = true
  rw [likes_cons hc, hq]
  simp
theorem fits_star {p x : List Int} (h : Fits p x) (c : Int) : Fits (p ++ [42]) (x ++ [c]) := by
  intro q b hq
  rw [List.append_assoc, List.append_assoc]
  refine h _ _ ?_
  exact star_drop q [c] b (star_here _ _ hq)
theorem fits_both {p x : List Int} (h : Fits p x) (c : Int) (hc : c ≠ 42) : Fits (p ++ [42] ++ [c]) (x ++ [c]) := by
  intro q b hq
  rw [List.append_assoc, List.append_assoc, List.append_assoc]
  refine h _ _ ?_
  refine star_here _ _ ?_
  show likes (c :: q) (c :: b) = true
  rw [likes_cons hc, hq]
  simp
/-- A pattern that ends in a sign asks for it at the end. -/
theorem ends_in (c : Int) (hc : c ≠ 42) : ∀ (n : Nat) (p l : List Int), p.length + l.length ≤ n → likes (p ++ [c]) l = true → c ∈ l
  | 0, p, l, hn, h => by
    have h1 : p = [] := List.eq_nil_of_length_eq_zero (by omega)
    have h2 : l = [] := List.eq_nil_of_length_eq_zero (by omega)
    subst h1; subst h2
    rw [List.nil_append, likes_cons_nil hc] at h
    cases h
  | n + 1, [], [], _, h => by rw [List.nil_append, likes_cons_nil hc] at h; cases h
  | n + 1, [], x :: l, _, h => by
    rw [List.nil_append, likes_cons hc, Bool.and_eq_true, beq_iff_eq] at h
    rw [h.1]; simp
  | n + 1, y :: p, [], hn, h => by
    by_cases hy : y = 42
    · subst hy
      rw [List.cons_append, likes_star_nil] at h
      exact ends_in c hc n p [] (by simp at hn ⊢; omega) h
    · rw [List.cons_append, likes_cons_nil hy] at h; cases h
  | n + 1, y :: p, x :: l, hn, h => by
    simp only [List.length_cons] at hn
    by_cases hy : y = 42
    · subst hy
      rw [List.cons_append, likes_star, Bool.or_eq_true] at h
      rcases h with h | h
      · exact ends_in c hc n p (x :: l) (by simp only [List.length_cons]; omega) h
      · exact List.mem_cons_of_mem _ (ends_in c hc n (42 :: p) l (by simp only [List.length_cons]; omega) h)
    · rw [List.cons_append, likes_cons hy, Bool.and_eq_true] at h
      exact List.mem_cons_of_mem _ (ends_in c hc n p l (by omega) h.2)
theorem stars_end (l p : List Int) (hl : l.length ≤ 40) (hg : ∀ r ∈ l, r ∈ some22) (h42 : ∀ r ∈ l, r ≠ 42) (hp : ∀ r ∈ p, r ∈ some22) (hpl : p.length ≤ 80) (hf : Fits p l) (n : Nat) (hn : 4000000 ≤ n) :
    ((chancelref1_Of.f n l).bind fun bt199 => ((chancelref1_Of.f n p).bind fun bt201 => ((text_Like.f n bt199.1 bt201.1).bind fun t203 => (if t203 = true then ((text_Like.f n bt199.1 (⟨#[42]⟩ : ByteArray)).bind fun t204 => (if t204 = true then (if bt201.1.size + 1 ≤ 9223372036854775807 then ((text_Like.f n bt199.1 (bt201.1 ++ (⟨#[42]⟩ : ByteArray))).bind fun t205 => (if t205 = true then (if 2 + bt201.1.size ≤ 9223372036854775807 then ((text_Like.f n bt199.1 ((⟨#[42, 42]⟩ : ByteArray) ++ bt201.1)).bind fun t206 => (if t206 = true then ((text_Like.f n bt199.1 bt199.1).bind fun t207 => (if t207 = true then (if bt201.1.size + 2 ≤ 9223372036854775807 then ((text_Like.f n bt199.1 (bt201.1 ++ (⟨#[205, 184]⟩ : ByteArray))).bind fun t208 => (if t208 = true then (some false) else (if bt199.1.size + 2 ≤ 9223372036854775807 then ((text_Like.f n (bt199.1 ++ (⟨#[205, 184]⟩ : ByteArray)) bt199.1).bind fun t209 => (some (!t209))) else (none)))) else (none)) else (some false))) else (some false))) else (none)) else (some false))) else (none)) else (some false))) else (some false))))) = some true := by
  have lR : ∀ r ∈ l, isR r := fun r hr => (some22_good r (hg r hr)).1
  have pR : ∀ r ∈ p, isR r := fun r hr => (some22_good r (hp r hr)).1
  have h888 : ∀ r ∈ [(888 : Int)], isR r := by decide
  have h42R : ∀ r ∈ [(42 : Int)], isR r := by decide
  have h4242 : ∀ r ∈ [(42 : Int), 42], isR r := by decide
  have z1 := encA_len l
  have z2 := encA_len p
  rw [of_eq l lR (by omega) n (by omega), of_eq p pR (by omega) n (by omega)]
  simp only [Option.bind_some]
  rw [txt_star, txt_stars, txt_888, txt_append, txt_append, txt_append, txt_append, like_eq l p lR pR (by omega) (by omega) n hn, like_eq l [42] lR h42R (by omega) (by simp) n hn,
    like_eq l (p ++ [42]) lR (good_app pR h42R) (by omega) (by simp; omega) n hn, like_eq l ([42, 42] ++ p) lR (good_app h4242 pR) (by omega) (by simp; omega) n hn, like_eq l l lR lR (by omega) (by omega) n hn,
    like_eq l (p ++ [888]) lR (good_app pR h888) (by omega) (by simp; omega) n hn, like_eq (l ++ [888]) l (good_app lR h888) lR (by simp; omega) (by omega) n hn]
  have e0 : likes [] [] = true := by rw [likes_nil]; rfl
  have e1 : likes p l = true := by
    have := hf [] [] e0
    rwa [List.append_nil, List.append_nil] at this
  have e2 : likes [42] l = true := by
    have := star_drop [] l [] (star_here [] [] e0)
    rwa [List.append_nil] at this
  have e3 : likes (p ++ [42]) l = true := by
    have := hf [42] [] (star_here [] [] e0)
    rwa [List.append_nil] at this
  have e4 : likes ([42, 42] ++ p) l = true := star_here _ _ (star_here _ _ e1)
  have e5 : likes l l = true := by
    have := seg_likes l [] [] h42
    rw [List.append_nil] at this
    rw [this, e0]
  have e6 : likes (p ++ [888]) l = false := by
    rw [Bool.eq_false_iff]
    intro h
    have := ends_in 888 (by decide) _ p l (Nat.le_refl _) h
    exact (some22_good 888 (hg 888 this)).2 rfl
  have e7 : likes l (l ++ [888]) = false := by
    have := seg_likes l [] [888] h42
    rw [List.append_nil] at this
    rw [this, likes_nil]
    rfl
  rw [e1, e2, e3, e4, e5, e6, e7]
  simp only [Option.bind_some, if_true, Bool.false_eq_true, if_false, Bool.not_false]
  rw [if_pos (by rw [txt_size]; omega), if_pos (by rw [txt_size]; omega), if_pos (by rw [txt_size]; omega), if_pos (by rw [txt_size]; omega)]
/-- The inner loop ends, with some answer. -/
theorem stars_l2 (at1 l p : List Int) (kk : Int) (i : Nat) (hl : l.length ≤ 40) (hpos : 0 < l.length) (d : Nat) : ∀ (j n : Nat) (f : Bool), 10 - j = d → j ≤ 10 → d < n → ∃ (m : Nat) (g : Bool), n ≤ m + d + 1 ∧ m + 1 ≤ n ∧ chancellaw1_TextStars.l2 n at1 l p kk i f j = chancellaw1_TextStars.j3 m at1 l p kk i g := by
  induction d with
  | zero =>
    intro j n f h1 h2 h3
    obtain ⟨n, rfl⟩ : ∃ q, n = q + 1 := ⟨n - 1, by omega⟩
    refine ⟨n, f, by omega, by omega, ?_⟩
    rw [chancellaw1_TextStars.l2]
    by_cases h : (j : Int) < (at1.length : Int)
    · rw [if_pos h, if_neg (by omega)]
    · rw [if_neg h]
  | succ d ih =>
    intro j n f h1 h2 h3
    obtain ⟨n, rfl⟩ : ∃ q, n = q + 1 := ⟨n - 1, by omega⟩
    by_cases h : (j : Int) < (at1.length : Int)
    · obtain ⟨t, ht, _, _⟩ := within_eq (rd at1 j) (l.length : Int) (by omega) (by omega)
      cases f with
      | true =>
        obtain ⟨m, g, m1, m2, m3⟩ := ih (j + 1) n true (by omega) (by omega) (by omega)
        refine ⟨m, g, by omega, by omega, ?_⟩
        rw [chancellaw1_TextStars.l2, if_pos h, if_pos (by omega), if_pos rfl, show wrap64 ((j : Int) + 1) = ((j + 1 : Nat) : Int) by unfold wrap64; omega]
        exact m3
      | false =>
        obtain ⟨m, g, m1, m2, m3⟩ := ih (j + 1) n (t == (i : Int)) (by omega) (by omega) (by omega)
        refine ⟨m, g, by omega, by omega, ?_⟩
        rw [chancellaw1_TextStars.l2, if_pos h, if_pos (by omega), if_neg (by decide), if_pos (by omega), ht, Option.bind_some, show wrap64 ((j : Int) + 1) = ((j + 1 : Nat) : Int) by unfold wrap64; omega]
        exact m3
    · refine ⟨n, f, by omega, by omega, ?_⟩
      rw [chancellaw1_TextStars.l2, if_neg h]
theorem stars_l1 (at1 l : List Int) (kk : Int) (hl : l.length ≤ 40) (hg : ∀ r ∈ l, r ∈ some22) (h42 : ∀ r ∈ l, r ≠ 42) (d : Nat) : ∀ (i n : Nat) (p : List Int), l.length - i = d → i ≤ l.length → 4000010 + 20 * d < n → Fits p (l.take i) → (∀ r ∈ p, r ∈ some22) → p.length ≤ 2 * i →
    chancellaw1_TextStars.l1 n at1 l p kk i = some true := by
  induction d with
  | zero =>
    intro i n p h1 h2 h3 h4 h5 h6
    obtain ⟨n, rfl⟩ : ∃ q, n = q + 1 := ⟨n - 1, by omega⟩
    rw [chancellaw1_TextStars.l1, if_neg (by omega)]
    rw [List.take_of_length_le (by omega)] at h4
    exact stars_end l p hl hg h42 h5 (by omega) h4 n (by omega)
  | succ d ih =>
    intro i n p h1 h2 h3 h4 h5 h6
    obtain ⟨n, rfl⟩ : ∃ q, n = q + 1 := ⟨n - 1, by omega⟩
    have hi : i < l.length := by omega
    obtain ⟨m, g, m1, m2, m3⟩ := stars_l2 at1 l p kk i hl (by omega) 10 0 n false rfl (by omega) (by omega)
    rw [show ((0 : Nat) : Int) = 0 from rfl] at m3
    rw [chancellaw1_TextStars.l1, if_pos (by omega), m3]
    obtain ⟨m, rfl⟩ : ∃ q, m = q + 1 := ⟨m - 1, by omega⟩
    have hmem : l[i]'hi ∈ l := List.getElem_mem hi
    have htk := List.take_succ_eq_append_getElem hi
    have happ : ∀ {a b : List Int}, (∀ r ∈ a, r ∈ some22) → (∀ r ∈ b, r ∈ some22) → ∀ r ∈ a ++ b, r ∈ some22 := fun ha hb r hr => (List.mem_append.1 hr).elim (ha r) (hb r)
    have one : ∀ r ∈ [l[i]'hi], r ∈ some22 := fun r hr => by rw [List.mem_singleton.1 hr]; exact hg _ hmem
    have star1 : ∀ r ∈ [(42 : Int)], r ∈ some22 := by decide
    rw [chancellaw1_TextStars.j3]
    have hw : wrap64 ((i : Int) + 1) = ((i + 1 : Nat) : Int) := by unfold wrap64; omega
    cases g with
    | true =>
      rw [if_pos rfl, if_pos (by omega), Option.bind_some]
      by_cases hk : (i : Int) < kk
      · rw [if_pos hk, if_pos (by omega), if_pos (by omega), if_pos (by simp; omega), rd_at l i hi, hw]
        exact ih (i + 1) m _ (by omega) (by omega) (by omega) (by rw [htk]; exact fits_both h4 _ (h42 _ hmem)) (happ (happ h5 star1) one) (by simp; omega)
      · rw [if_neg hk, hw]
        exact ih (i + 1) m _ (by omega) (by omega) (by omega) (by rw [htk]; exact fits_star h4 _) (happ h5 star1) (by simp; omega)
    | false =>
      rw [if_neg (by decide), if_pos (by omega), if_pos (by omega), if_pos (by omega), rd_at l i hi, hw]
      exact ih (i + 1) m _ (by omega) (by omega) (by omega) (by rw [htk]; exact fits_same h4 _ (h42 _ hmem)) (happ h5 one) (by simp; omega)
theorem stars_l0 (at1 : List Int) (cut : Int) (rs : List Int) (hl : rs.length ≤ 40) (hg : ∀ r ∈ rs, r ∈ some22) (d : Nat) : ∀ (i n : Nat) (acc : List Int), rs.length - i = d → i ≤ rs.length → 4001000 + d < n → acc.length ≤ i → (∀ r ∈ acc, r ∈ some22) → (∀ r ∈ acc, r ≠ 42) →
    chancellaw1_TextStars.l0 n at1 cut rs acc i = some true := by
  induction d with
  | zero =>
    intro i n acc h1 h2 h3 h4 h5 h6
    obtain ⟨n, rfl⟩ : ∃ q, n = q + 1 := ⟨n - 1, by omega⟩
    obtain ⟨t, ht, _, _⟩ := within_eq cut ((acc.length : Int) + 1) (by omega) (by omega)
    rw [chancellaw1_TextStars.l0, if_neg (by omega), show wrap64 ((acc.length : Int) + 1) = (acc.length : Int) + 1 by unfold wrap64; omega, ht, Option.bind_some]
    exact stars_l1 at1 acc t (by omega) h5 h6 _ 0 n [] rfl (by omega) (by omega) fits_nil (by simp) (by simp)
  | succ d ih =>
    intro i n acc h1 h2 h3 h4 h5 h6
    obtain ⟨n, rfl⟩ : ∃ q, n = q + 1 := ⟨n - 1, by omega⟩
    have hi : i < rs.length := by omega
    rw [chancellaw1_TextStars.l0, if_pos (by omega), if_pos (by omega), rd_at rs i hi, show wrap64 ((i : Int) + 1) = ((i + 1 : Nat) : Int) by unfold wrap64; omega]
    by_cases h : rs[i]'hi = 42
    · rw [if_pos h]
      exact ih (i + 1) n acc (by omega) (by omega) (by omega) (by omega) h5 h6
    · rw [if_neg h, if_pos (by omega)]
      refine ih (i + 1) n _ (by omega) (by omega) (by omega) (by simp; omega) ?_ ?_
      · intro r hr
        rcases List.mem_append.1 hr with h' | h'
        · exact h5 r h'
        · rw [List.mem_singleton.1 h']; exact hg _ (List.getElem_mem hi)
      · intro r hr
        rcases List.mem_append.1 hr with h' | h'
        · exact h6 r h'
        · rw [List.mem_singleton.1 h']; exact h
theorem TextStars : chancellaw1_TextStars.Pure := by
  intro l0 l1 cut _ _ _ _ _ _ _
  refine ⟨4002000, ?_⟩
  obtain ⟨a, a1, a2, a3⟩ := law_of l0
  have ha : ∀ r ∈ a, isR r := fun r hr => (some22_good r (a2 r hr)).1
  unfold chancellaw1_TextStars.f
  rw [known_true _ (by omega), a3 4002000 (by omega)]
  simp only [Option.bind_some, if_true]
  rw [ref_runes_txt a ha (by omega) 4002000 (by omega), Option.bind_some]
  exact stars_l0 l1 cut a a1 a2 _ 0 4002000 [] rfl (by omega) (by omega) (by simp) (by simp) (by simp)
end Go.Proofs.YtapccgkkcgggiaaDoor.Pure
