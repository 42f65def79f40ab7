import Derived.Test.YtapccgkkcgggiaaDoorKnownA
import Derived.Lib.Strings
namespace Go.Proofs.YtapccgkkcgggiaaDoor.Pure
open Go.RowKit Go.Proofs.YtapccgkkcgggiaaDoor.GA Go.Proofs.YtapccgkkcgggiaaDoor.HandA Go.Proofs.YtapccgkkcgggiaaDoorW.PrintWords Go.Proofs.YtapccgkkcgggiaaDoorW.PrintLast
theorem stars_on : ∀ (m : Nat) (ps b : List Int), likes ps b = true → likes (List.replicate m 42 ++ ps) b = true
  | 0, _, _, h => h
  | m + 1, ps, b, h => by
    rw [List.replicate_succ, List.cons_append]
    exact star_here _ _ (stars_on m ps b h)
theorem stars_any (m : Nat) (ps x b : List Int) (h : likes ps b = true) : likes (List.replicate (m + 1) 42 ++ ps) (x ++ b) = true := by
  rw [List.replicate_succ, List.cons_append]
  exact star_drop _ x b (star_here _ _ (stars_on m ps b h))
theorem likes_plain (b a : List Int) (hb : ∀ c ∈ b, c ≠ 42) : likes b a = (a == b) := by
  rw [Bool.eq_iff_iff, beq_iff_eq]
  constructor
  · intro h
    have := seg_split b [] a hb (by rw [List.append_nil]; exact h)
    obtain ⟨c, rfl, hc⟩ := this
    rw [likes_nil] at hc
    rw [List.isEmpty_iff.1 hc, List.append_nil]
  · intro h
    subst h
    have := seg_likes a [] [] hb
    rw [List.append_nil, likes_nil] at this
    exact this
theorem txt_nil : (⟨#[]⟩ : ByteArray) = txt [] := by decide +kernel
theorem txt_star : (⟨#[42]⟩ : ByteArray) = txt [42] := by decide +kernel
theorem txt_a : (⟨#[97]⟩ : ByteArray) = txt [97] := by decide +kernel
theorem txt_list (a : List Int) : (txt a).toList = encA a := by rw [Lib.toList_data]; rfl
theorem good_stars (m : Nat) : ∀ r ∈ List.replicate m (42 : Int), isR r := by
  intro r hr
  rw [(List.mem_replicate.1 hr).2]
  decide
theorem good_app {a b : List Int} (ha : ∀ r ∈ a, isR r) (hb : ∀ r ∈ b, isR r) : ∀ r ∈ a ++ b, isR r := fun r hr => (List.mem_append.1 hr).elim (ha r) (hb r)
theorem lonely_j2 (a : List Int) (ha : ∀ r ∈ a, isR r) (hl : a.length ≤ 40) (m n : Nat) (hm : m ≤ 5) (hn : 4000000 ≤ n) : chancellaw1_TextLonely.j2 (n + 1) (txt a) (txt (List.replicate (m + 1) 42)) false = some true := by
  have h97 : ∀ r ∈ [(97 : Int)], isR r := by decide
  have hs := good_stars (m + 1)
  have hlen : (List.replicate (m + 1) (42 : Int)).length = m + 1 := List.length_replicate
  simp only [chancellaw1_TextLonely.j2, Bool.false_eq_true, if_false]
  have z1 := encA_len (List.replicate (m + 1) (42 : Int))
  have z2 := encA_len a
  rw [like_eq a _ ha hs (by omega) (by omega) n hn, txt_nil, like_eq [] _ (by simp) hs (by simp) (by omega) n hn, like_eq [] [] (by simp) (by simp) (by simp) (by simp) n hn, like_eq a [] ha (by simp) (by omega) (by simp) n hn, txt_a, txt_append, txt_append,
    like_eq [] _ (by simp) (good_app hs h97) (by simp) (by rw [List.length_append]; simp; omega) n hn, like_eq _ _ (good_app ha h97) (good_app hs h97) (by rw [List.length_append]; simp; omega) (by rw [List.length_append]; simp; omega) n hn]
  have e1 : likes (List.replicate (m + 1) 42) a = true := by
    have := stars_any m [] a [] (by rw [likes_nil]; rfl)
    rwa [List.append_nil, List.append_nil] at this
  have e2 : likes (List.replicate (m + 1) 42) [] = true := by
    have := stars_on (m + 1) [] [] (by rw [likes_nil]; rfl)
    rwa [List.append_nil] at this
  have e3 : likes [] [] = true := by rw [likes_nil]; rfl
  have e4 : likes (List.replicate (m + 1) 42 ++ [97]) [] = false := by
    rw [likes_empty, List.all_append]
    simp
  have e5 : likes (List.replicate (m + 1) 42 ++ [97]) (a ++ [97]) = true := stars_any m [97] a [97] (by rw [likes_cons (by decide), likes_nil]; rfl)
  have e6 : (likes [] a == ((txt a).toList == ([] : List UInt8))) = true := by
    rw [likes_nil, txt_list]
    cases a with
    | nil => rfl
    | cons x t =>
      have := encA_len (x :: t)
      have : encA (x :: t) ≠ [] := by intro e; rw [e] at this; simp at this
      rw [beq_eq_false_iff_ne.mpr this]
      rfl
  rw [e1, e2, e3, e4, e5]
  simp only [Option.bind_some, if_true]
  rw [if_pos e6, if_pos (by rw [txt_size]; omega), if_neg (by decide), if_pos (by rw [txt_size]; omega)]
theorem lonely_l1 (a b : List Int) (ha : ∀ r ∈ a, isR r) (hb : ∀ r ∈ b, isR r) (hl : a.length ≤ 40) (hl2 : b.length ≤ 40) (m : Nat) (hm : m ≤ 5) (d : Nat) : ∀ (i n : Nat) (f : Bool), (encA b).length - i = d → i ≤ (encA b).length → 4000010 + d < n → (f = true → ∀ c ∈ (encA b).take i, c ≠ 42) →
    chancellaw1_TextLonely.l1 n (txt a) (txt b) (txt (List.replicate (m + 1) 42)) f i = some true := by
  induction d with
  | zero =>
    intro i n f h1 h2 h3 h4
    obtain ⟨n, rfl⟩ : ∃ q, n = q + 2 := ⟨n - 2, by omega⟩
    rw [show n + 2 = (n + 1) + 1 from rfl, chancellaw1_TextLonely.l1, if_neg (by rw [txt_size]; omega)]
    cases f with
    | false => rw [if_neg (by decide)]; exact lonely_j2 a ha hl m n hm (by omega)
    | true =>
      rw [if_pos rfl, like_eq a b ha hb (by omega) (by omega) (n + 1) (by omega)]
      simp only [Option.bind_some]
      have hno : ∀ c ∈ b, c ≠ 42 := by
        intro c hc e
        subst e
        have h5 := h4 rfl
        rw [List.take_of_length_le (by omega)] at h5
        have : ∀ l : List Int, (42 : Int) ∈ l → (42 : UInt8) ∈ encA l := by
          intro l
          induction l with
          | nil => intro h; cases h
          | cons x l ih =>
            intro h
            rcases List.mem_cons.1 h with h | h
            · subst h
              simp only [encA]
              exact List.mem_append.2 (.inl (by decide))
            · simp only [encA]
              exact List.mem_append.2 (.inr (ih h))
        exact h5 42 (this b hc) rfl
      have he : (likes b a != ((txt a).toList == (txt b).toList)) = false := by
        rw [likes_plain b a hno, txt_list, txt_list]
        by_cases hab : a = b
        · subst hab; simp
        · rw [beq_eq_false_iff_ne.mpr hab, beq_eq_false_iff_ne.mpr (fun e => hab (txt_inj ha hb e))]; rfl
      rw [he]
      exact lonely_j2 a ha hl m n hm (by omega)
  | succ d ih =>
    intro i n f h1 h2 h3 h4
    obtain ⟨n, rfl⟩ : ∃ q, n = q + 1 := ⟨n - 1, by omega⟩
    have hz := encA_len b
    have hi : i < (encA b).length := by omega
    rw [chancellaw1_TextLonely.l1, if_pos (by rw [txt_size]; omega), show wrap64 ((i : Int) + 1) = ((i + 1 : Nat) : Int) by unfold wrap64; omega]
    cases f with
    | false => rw [if_neg (by decide)]; exact ih (i + 1) n false (by omega) (by omega) (by omega) (fun h => by cases h)
    | true =>
      rw [if_pos rfl, if_pos (by omega)]
      refine ih (i + 1) n _ (by omega) (by omega) (by omega) ?_
      intro hne c hc
      rw [List.take_succ_eq_append_getElem hi] at hc
      rcases List.mem_append.1 hc with h | h
      · exact h4 rfl c h
      · rw [List.mem_singleton.1 h]
        have hlt : i < (txt b).size := by rw [txt_size]; exact hi
        have hbt : bt (txt b) (i : Int) = (((encA b)[i]'hi).toNat : Int) := by
          unfold bt
          rw [dif_pos (by omega)]
          have : ((i : Int)).toNat = i := by omega
          simp only [this]
          rfl
        rw [hbt] at hne
        intro e
        rw [e] at hne
        exact absurd hne (by decide)
theorem lonely_l0 (a b : List Int) (ha : ∀ r ∈ a, isR r) (hb : ∀ r ∈ b, isR r) (hl : a.length ≤ 40) (hl2 : b.length ≤ 40) (st : Int) (c : Nat) (hc : chancellaw1_within.f st 5 = some (c : Int)) (hc5 : c < 5) (d : Nat) : ∀ (j n : Nat), (1 + c) - j = d → j ≤ 1 + c → 4000300 + d < n →
    chancellaw1_TextLonely.l0 n st (txt a) (txt b) (txt (List.replicate j 42)) j = some true := by
  induction d with
  | zero =>
    intro j n h1 h2 h3
    obtain ⟨n, rfl⟩ : ∃ q, n = q + 1 := ⟨n - 1, by omega⟩
    obtain rfl : j = c + 1 := by omega
    have hz := encA_len b
    rw [chancellaw1_TextLonely.l0, hc, Option.bind_some, show wrap64 (1 + (c : Int)) = 1 + (c : Int) by unfold wrap64; omega, if_neg (by omega)]
    exact lonely_l1 a b ha hb hl hl2 c (by omega) _ 0 n true rfl (Nat.zero_le _) (by omega) (fun _ => by simp)
  | succ d ih =>
    intro j n h1 h2 h3
    obtain ⟨n, rfl⟩ : ∃ q, n = q + 1 := ⟨n - 1, by omega⟩
    have hz := encA_len (List.replicate j (42 : Int))
    rw [List.length_replicate] at hz
    rw [chancellaw1_TextLonely.l0, hc, Option.bind_some, show wrap64 (1 + (c : Int)) = 1 + (c : Int) by unfold wrap64; omega, if_pos (by omega), if_pos (by rw [txt_size]; omega), txt_star, txt_append, ← List.replicate_succ', show wrap64 ((j : Int) + 1) = ((j + 1 : Nat) : Int) by unfold wrap64; omega]
    exact ih (j + 1) n (by omega) (by omega) (by omega)
theorem TextLonely : chancellaw1_TextLonely.Pure := by
  intro l0 l1 st _ _ _ _ _ _ _
  refine ⟨4001000, ?_⟩
  obtain ⟨a, a1, a2, a3⟩ := law_of l0
  obtain ⟨b, b1, b2, b3⟩ := law_of l1
  have ha : ∀ r ∈ a, isR r := fun r hr => (some22_good r (a2 r hr)).1
  have hb : ∀ r ∈ b, isR r := fun r hr => (some22_good r (b2 r hr)).1
  obtain ⟨c, hc, c0, c1⟩ := within_eq st 5 (by omega) (by omega)
  obtain ⟨c, rfl⟩ : ∃ q : Nat, c = q := ⟨c.toNat, by omega⟩
  unfold chancellaw1_TextLonely.f
  rw [known_true _ (by omega), a3 4001000 (by omega), b3 4001000 (by omega)]
  simp only [Option.bind_some, if_true]
  rw [txt_nil]
  exact lonely_l0 a b ha hb a1 b1 st c hc (by omega) _ 0 4001000 rfl (by omega) (by omega)
end Go.Proofs.YtapccgkkcgggiaaDoor.Pure
