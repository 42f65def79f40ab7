import Derived.Test.YtapccgkkcgggiaaDoorTextLibB2
namespace Go.Proofs.YtapccgkkcgggiaaDoor.Pure
open Go.RowKit Go.Proofs.YtapccgkkcgggiaaDoor.GB Go.Proofs.YtapccgkkcgggiaaDoor.HandB Go.Proofs.YtapccgkkcgggiaaDoorW.PrintWords Go.Proofs.YtapccgkkcgggiaaDoorW.PrintLast
/-! ### what a pattern means -/
/-- Is a text like a pattern? -/
def likes : List Int → List Int → Bool
  | [], a => a.isEmpty
  | p :: ps, [] => p == 42 && likes ps []
  | p :: ps, x :: t => if p = 42 then likes ps (x :: t) || likes (p :: ps) t else x == p && likes ps t
termination_by p a => p.length + a.length
theorem likes_nil (a : List Int) : likes [] a = a.isEmpty := by rw [likes]
theorem likes_star_nil (ps : List Int) : likes (42 :: ps) [] = likes ps [] := by rw [likes]; rfl
theorem likes_star (ps : List Int) (x : Int) (t : List Int) : likes (42 :: ps) (x :: t) = (likes ps (x :: t) || likes (42 :: ps) t) := by rw [likes, if_pos rfl]
theorem likes_cons {p : Int} (hp : p ≠ 42) (ps : List Int) (x : Int) (t : List Int) : likes (p :: ps) (x :: t) = (x == p && likes ps t) := by rw [likes, if_neg hp]
theorem likes_cons_nil {p : Int} (hp : p ≠ 42) (ps : List Int) : likes (p :: ps) [] = false := by rw [likes, beq_eq_false_iff_ne.mpr hp]; rfl
/-- A star takes any piece. -/
theorem star_drop (ps : List Int) : ∀ (x a : List Int), likes (42 :: ps) a = true → likes (42 :: ps) (x ++ a) = true
  | [], _, h => h
  | y :: x, a, h => by rw [List.cons_append, likes_star, star_drop ps x a h, Bool.or_true]
theorem star_here (ps a : List Int) (h : likes ps a = true) : likes (42 :: ps) a = true := by
  cases a with
  | nil => rw [likes_star_nil]; exact h
  | cons x t => rw [likes_star, h, Bool.true_or]
theorem star_some (ps : List Int) : ∀ a : List Int, likes (42 :: ps) a = true → ∃ x b, a = x ++ b ∧ likes ps b = true
  | [], h => ⟨[], [], rfl, by rwa [likes_star_nil] at h⟩
  | y :: t, h => by
    rw [likes_star, Bool.or_eq_true] at h
    rcases h with h | h
    · exact ⟨[], y :: t, rfl, h⟩
    · obtain ⟨x, b, rfl, hb⟩ := star_some ps t h
      exact ⟨y :: x, b, rfl, hb⟩
/-- A piece without stars is met sign by sign. -/
theorem seg_likes : ∀ (seg ps a : List Int), (∀ c ∈ seg, c ≠ 42) → likes (seg ++ ps) (seg ++ a) = likes ps a
  | [], _, _, _ => rfl
  | c :: seg, ps, a, h => by
    rw [List.cons_append, List.cons_append, likes_cons (h c (by simp)), seg_likes seg ps a (fun x hx => h x (by simp [hx]))]
    simp
theorem seg_split : ∀ (seg ps a : List Int), (∀ c ∈ seg, c ≠ 42) → likes (seg ++ ps) a = true → ∃ b, a = seg ++ b ∧ likes ps b = true
  | [], _, a, _, h => ⟨a, rfl, h⟩
  | c :: seg, ps, [], hs, h => by rw [List.cons_append, likes_cons_nil (hs c (by simp))] at h; cases h
  | c :: seg, ps, x :: a, hs, h => by
    rw [List.cons_append, likes_cons (hs c (by simp)), Bool.and_eq_true] at h
    obtain ⟨b, rfl, hb⟩ := seg_split seg ps a (fun y hy => hs y (by simp [hy])) h.2
    exact ⟨b, by rw [show x = c by simpa using h.1]; rfl, hb⟩
/-- The last star alone counts. -/
theorem star_again (seg rest b : List Int) (hs : ∀ c ∈ seg, c ≠ 42) : likes (42 :: (seg ++ 42 :: rest)) (seg ++ b) = likes (42 :: rest) b := by
  rw [Bool.eq_iff_iff]
  constructor
  · intro h
    obtain ⟨x, c, e, h1⟩ := star_some _ _ h
    obtain ⟨d, rfl, h2⟩ := seg_split seg (42 :: rest) c hs h1
    have hl := congrArg List.length e
    simp only [List.length_append] at hl
    have : ∃ y, b = y ++ d := by
      have e1 : seg ++ b = (x ++ seg) ++ d := by rw [e, List.append_assoc]
      refine ⟨(x ++ seg).drop seg.length, ?_⟩
      have := congrArg (List.drop seg.length) e1
      rw [List.drop_left, List.drop_append_of_le_length (by rw [List.length_append]; omega)] at this
      exact this
    obtain ⟨y, rfl⟩ := this
    exact star_drop rest y d h2
  · intro h
    refine star_here _ _ ?_
    rw [seg_likes seg _ _ hs]
    exact h
theorem likes_empty : ∀ ps : List Int, likes ps [] = ps.all (· == 42)
  | [] => by rw [likes_nil]; rfl
  | p :: ps => by
    by_cases h : p = 42
    · subst h; rw [likes_star_nil, likes_empty ps]; simp
    · rw [likes_cons_nil h, List.all_cons, beq_eq_false_iff_ne.mpr h]; rfl
/-- A text is no longer than what it stands for: a pattern with a piece as long as the text asks for stars alone behind it. -/
theorem star_full (seg rest : List Int) (hs : ∀ c ∈ seg, c ≠ 42) : likes (42 :: (seg ++ rest)) seg = likes rest [] := by
  rw [Bool.eq_iff_iff]
  constructor
  · intro h
    obtain ⟨x, c, e, h1⟩ := star_some _ _ h
    obtain ⟨d, rfl, h2⟩ := seg_split seg rest c hs h1
    have hl := congrArg List.length e
    simp only [List.length_append] at hl
    have : d = [] := List.eq_nil_of_length_eq_zero (by omega)
    rw [this] at h2
    exact h2
  · intro h
    refine star_here _ _ ?_
    have := seg_likes seg rest [] hs
    rw [List.append_nil] at this
    rw [this]
    exact h
/-! ### the program's loop -/
theorem all_dropWhile (m : List Int) (hm : m.length < 1000000) (d : Nat) : ∀ (j n : Nat), m.length - j = d → j ≤ m.length → d < n → text_Like.l1 n m j = some ((m.drop j).all (· == 42)) := by
  induction d with
  | zero =>
    intro j n h1 h2 h3
    obtain ⟨n, rfl⟩ : ∃ q, n = q + 1 := ⟨n - 1, by omega⟩
    simp only [text_Like.l1]
    rw [if_neg (by omega), List.drop_of_length_le (by omega), show ((j : Int) == (m.length : Int)) = true by simp; omega]
    rfl
  | succ d ih =>
    intro j n h1 h2 h3
    obtain ⟨n, rfl⟩ : ∃ q, n = q + 1 := ⟨n - 1, by omega⟩
    have hj : j < m.length := by omega
    simp only [text_Like.l1]
    rw [if_pos (by omega), if_pos (by omega), rd_at m j hj, List.drop_eq_getElem_cons hj, List.all_cons]
    by_cases h : m[j]'hj = 42
    · rw [if_pos h, show wrap64 ((j : Int) + 1) = ((j + 1 : Nat) : Int) by unfold wrap64; omega, ih (j + 1) n (by omega) (by omega) (by omega), h]
      rfl
    · rw [if_neg h, show ((j : Int) == (m.length : Int)) = false by simp; omega, beq_eq_false_iff_ne.mpr h]
      rfl
/-- Where the loop stands: behind the last star (or none), what was met since. -/
structure Stand (a p : List Int) (i k : Nat) (star : Int) (fr : Nat) : Prop where
  hi : i ≤ a.length
  hk : k ≤ p.length
  hf : fr ≤ i
  none : star < 0 → star = -1 ∧ k = i ∧ fr = 0 ∧ p.take k = a.take i ∧ (∀ c ∈ p.take k, c ≠ 42)
  some : 0 ≤ star → ∃ (s : Nat) (seg : List Int), star = s ∧ s < k ∧ p.drop s = 42 :: (seg ++ p.drop k) ∧ a.drop fr = seg ++ a.drop i ∧ (∀ c ∈ seg, c ≠ 42) ∧ likes p a = likes (p.drop s) (a.drop fr)
/-- What is left to do. -/
def meas (a p : List Int) (i : Nat) (star : Int) (fr : Nat) : Nat := (p.length - (star + 1).toNat) * ((a.length + 1) * (a.length + 1)) + (a.length - fr) * (a.length + 1) + (a.length - i)
theorem meas_star (P n s1 s2 i1 f2 i2 : Nat) (h1 : s1 < s2) (h2 : s2 ≤ P) : (P - s2) * ((n + 1) * (n + 1)) + (n - i1) * (n + 1) + (n - i1) < (P - s1) * ((n + 1) * (n + 1)) + (n - f2) * (n + 1) + (n - i2) := by
  have e : (P - s1) = (P - s2) + (s2 - s1) := by omega
  have h3 : (n - i1) * (n + 1) ≤ n * (n + 1) := Nat.mul_le_mul_right _ (by omega)
  have h4 : 1 * ((n + 1) * (n + 1)) ≤ (s2 - s1) * ((n + 1) * (n + 1)) := Nat.mul_le_mul_right _ (by omega)
  have h5 : (n + 1) * (n + 1) = n * (n + 1) + (n + 1) := by rw [Nat.add_mul n 1 (n + 1)]; omega
  have h6 := Nat.add_mul (P - s2) (s2 - s1) ((n + 1) * (n + 1))
  rw [← e] at h6
  omega
theorem meas_from (Q n fr i : Nat) (h1 : fr < n) : Q + (n - (fr + 1)) * (n + 1) + (n - (fr + 1)) < Q + (n - fr) * (n + 1) + (n - i) := by
  have e : n - fr = (n - (fr + 1)) + 1 := by omega
  rw [e, Nat.add_mul]
  omega
theorem drop_cons {l : List Int} {i : Nat} (h : i < l.length) : l.drop i = (l[i]'h) :: l.drop (i + 1) := List.drop_eq_getElem_cons h
/-- What the meaning is, seen from where the loop stands. -/
theorem stand_likes {a p : List Int} {i k : Nat} {star : Int} {fr : Nat} (h : Stand a p i k star fr) (h0 : star < 0) : likes p a = likes (p.drop k) (a.drop i) := by
  obtain ⟨_, _, _, e, hs⟩ := h.none h0
  have := seg_likes (p.take k) (p.drop k) (a.drop i) hs
  rw [List.take_append_drop, e, List.take_append_drop] at this
  exact this
theorem like_loop (a p : List Int) (ha : a.length < 1000000) (hp : p.length < 1000000) (D : Nat) : ∀ (n i k : Nat) (star : Int) (fr : Nat), Stand a p i k star fr → meas a p i star fr ≤ D → 3 * D + p.length + 5 < n →
    text_Like.l0 n a p i k star fr = some (likes p a) := by
  induction D using Nat.strongRecOn with
  | _ D ih =>
    intro n i k star fr hst hm hn
    obtain ⟨n, rfl⟩ : ∃ q, n = q + 3 := ⟨n - 3, by omega⟩
    have hi := hst.hi
    have hk := hst.hk
    have hf := hst.hf
    rw [show n + 3 = (n + 2) + 1 from rfl, text_Like.l0]
    by_cases hlt : i < a.length
    case neg =>
      rw [if_neg (by omega), all_dropWhile p hp (p.length - k) k (n + 2) rfl hk (by omega), ← likes_empty]
      have hia : a.drop i = [] := List.drop_of_length_le (by omega)
      by_cases h0 : star < 0
      · rw [stand_likes hst h0, hia]
      · obtain ⟨s, seg, rfl, _, hd, hda, hs, hl⟩ := hst.some (by omega)
        rw [hl, hd, hda, hia, List.append_nil, star_full seg (p.drop k) hs]
    case pos =>
      rw [if_pos (by omega)]
      by_cases hstar : ∃ h : k < p.length, p[k]'h = 42
      · -- a star
        obtain ⟨hkl, h42⟩ := hstar
        rw [if_pos (by omega), if_pos (by omega), rd_at p k hkl, h42, show n + 2 = (n + 1) + 1 from rfl, text_Like.j1]
        rw [show ((42 : Int) == 42) = true from rfl, if_pos rfl, show wrap64 ((k : Int) + 1) = ((k + 1 : Nat) : Int) by unfold wrap64; omega]
        have hdk : p.drop k = 42 :: p.drop (k + 1) := by rw [drop_cons hkl, h42]
        have hlik : likes p a = likes (p.drop k) (a.drop i) := by
          by_cases h0 : star < 0
          · exact stand_likes hst h0
          · obtain ⟨s, seg, rfl, _, hd, hda, hs, hl⟩ := hst.some (by omega)
            rw [hl, hd, hda, hdk, star_again seg _ _ hs]
        have hst2 : Stand a p i (k + 1) (k : Int) i := ⟨hi, by omega, Nat.le_refl _, fun h => by omega, fun _ => ⟨k, [], rfl, by omega, by rw [List.nil_append]; exact hdk, rfl, by simp, hlik⟩⟩
        have hs1 : (star + 1).toNat < k + 1 := by
          by_cases h0 : star < 0
          · have := (hst.none h0).1; omega
          · obtain ⟨s, seg, rfl, h1, _⟩ := hst.some (by omega); omega
        have hmm : meas a p i (k : Int) i < D := by
          refine Nat.lt_of_lt_of_le ?_ hm
          unfold meas
          rw [show ((k : Int) + 1).toNat = k + 1 by omega]
          exact meas_star p.length a.length _ (k + 1) i fr i hs1 (by omega)
        exact ih _ hmm (n + 1) i (k + 1) k i hst2 (Nat.le_refl _) (by omega)
      · have hj1 : (if (k : Int) < (p.length : Int) then (if 0 ≤ (k : Int) then text_Like.j1 (n + 2) a p i k star fr ((rd p k) == 42) else none) else text_Like.j1 (n + 2) a p i k star fr false) = text_Like.j1 (n + 2) a p i k star fr false := by
          by_cases hkl : k < p.length
          · rw [if_pos (by omega), if_pos (by omega), rd_at p k hkl, beq_eq_false_iff_ne.mpr (fun e => hstar ⟨hkl, e⟩)]
          · rw [if_neg (by omega)]
        rw [hj1, show n + 2 = (n + 1) + 1 from rfl, text_Like.j1, if_neg (by simp)]
        by_cases hmat : ∃ h : k < p.length, p[k]'h = a[i]'hlt
        · -- met
          obtain ⟨hkl, he⟩ := hmat
          have hne : p[k]'hkl ≠ 42 := fun e => hstar ⟨hkl, e⟩
          rw [if_pos (by omega), if_pos (by omega), if_pos (by omega), if_pos (by omega), rd_at p k hkl, rd_at a i hlt, he, show n + 1 = n + 1 from rfl, text_Like.j2]
          rw [show (a[i]'hlt == a[i]'hlt) = true by simp, if_pos rfl, show wrap64 ((i : Int) + 1) = ((i + 1 : Nat) : Int) by unfold wrap64; omega, show wrap64 ((k : Int) + 1) = ((k + 1 : Nat) : Int) by unfold wrap64; omega]
          have hst2 : Stand a p (i + 1) (k + 1) star fr := by
            refine ⟨by omega, by omega, by omega, fun h => ?_, fun h => ?_⟩
            · obtain ⟨e1, e2, e3, e4, e5⟩ := hst.none h
              refine ⟨e1, by omega, e3, ?_, ?_⟩
              · rw [List.take_succ_eq_append_getElem hkl, List.take_succ_eq_append_getElem hlt, e4, he]
              · intro c hc
                rw [List.take_succ_eq_append_getElem hkl] at hc
                rcases List.mem_append.1 hc with h1 | h1
                · exact e5 c h1
                · rw [List.mem_singleton.1 h1]; exact hne
            · obtain ⟨s, seg, e1, e2, e3, e4, e5, e6⟩ := hst.some h
              refine ⟨s, seg ++ [p[k]'hkl], e1, by omega, ?_, ?_, ?_, e6⟩
              · rw [e3, drop_cons hkl, List.append_assoc]; rfl
              · rw [e4, drop_cons hlt, List.append_assoc, he]; rfl
              · intro c hc
                rcases List.mem_append.1 hc with h1 | h1
                · exact e5 c h1
                · rw [List.mem_singleton.1 h1]; exact hne
          have hmm : meas a p (i + 1) star fr < D := by
            refine Nat.lt_of_lt_of_le ?_ hm
            unfold meas
            omega
          exact ih _ hmm n (i + 1) (k + 1) star fr hst2 (Nat.le_refl _) (by omega)
        · have hj2 : (if (k : Int) < (p.length : Int) then (if 0 ≤ (k : Int) then (if 0 ≤ (i : Int) then (if (i : Int) < (a.length : Int) then text_Like.j2 (n + 1) a p i k star fr ((rd p k) == (rd a i)) else none) else none) else none) else text_Like.j2 (n + 1) a p i k star fr false) = text_Like.j2 (n + 1) a p i k star fr false := by
            by_cases hkl : k < p.length
            · rw [if_pos (by omega), if_pos (by omega), if_pos (by omega), if_pos (by omega), rd_at p k hkl, rd_at a i hlt, beq_eq_false_iff_ne.mpr (fun e => hmat ⟨hkl, e⟩)]
            · rw [if_neg (by omega)]
          rw [hj2, text_Like.j2, if_neg (by simp)]
          have hno : likes (p.drop k) (a.drop i) = false := by
            rw [drop_cons hlt]
            by_cases hkl : k < p.length
            · rw [drop_cons hkl, likes_cons (fun e => hstar ⟨hkl, e⟩), beq_eq_false_iff_ne.mpr (fun e => hmat ⟨hkl, e.symm⟩)]; rfl
            · rw [List.drop_of_length_le (by omega), likes_nil]; rfl
          by_cases h0 : star < 0
          · rw [if_neg (by omega), stand_likes hst h0, hno]
          · obtain ⟨s, seg, rfl, e2, e3, e4, e5, e6⟩ := hst.some (by omega)
            rw [if_pos (by omega), show wrap64 ((fr : Int) + 1) = ((fr + 1 : Nat) : Int) by unfold wrap64; omega, show wrap64 ((s : Int) + 1) = ((s + 1 : Nat) : Int) by unfold wrap64; omega]
            have hdrop : p.drop (s + 1) = seg ++ p.drop k := by
              have := congrArg (List.drop 1) e3
              rw [List.drop_drop] at this
              exact this
            have hst2 : Stand a p (fr + 1) (s + 1) (s : Int) (fr + 1) := by
              refine ⟨by omega, by omega, Nat.le_refl _, fun h => by omega, fun _ => ⟨s, [], rfl, by omega, by rw [List.nil_append, hdrop]; exact e3, rfl, by simp, ?_⟩⟩
              rw [e6, e3]
              have hfr : fr < a.length := by omega
              have e7 : likes (seg ++ p.drop k) (a.drop fr) = false := by rw [e4, seg_likes seg _ _ e5, hno]
              rw [drop_cons hfr] at e7 ⊢
              rw [likes_star, e7, Bool.false_or]
            have hmm : meas a p (fr + 1) (s : Int) (fr + 1) < D := by
              refine Nat.lt_of_lt_of_le ?_ hm
              unfold meas
              exact meas_from _ a.length fr i (by omega)
            exact ih _ hmm n (fr + 1) (s + 1) s (fr + 1) hst2 (Nat.le_refl _) (by omega)
/-- The program's like, of texts of runes. -/
theorem like_eq (a p : List Int) (ha : ∀ r ∈ a, isR r) (hp : ∀ r ∈ p, isR r) (hl : a.length ≤ 100) (hq : p.length ≤ 100) (n : Nat) (hn : 4000000 ≤ n) : text_Like.f n (txt a) (txt p) = some (likes p a) := by
  unfold text_Like.f
  rw [runes_txt a ha (by omega), runes_txt p hp (by omega)]
  simp only [Option.bind_some]
  have hst : Stand a p 0 0 (-1) 0 := ⟨Nat.zero_le _, Nat.zero_le _, Nat.le_refl _, fun _ => ⟨rfl, rfl, rfl, by simp, by simp⟩, fun h => by omega⟩
  have hm : meas a p 0 (-1) 0 ≤ 1100000 := by
    unfold meas
    have h1 : (a.length + 1) * (a.length + 1) ≤ 101 * 101 := Nat.mul_le_mul (by omega) (by omega)
    have h2 : (p.length - (-1 + 1 : Int).toNat) * ((a.length + 1) * (a.length + 1)) ≤ 100 * (101 * 101) := Nat.mul_le_mul (by omega) h1
    have h3 : (a.length - 0) * (a.length + 1) ≤ 100 * 101 := Nat.mul_le_mul (by omega) (by omega)
    omega
  exact like_loop a p (by omega) (by omega) 1100000 n 0 0 (-1) 0 hst hm (by omega)
end Go.Proofs.YtapccgkkcgggiaaDoor.Pure
