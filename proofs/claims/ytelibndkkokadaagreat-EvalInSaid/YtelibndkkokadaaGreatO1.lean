import Derived.Test.YtelibndkkokadaaGreatGB0
import Derived.Test.YtelibndkkokadaaGreatEd
namespace Go.Proofs.YtelibndkkokadaaGreat.GP
open Go.RowKit Go.Proofs.YtelibndkkokadaaGreatW.PrintWords Go.Proofs.YtelibndkkokadaaGreatW.PrintLast Go.Proofs.YtelibndkkokadaaGreat.HandV Go.Proofs.YtelibndkkokadaaGreatW.PrintMore
open Go.Proofs.YtelibndkkokadaaGreat.GB
attribute [local go_sem] max2_int min2_int max_two min_two max_three min_three max_four min_four   -- for this text's walks alone
set_option linter.unusedVariables false
set_option linter.unusedSimpArgs false
-- IMPORT .Ed
theorem bl_irr : ∀ (x : List UInt8), Op.bytesLess x x = false
  | [] => rfl
  | a :: x => by simp only [Op.bytesLess, bl_irr x, Bool.and_false, Bool.or_false, decide_eq_false_iff_not]; exact UInt8.lt_irrefl a
theorem bl_cons {a b : UInt8} {x y : List UInt8} : Op.bytesLess (a :: x) (b :: y) = true ↔ a.toNat < b.toNat ∨ (a.toNat = b.toNat ∧ Op.bytesLess x y = true) := by
  simp only [Op.bytesLess, Bool.or_eq_true, decide_eq_true_eq, Bool.and_eq_true, beq_iff_eq, UInt8.lt_iff_toNat_lt, ← UInt8.toNat_inj]
theorem bl_trans : ∀ {x y z : List UInt8}, Op.bytesLess x y = true → Op.bytesLess y z = true → Op.bytesLess x z = true
  | _, [], _, h, _ => by simp [Op.bytesLess] at h
  | _, _ :: _, [], _, h => by simp [Op.bytesLess] at h
  | [], _ :: _, _ :: _, _, _ => by simp [Op.bytesLess]
  | a :: x, b :: y, c :: z, h1, h2 => by
    rw [bl_cons] at h1 h2 ⊢
    rcases h1 with h1 | ⟨h1, h1'⟩
    · rcases h2 with h2 | ⟨h2, h2'⟩
      · exact .inl (by omega)
      · exact .inl (by omega)
    · rcases h2 with h2 | ⟨h2, h2'⟩
      · exact .inl (by omega)
      · exact .inr ⟨by omega, bl_trans h1' h2'⟩
theorem bl_tri : ∀ (x y : List UInt8), Op.bytesLess x y = true ∨ x = y ∨ Op.bytesLess y x = true
  | [], [] => .inr (.inl rfl)
  | [], _ :: _ => .inl (by simp [Op.bytesLess])
  | _ :: _, [] => .inr (.inr (by simp [Op.bytesLess]))
  | a :: x, b :: y => by
    rw [bl_cons, bl_cons]
    rcases Nat.lt_trichotomy a.toNat b.toNat with h | h | h
    · exact .inl (.inl h)
    · rcases bl_tri x y with g | g | g
      · exact .inl (.inr ⟨h, g⟩)
      · exact .inr (.inl (by rw [g, UInt8.toNat_inj.1 h]))
      · exact .inr (.inr (.inr ⟨h.symm, g⟩))
    · exact .inr (.inr (.inl h))
/-- The words a uid stands by. -/
abbrev key (x : S32) : List UInt8 × List UInt8 := (x.f0.f0.toList, x.f0.f1.toList)
def kl (a b : List UInt8 × List UInt8) : Prop := Op.bytesLess a.1 b.1 = true ∨ (a.1 = b.1 ∧ Op.bytesLess a.2 b.2 = true)
theorem kl_irr (a : List UInt8 × List UInt8) : ¬ kl a a := by rintro (h | ⟨_, h⟩) <;> rw [bl_irr] at h <;> exact absurd h (by decide)
theorem kl_trans {a b c : List UInt8 × List UInt8} (h1 : kl a b) (h2 : kl b c) : kl a c := by
  rcases h1 with h1 | ⟨h1, h1'⟩
  · rcases h2 with h2 | ⟨h2, h2'⟩
    · exact .inl (bl_trans h1 h2)
    · exact .inl (h2 ▸ h1)
  · rcases h2 with h2 | ⟨h2, h2'⟩
    · exact .inl (by rw [h1]; exact h2)
    · exact .inr ⟨h1.trans h2, bl_trans h1' h2'⟩
theorem kl_tri (a b : List UInt8 × List UInt8) : kl a b ∨ a = b ∨ kl b a := by
  obtain ⟨a1, a2⟩ := a
  obtain ⟨b1, b2⟩ := b
  rcases bl_tri a1 b1 with h | h | h
  · exact .inl (.inl h)
  · subst h
    rcases bl_tri a2 b2 with g | g | g
    · exact .inl (.inr ⟨rfl, g⟩)
    · exact .inr (.inl (by rw [g]))
    · exact .inr (.inr (.inr ⟨rfl, g⟩))
  · exact .inr (.inr (.inl h))
theorem cmpU_kl (a b c d : ByteArray) : cmpU a b c d < 0 ↔ kl (a.toList, b.toList) (c.toList, d.toList) := by
  unfold cmpU orI cmpS kl
  by_cases h : Op.bytesLess a.toList c.toList = true
  · simp [h]
  · by_cases e : a.toList = c.toList
    · rw [e, bl_irr]
      simp
      by_cases h2 : Op.bytesLess b.toList d.toList = true
      · simp [h2]
      · by_cases e2 : b.toList = d.toList
        · simp [e2, bl_irr]
        · simp [h2, e2]
    · simp [h, e]
theorem search_spec (p : Nat → Bool) (n : Nat) (hm : ∀ i j, i ≤ j → j < n → p i = true → p j = true) : ∀ (k a b : Nat), a ≤ b → b ≤ n → b ≤ a + k → (∀ i, i < a → p i = false) → (b < n → p b = true) → searchF p k a b ≤ n ∧ (∀ i, i < searchF p k a b → p i = false) ∧ (∀ i, searchF p k a b ≤ i → i < n → p i = true)
  | 0, a, b, h1, h2, h3, h4, h5 => by
    have : a = b := by omega
    subst this
    exact ⟨h2, h4, fun i hi hn => hm a i hi hn (h5 (by simp only [searchF] at hi; omega))⟩
  | k + 1, a, b, h1, h2, h3, h4, h5 => by
    rw [searchF]
    by_cases hab : a < b
    · rw [if_pos hab]
      cases hp : p ((a + b) / 2) with
      | true =>
        rw [if_pos rfl]
        exact search_spec p n hm k a ((a + b) / 2) (by omega) (by omega) (by omega) h4 (fun _ => hp)
      | false =>
        rw [if_neg (by decide)]
        refine search_spec p n hm k ((a + b) / 2 + 1) b (by omega) h2 (by omega) (fun i hi => ?_) h5
        cases hq : p i with
        | false => rfl
        | true => have := hm i ((a + b) / 2) (by omega) (by omega) hq; rw [hp] at this; exact absurd this (by decide)
    · rw [if_neg hab]
      have : a = b := by omega
      subst this
      exact ⟨h2, h4, fun i hi hn => hm a i hi hn (h5 (by omega))⟩
abbrev Sorted (l : List S32) : Prop := l.Pairwise (fun x y => kl (key x) (key y))
theorem sorted_get {l : List S32} (h : Sorted l) {i j : Nat} {x y : S32} (hx : l[i]? = some x) (hy : l[j]? = some y) (hij : i < j) : kl (key x) (key y) := by
  obtain ⟨hi, rfl⟩ := List.getElem?_eq_some_iff.1 hx
  obtain ⟨hj, rfl⟩ := List.getElem?_eq_some_iff.1 hy
  exact (List.pairwise_iff_getElem.1 h) i j hi hj hij
theorem atP_some {l : List S32} {u0 u1 : ByteArray} {i : Nat} {x : S32} (hx : l[i]? = some x) : GT.atP l u0 u1 i = true ↔ ¬ kl (key x) (u0.toList, u1.toList) := by
  unfold GT.atP
  rw [hx]
  simp only [Bool.not_eq_true', decide_eq_false_iff_not]
  exact not_congr (cmpU_kl _ _ _ _)
theorem atI_spec (l : List S32) (hl : Sorted l) (u0 u1 : ByteArray) : GT.atI l u0 u1 ≤ l.length ∧ (∀ i x, i < GT.atI l u0 u1 → l[i]? = some x → kl (key x) (u0.toList, u1.toList)) ∧ (∀ i x, GT.atI l u0 u1 ≤ i → l[i]? = some x → ¬ kl (key x) (u0.toList, u1.toList)) := by
  have hm : ∀ i j, i ≤ j → j < l.length → GT.atP l u0 u1 i = true → GT.atP l u0 u1 j = true := fun i j hij hj hp => by
    have hxi : l[i]? = some l[i] := List.getElem?_eq_getElem (by omega)
    have hxj : l[j]? = some l[j] := List.getElem?_eq_getElem hj
    rw [atP_some hxi] at hp
    rw [atP_some hxj]
    intro hk
    rcases Nat.lt_or_eq_of_le hij with h | h
    · exact hp (kl_trans (sorted_get hl hxi hxj h) hk)
    · subst h; exact hp hk
  obtain ⟨g1, g2, g3⟩ := search_spec (GT.atP l u0 u1) l.length hm l.length 0 l.length (Nat.zero_le _) (Nat.le_refl _) (by omega) (fun i hi => absurd hi (Nat.not_lt_zero _)) (fun h => absurd h (Nat.lt_irrefl _))
  refine ⟨g1, fun i x hi hx => ?_, fun i x hi hx => ?_⟩
  · have := g2 i hi
    by_cases hk : kl (key x) (u0.toList, u1.toList)
    · exact hk
    · rw [(atP_some hx).2 hk] at this; exact absurd this (by decide)
  · exact (atP_some hx).1 (g3 i hi (List.getElem?_eq_some_iff.1 hx).1)
theorem at_split (l : List S32) (hl : Sorted l) (u0 u1 : ByteArray) : ∃ A B, l = A ++ B ∧ A.length = GT.atI l u0 u1 ∧ (∀ y ∈ A, kl (key y) (u0.toList, u1.toList)) ∧ (∀ y ∈ B, ¬ kl (key y) (u0.toList, u1.toList)) := by
  obtain ⟨g1, g2, g3⟩ := atI_spec l hl u0 u1
  refine ⟨l.take (GT.atI l u0 u1), l.drop (GT.atI l u0 u1), (List.take_append_drop _ _).symm, by rw [List.length_take]; omega, fun y hy => ?_, fun y hy => ?_⟩
  · obtain ⟨i, hi, rfl⟩ := List.getElem_of_mem hy
    rw [List.length_take] at hi
    exact g2 i _ (by omega) (by rw [List.getElem_take]; exact List.getElem?_eq_getElem (by omega))
  · obtain ⟨i, hi, rfl⟩ := List.getElem_of_mem hy
    rw [List.length_drop] at hi
    exact g3 (GT.atI l u0 u1 + i) _ (by omega) (by rw [List.getElem_drop]; exact List.getElem?_eq_getElem (by omega))
theorem atB_split {l A B : List S32} {u0 u1 : ByteArray} (h : l = A ++ B) (hA : A.length = GT.atI l u0 u1) : GT.atB l u0 u1 = true ↔ ∃ y B', B = y :: B' ∧ key y = (u0.toList, u1.toList) := by
  unfold GT.atB
  have e : l[GT.atI l u0 u1]? = B[0]? := by
    rw [← hA]
    conv => lhs; rw [h]
    rw [List.getElem?_append_right (Nat.le_refl _), Nat.sub_self]
  rw [e]
  cases B with
  | nil => simp
  | cons y B' =>
    simp only [List.getElem?_cons_zero, Bool.and_eq_true, beq_iff_eq]
    constructor
    · rintro ⟨a, b⟩; exact ⟨y, B', rfl, Prod.ext a b⟩
    · rintro ⟨y', B'', e1, e2⟩
      obtain ⟨rfl, rfl⟩ := List.cons.inj e1
      exact ⟨congrArg Prod.fst e2, congrArg Prod.snd e2⟩
theorem atB_iff (l : List S32) (hl : Sorted l) (u0 u1 : ByteArray) : GT.atB l u0 u1 = true ↔ ∃ y ∈ l, key y = (u0.toList, u1.toList) := by
  obtain ⟨A, B, h, hA, g1, g2⟩ := at_split l hl u0 u1
  rw [atB_split h hA]
  constructor
  · rintro ⟨y, B', rfl, hy⟩
    exact ⟨y, by rw [h]; simp, hy⟩
  · rintro ⟨y, hy, hk⟩
    rw [h] at hy hl
    rcases List.mem_append.1 hy with hy | hy
    · exact absurd (g1 y hy) (by rw [hk]; exact kl_irr _)
    · cases B with
      | nil => cases hy
      | cons z B' =>
        rcases List.mem_cons.1 hy with hy | hy
        · subst hy; exact ⟨y, B', rfl, hk⟩
        · have hz := (List.pairwise_cons.1 (List.pairwise_append.1 hl).2.1).1 y hy
          rw [hk] at hz
          exact absurd hz (g2 z (List.mem_cons_self ..))
end Go.Proofs.YtelibndkkokadaaGreat.GP
