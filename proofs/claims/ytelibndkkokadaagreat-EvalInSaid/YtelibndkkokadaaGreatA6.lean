import Derived.Test.YtelibndkkokadaaGreatGB0
import Derived.Test.YtelibndkkokadaaGreatJa
import Derived.Test.YtelibndkkokadaaGreatO1
namespace Go.Proofs.YtelibndkkokadaaGreat.GA
open Go.RowKit Go.Proofs.YtelibndkkokadaaGreatW.PrintWords Go.Proofs.YtelibndkkokadaaGreatW.PrintLast Go.Proofs.YtelibndkkokadaaGreat.HandV Go.Proofs.YtelibndkkokadaaGreatW.PrintMore
open Go.Proofs.YtelibndkkokadaaGreat.GB
attribute [local go_sem] max2_int min2_int max_two min_two max_three min_three max_four min_four   -- for this text's walks alone
set_option linter.unusedVariables false
set_option linter.unusedSimpArgs false
-- IMPORT .A5
-- IMPORT .O1
open Go.Maps
abbrev ku (x : U) : List UInt8 × List UInt8 := (x.f0.toList, x.f1.toList)
def ltU (x y : U) : Bool := decide (cmpU x.f0 x.f1 y.f0 y.f1 < 0)
theorem ltU_kl (x y : U) : ltU x y = true ↔ GP.kl (ku x) (ku y) := by unfold ltU; rw [decide_eq_true_eq]; exact GP.cmpU_kl _ _ _ _
theorem ku_inj {x y : U} (h : ku x = ku y) : x = y := by
  injection h with h1 h2
  have e1 : x.f0 = y.f0 := ByteArray.ext (Array.toList_inj.1 (by rw [← ByteArray.toList_eq, ← ByteArray.toList_eq]; exact h1))
  have e2 : x.f1 = y.f1 := ByteArray.ext (Array.toList_inj.1 (by rw [← ByteArray.toList_eq, ← ByteArray.toList_eq]; exact h2))
  obtain ⟨a, b⟩ := x
  obtain ⟨c, d⟩ := y
  cases e1; cases e2; rfl
theorem ltU_irr (x : U) : ltU x x = false := by
  cases h : ltU x x
  · rfl
  · exact absurd ((ltU_kl x x).1 h) (GP.kl_irr _)
theorem ltU_trans {x y z : U} (h : ltU x y = true) (k : ltU y z = true) : ltU x z = true := (ltU_kl x z).2 (GP.kl_trans ((ltU_kl x y).1 h) ((ltU_kl y z).1 k))
theorem ltU_tri (x y : U) (h : ltU x y = false) (k : ltU y x = false) : x = y := by
  rcases GP.kl_tri (ku x) (ku y) with h1 | h1 | h1
  · rw [(ltU_kl x y).2 h1] at h; cases h
  · exact ku_inj h1
  · rw [(ltU_kl y x).2 h1] at k; cases k
/-- The uids of a set, in their order. -/
def sortU (l : List U) : List U := l.mergeSort fun x y => !ltU y x
theorem sortU_perm (l : List U) : (sortU l).Perm l := List.mergeSort_perm _ _
theorem sortU_sorted (l : List U) : (sortU l).Pairwise (fun x y => ltU y x = false) := by
  have := List.pairwise_mergeSort (le := fun x y => !ltU y x) (fun a b c h1 h2 => by
    simp only [Bool.not_eq_true'] at *
    cases h : ltU c a
    · rfl
    · exfalso
      by_cases h3 : ltU a b = true
      · rw [ltU_trans h h3] at h2; cases h2
      · have : a = b := ltU_tri a b (by simpa using h3) h1
        subst this
        rw [h] at h2; cases h2) (fun a b => by
    cases h : ltU b a
    · rfl
    · cases h2 : ltU a b
      · rfl
      · have := ltU_trans h h2
        rw [ltU_irr] at this; cases this) l
  exact this.imp (fun h => by simpa using h)
theorem sortU_strict {l : List U} (h : l.Nodup) : (sortU l).Pairwise (fun x y => ltU x y = true) := by
  have h1 := sortU_sorted l
  have h2 : (sortU l).Nodup := (sortU_perm l).nodup_iff.2 h
  refine (h1.and h2).imp (fun {x y} hh => ?_)
  cases h3 : ltU x y
  · exact absurd (ltU_tri x y h3 hh.1) hh.2
  · rfl
theorem strict_ext : ∀ (a b : List U), a.Pairwise (fun x y => ltU x y = true) → b.Pairwise (fun x y => ltU x y = true) → (∀ y, y ∈ a ↔ y ∈ b) → a = b
  | [], [], _, _, _ => rfl
  | [], y :: b, _, _, h => by have := (h y).2 (List.mem_cons_self ..); cases this
  | x :: a, [], _, _, h => by have := (h x).1 (List.mem_cons_self ..); cases this
  | x :: a, y :: b, ha, hb, h => by
    obtain ⟨hx, ha'⟩ := List.pairwise_cons.1 ha
    obtain ⟨hy, hb'⟩ := List.pairwise_cons.1 hb
    have hxy : x = y := by
      rcases List.mem_cons.1 ((h x).1 (List.mem_cons_self ..)) with h1 | h1
      · exact h1
      · rcases List.mem_cons.1 ((h y).2 (List.mem_cons_self ..)) with h2 | h2
        · exact h2.symm
        · have := ltU_trans (hy x h1) (hx y h2)
          rw [ltU_irr] at this; cases this
    subst hxy
    rw [strict_ext a b ha' hb' (fun z => ?_)]
    constructor
    · intro hz
      rcases List.mem_cons.1 ((h z).1 (List.mem_cons_of_mem _ hz)) with h1 | h1
      · subst h1
        have := hx z hz
        rw [ltU_irr] at this; cases this
      · exact h1
    · intro hz
      rcases List.mem_cons.1 ((h z).2 (List.mem_cons_of_mem _ hz)) with h1 | h1
      · subst h1
        have := hy z hz
        rw [ltU_irr] at this; cases this
      · exact h1
theorem sub_len : ∀ (out M : List U), out.Nodup → (∀ x ∈ out, x ∈ M) → out.length ≤ M.length
  | [], _, _, _ => Nat.zero_le _
  | x :: out, M, ho, h1 => by
    obtain ⟨hx, ho'⟩ := List.nodup_cons.1 ho
    have hm := h1 x (List.mem_cons_self ..)
    have := sub_len out (M.erase x) ho' (fun y hy => (List.mem_erase_of_ne (fun e => hx (by rw [← e]; exact hy))).2 (h1 y (List.mem_cons_of_mem _ hy)))
    rw [List.length_erase_of_mem hm] at this
    have h2 : 0 < M.length := List.length_pos_of_mem hm
    simp only [List.length_cons]
    omega
end Go.Proofs.YtelibndkkokadaaGreat.GA
