import Derived.Test.YtelibndkkokadaaGreatGB0
import Derived.Test.YtelibndkkokadaaGreatJr
import Derived.Test.YtelibndkkokadaaGreatO1
import Derived.Test.YtelibndkkokadaaGreatJa
import Derived.Test.YtelibndkkokadaaGreatA6
import Derived.Test.YtelibndkkokadaaGreatJy
import Derived.Test.YtelibndkkokadaaGreatGB9
namespace Go.Proofs.YtelibndkkokadaaGreat.GP
open Go.RowKit Go.Proofs.YtelibndkkokadaaGreatW.PrintWords Go.Proofs.YtelibndkkokadaaGreatW.PrintLast Go.Proofs.YtelibndkkokadaaGreat.HandV Go.Proofs.YtelibndkkokadaaGreatW.PrintMore
open Go.Proofs.YtelibndkkokadaaGreat.GB
attribute [local go_sem] max2_int min2_int max_two min_two max_three min_three max_four min_four   -- for this text's walks alone
set_option linter.unusedVariables false
set_option linter.unusedSimpArgs false
-- IMPORT .GG2s
-- IMPORT .O1
-- IMPORT .R1
-- IMPORT .A5
-- IMPORT .A6
-- IMPORT .A12
-- IMPORT .GG1s
-- FN chancelref9_In
-- FN chancelref9_Above
set_option linter.unusedSectionVars false
open GA
theorem sorted_uniq {g : List En} (h : SortedE g) {a b : En} (ha : a ∈ g) (hb : b ∈ g) (he : a.f0 = b.f0) : a = b := by
  obtain ⟨i, hi, rfl⟩ := List.getElem_of_mem ha
  obtain ⟨j, hj, rfl⟩ := List.getElem_of_mem hb
  rcases Nat.lt_trichotomy i j with h1 | h1 | h1
  · have := List.pairwise_iff_getElem.1 h i j hi hj h1
    rw [he, ltU_irr] at this; cases this
  · subst h1; rfl
  · have := List.pairwise_iff_getElem.1 h j i hj hi h1
    rw [he, ltU_irr] at this; cases this
theorem rstep_mem {g : List En} (h : SortedE g) {e : En} (he : e ∈ g) : rstepF g e.f0 = e.f1 := by
  unfold rstepF
  cases hf : g.find? (fun x => decide (x.f0 = e.f0)) with
  | none =>
    have := List.find?_eq_none.1 hf e he
    simp at this
  | some x =>
    have h1 : x.f0 = e.f0 := by simpa using List.find?_some hf
    rw [sorted_uniq h (List.mem_of_find?_eq_some hf) he h1]
theorem rstep_none {g : List En} {u : U} (h : ∀ e ∈ g, e.f0 ≠ u) : rstepF g u = [] := by
  unfold rstepF
  rw [List.find?_eq_none.2 (fun x hx => by simpa using h x hx)]
theorem atB_some' {g : List En} (h : SortedE g) {u : U} : GT.atB g u.f0 u.f1 = true ↔ ∃ e ∈ g, e.f0 = u := by
  rw [atB_iff g ((sortedE_iff g).1 h)]
  constructor
  · rintro ⟨y, hy, hk⟩
    exact ⟨y, hy, ku_inj hk⟩
  · rintro ⟨y, hy, rfl⟩
    exact ⟨y, hy, rfl⟩
theorem step_eq {g : List En} (h : SortedE g) : stepF g = rstepF g := by
  funext u
  by_cases hb : GT.atB g u.f0 u.f1 = true
  · obtain ⟨e, he, rfl⟩ := atB_some hb
    rw [rstep_mem h (List.mem_of_getElem? he)]
    unfold stepF
    rw [if_pos hb, he]
  · rw [rstep_none (fun e he hu => hb ((atB_some' h).2 ⟨e, he, hu⟩))]
    unfold stepF
    rw [if_neg hb]
theorem up_split {α : Type} {step : α → List α} {a b : α} : Up step a b ↔ a = b ∨ ∃ p ∈ step a, Up step p b := by
  constructor
  · intro h
    cases h with
    | refl => exact .inl rfl
    | head h1 h2 => exact .inr ⟨_, h1, h2⟩
  · rintro (rfl | ⟨p, hp, h⟩)
    · exact .refl _
    · exact .head hp h
theorem in_iff {g : List En} (u a : U) : inF g u a = true ↔ Up (stepF g) u a := by
  unfold inF
  rw [decide_eq_true_eq, climbF_mem]
  simp
theorem ref_strict (g : List En) (u : U) : Strict (refF g u) := sortU_strict (climbR_nodup _ _ _ _ (by simp))
theorem ref_iff {g : List En} (u a : U) : a ∈ refF g u ↔ ∃ p ∈ rstepF g u, Up (rstepF g) p a := by
  show a ∈ sortU _ ↔ _
  rw [(sortU_perm _).mem_iff, refC_mem]
theorem ref_len {g : List En} (h : okL g = true) (u : U) : (refF g u).length ≤ 4000000 := by
  have h1 := sub_len (refF g u) (univ g) (strict_nodup (ref_strict g u)) (fun y hy => by
    obtain ⟨p, hp, hu⟩ := (ref_iff u y).1 hy
    exact up_univ hu (rstepF_univ g u p hp))
  have := univ_len h
  omega
theorem rin_tot {g : List En} (h : okL g = true) (u a : U) : Tot (fun k => chancelref9_In.f k g u.f0 u.f1 a.f0 a.f1) (fun r => r = true ↔ Up (rstepF g) u a) := by
  unfold chancelref9_In.f
  refine Tot.ite (fun hq => ?_) (fun hq => ?_)
  · have := (eqU_iff u a).1 hq
    subst this
    exact Tot.now (by simp [Up.refl])
  · have hne : u ≠ a := fun e => hq ((eqU_iff u a).2 e)
    have ha : chancelref9_Above.f g u.f0 u.f1 = some (refF g u) := by unfold chancelref9_Above.f; rw [if_pos h]
    rw [ha]
    refine Tot.some_bind ?_
    refine Tot.bind (has_tot (refF g u) (ref_len h u) a) (fun b hb => Tot.now ?_)
    subst hb
    rw [decide_eq_true_eq, ref_iff, up_split]
    exact ⟨fun h => .inr h, fun h => h.resolve_left hne⟩
/-- What the document's In answers. -/
theorem refin_calls (g : List En) (hA : AnyG g) (u a : U) (A : Option Addr) (c : Nat) (w : World) (hc : g.length ≤ c) (hC : k32.C w A g.length g) : Calls Tryz.prog 9 #[.slice A g.length c, .agg #[.string u.f0, .string u.f1], .agg #[.string a.f0, .string a.f1]] w fun e w' => e = .returned (.bool (inF g u a)) ∧ Below w.heap.size w w' := by
  obtain ⟨r, ⟨k, hk⟩, hr⟩ := rin_tot (anyG_ok hA) u a
  have h1 : r = inF g u a := by
    rw [Bool.eq_iff_iff, hr, in_iff, step_eq hA.1]
  subst h1
  exact chancelref9_In.calls k A c g _ _ _ _ _ w hC hc (hk k (Nat.le_refl k))
end Go.Proofs.YtelibndkkokadaaGreat.GP
