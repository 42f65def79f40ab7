import Derived.Test.YtelibndkkokadaaGB0
import Derived.Test.YtelibndkkokadaaJr
import Derived.Test.YtelibndkkokadaaJb
import Derived.Test.YtelibndkkokadaaJa
import Derived.Test.YtelibndkkokadaaJt
import Derived.Test.YtelibndkkokadaaGB17
import Derived.Test.YtelibndkkokadaaGB15
import Derived.Test.YtelibndkkokadaaGR21
namespace Go.Proofs.Ytelibndkkokadaa.GP
open Go.RowKit Go.Proofs.YtelibndkkokadaaW.PrintWords Go.Proofs.YtelibndkkokadaaW.PrintLast Go.Proofs.Ytelibndkkokadaa.HandV Go.Proofs.YtelibndkkokadaaW.PrintMore
open Go.Proofs.Ytelibndkkokadaa.GB
attribute [local go_sem] max2_int min2_int max_two min_two max_three min_three max_four min_four   -- for this text's walks alone
set_option linter.unusedVariables false
set_option linter.unusedSimpArgs false
-- IMPORT .GG2s
-- IMPORT .O1
-- IMPORT .R1
-- IMPORT .A1
-- IMPORT .A2
-- IMPORT .A5
-- IMPORT .A6
-- IMPORT .A7
-- IMPORT .A8
-- IMPORT .A12
-- IMPORT .GG1s
-- FN above_Above
-- FN above_In
-- FN chancellaw9_AboveGoes
open GA
theorem sorted_uniq {g : List En} (h : SortedE g) {a b : En} (ha : a ∈ g) (hb : b ∈ g) (he : a.f0 = b.f0) : a = b := by
  obtain ⟨i, hi, rfl⟩ := List.getElem_of_mem ha
  obtain ⟨j, hj, rfl⟩ := List.getElem_of_mem hb
  rcases Nat.lt_trichotomy i j with h1 | h1 | h1
  · have := List.pairwise_iff_getElem.1 h i j hi hj h1
    rw [he, ltU_irr] at this; cases this
  · subst h1; rfl
  · have := List.pairwise_iff_getElem.1 h j i hj hi h1
    rw [he, ltU_irr] at this; cases this
theorem rstep_mem {g : List En} (h : SortedE g) {e : En} (he : e ∈ g) : rstepF g e.f0 = e.f1 := by
  unfold rstepF
  cases hf : g.find? (fun x => decide (x.f0 = e.f0)) with
  | none =>
    have := List.find?_eq_none.1 hf e he
    simp at this
  | some x =>
    have h1 : x.f0 = e.f0 := by simpa using List.find?_some hf
    rw [sorted_uniq h (List.mem_of_find?_eq_some hf) he h1]
theorem rstep_none {g : List En} {u : U} (h : ∀ e ∈ g, e.f0 ≠ u) : rstepF g u = [] := by
  unfold rstepF
  rw [List.find?_eq_none.2 (fun x hx => by simpa using h x hx)]
theorem atB_some' {g : List En} (h : SortedE g) {u : U} : GT.atB g u.f0 u.f1 = true ↔ ∃ e ∈ g, e.f0 = u := by
  rw [atB_iff g ((sortedE_iff g).1 h)]
  constructor
  · rintro ⟨y, hy, hk⟩
    exact ⟨y, hy, ku_inj hk⟩
  · rintro ⟨y, hy, rfl⟩
    exact ⟨y, hy, rfl⟩
theorem step_eq {g : List En} (h : SortedE g) : stepF g = rstepF g := by
  funext u
  by_cases hb : GT.atB g u.f0 u.f1 = true
  · obtain ⟨e, he, rfl⟩ := atB_some hb
    rw [rstep_mem h (List.mem_of_getElem? he)]
    unfold stepF
    rw [if_pos hb, he]
  · rw [rstep_none (fun e he hu => hb ((atB_some' h).2 ⟨e, he, hu⟩))]
    unfold stepF
    rw [if_neg hb]
theorem in_iff {g : List En} (u a : U) : inF g u a = true ↔ Up (stepF g) u a := by
  unfold inF
  rw [decide_eq_true_eq, climbF_mem]
  simp
theorem above_iff {g : List En} (u a : U) : a ∈ aboveF g u ↔ ∃ p ∈ stepF g u, Up (stepF g) p a := by
  show a ∈ sortU _ ↔ _
  rw [(sortU_perm _).mem_iff, climbF_mem]
theorem above_eq {g : List En} (h : SortedE g) (u : U) : aboveF g u = refF g u := by
  unfold aboveF refF climbF refC most
  rw [step_eq h]
theorem above_strict (g : List En) (u : U) : Strict (aboveF g u) := sortU_strict (climbR_nodup _ _ _ _ (by simp))
theorem ref_strict (g : List En) (u : U) : Strict (refF g u) := sortU_strict (climbR_nodup _ _ _ _ (by simp))
theorem ref_iff {g : List En} (u a : U) : a ∈ refF g u ↔ ∃ p ∈ rstepF g u, Up (rstepF g) p a := by
  show a ∈ sortU _ ↔ _
  rw [(sortU_perm _).mem_iff, refC_mem]
theorem ref_len {g : List En} (h : okL g = true) (u : U) : (refF g u).length ≤ 4000000 := by
  have h1 := sub_len (refF g u) (univ g) (strict_nodup (ref_strict g u)) (fun y hy => by
    obtain ⟨p, hp, hu⟩ := (ref_iff u y).1 hy
    exact up_univ hu (rstepF_univ g u p hp))
  have := univ_len h
  omega
theorem above_f {g : List En} (h : okL g = true) {u : U} (hu : okU u = true) : above_Above.f g u.f0 u.f1 = some (aboveF g u) := by unfold above_Above.f; rw [if_pos ⟨h, hu⟩]
theorem in_f {g : List En} (h : okL g = true) {u a : U} (hu : okU u = true) (ha : okU a = true) : above_In.f g u.f0 u.f1 a.f0 a.f1 = some (inF g u a) := by unfold above_In.f; rw [if_pos ⟨h, hu, ha⟩]
theorem Tot.done {g : Nat → Option Bool} (h : Tot g (fun r => r = true)) : ∃ k, g k = some true := by
  obtain ⟨r, he, rfl⟩ := h
  exact he.rounds
theorem in_test {g : List En} (hg : AnyG g) (u a : U) (hu : okU u = true) (ha : okU a = true) (h : Up (stepF g) u a) : above_In.f g u.f0 u.f1 a.f0 a.f1 = some true := by
  rw [in_f (anyG_ok hg) hu ha, (in_iff u a).2 h]
theorem up_ok {g : List En} (hg : okL g = true) {a b : U} (h : Up (stepF g) a b) (ha : okU a = true) : okU b = true := by
  induction h with
  | refl => exact ha
  | head h1 _ ih => exact ih (stepF_ok hg _ _ h1)
theorem step_mem {g : List En} (hg : SortedE g) {e : En} (he : e ∈ g) : stepF g e.f0 = e.f1 := by rw [step_eq hg]; exact rstep_mem hg he
theorem above_ok {g : List En} (hg : okL g = true) (u : U) : ∀ a ∈ aboveF g u, okU a = true := by
  intro a ha
  obtain ⟨p, hp, h⟩ := (above_iff u a).1 ha
  exact up_ok hg h (stepF_ok hg u p hp)
theorem above_len {g : List En} (hg : SortedE g) (hok : okL g = true) (u : U) : (aboveF g u).length ≤ 4000000 := by rw [above_eq hg]; exact ref_len hok u
section
variable {g : List En} (hg : AnyG g) (i : Nat) (hi : i < g.length)
include hg hi
theorem ag_l4 (K : Tot (fun k => chancellaw9_AboveGoes.l0 k g ((i + 1 : Nat) : Int)) (fun r => r = true)) : ∀ (d j : Nat), j + d = g[i].f1.length → Tot (fun k => chancellaw9_AboveGoes.l4 k g (i : Int) (j : Int) g[i].f0.f0 g[i].f0.f1) (fun r => r = true)
  | 0, j, h => by
    have hlen := hg.2.2
    refine Tot.step (fun k => by rw [chancellaw9_AboveGoes.l4]) ?_
    refine Tot.pos (by omega) ?_
    refine Tot.pos (by omega) ?_
    rw [rdE_at hi]
    refine Tot.neg (by omega) ?_
    rw [wr_succ (by omega)]
    exact K
  | d + 1, j, h => by
    have hlen := hg.2.2
    have hok := anyG_ok hg
    have hj : j < g[i].f1.length := by omega
    have hf := (okL_mem hok (List.getElem_mem hi))
    refine Tot.step (fun k => by rw [chancellaw9_AboveGoes.l4]) ?_
    refine Tot.pos (by omega) ?_
    refine Tot.pos (by omega) ?_
    rw [rdE_at hi]
    refine Tot.pos (by omega) ?_
    refine Tot.pos (by omega) ?_
    rw [rdU_at hj, in_test hg g[i].f0 g[i].f1[j] hf.1 (hf.2.1 _ (List.getElem_mem hj)) (.head (by rw [step_mem hg.1 (List.getElem_mem hi)]; exact List.getElem_mem hj) (.refl _))]
    refine Tot.some_bind ?_
    refine Tot.pos rfl ?_
    have := hf.2.2.2
    rw [wr_succ (by omega)]
    exact ag_l4 K d (j + 1) (by omega)
include hg hi
theorem ag_l3 (m : Nat) (x : U) (hx : x ∈ aboveF g g[i].f0) (K : Tot (fun k => chancellaw9_AboveGoes.l1 k g (i : Int) (aboveF g g[i].f0) ((m + 1 : Nat) : Int) g[i].f0.f0 g[i].f0.f1) (fun r => r = true)) (hm : m < 4000000) : ∀ (d j : Nat), j + d = (aboveF g x).length → Tot (fun k => chancellaw9_AboveGoes.l3 k g (i : Int) (aboveF g g[i].f0) (m : Int) (aboveF g x) (j : Int) g[i].f0.f0 g[i].f0.f1) (fun r => r = true)
  | 0, j, h => by
    refine Tot.step (fun k => by rw [chancellaw9_AboveGoes.l3]) ?_
    refine Tot.neg (by omega) ?_
    rw [wr_succ (by omega)]
    exact K
  | d + 1, j, h => by
    have hok := anyG_ok hg
    have hf := (okL_mem hok (List.getElem_mem hi))
    have hj : j < (aboveF g x).length := by omega
    have hal := above_len hg.1 hok x
    have h1 := (above_iff _ _).1 hx
    obtain ⟨p, hp, hup⟩ := h1
    obtain ⟨p2, hp2, hup2⟩ := (above_iff x (aboveF g x)[j]).1 (List.getElem_mem hj)
    have hall : Up (stepF g) g[i].f0 (aboveF g x)[j] := (Up.head hp hup).trans (.head hp2 hup2)
    refine Tot.step (fun k => by rw [chancellaw9_AboveGoes.l3]) ?_
    refine Tot.pos (by omega) ?_
    refine Tot.pos (by omega) ?_
    rw [rdU_at hj, in_test hg g[i].f0 _ hf.1 (up_ok hok hall hf.1) hall]
    refine Tot.some_bind ?_
    refine Tot.pos rfl ?_
    rw [wr_succ (by omega)]
    exact ag_l3 m x hx K hm d (j + 1) (by omega)
include hg hi
theorem ag_l2 (m : Nat) (hm : m < (aboveF g g[i].f0).length) (K : Tot (fun k => chancellaw9_AboveGoes.l1 k g (i : Int) (aboveF g g[i].f0) ((m + 1 : Nat) : Int) g[i].f0.f0 g[i].f0.f1) (fun r => r = true)) : ∀ (d j : Nat) (b : Bool), j + d = g[i].f1.length → (b = true ∨ ∃ t, ∃ h : t < g[i].f1.length, j ≤ t ∧ Up (stepF g) g[i].f1[t] (aboveF g g[i].f0)[m]) → Tot (fun k => chancellaw9_AboveGoes.l2 k g (i : Int) (aboveF g g[i].f0) (m : Int) b (j : Int) g[i].f0.f0 g[i].f0.f1) (fun r => r = true)
  | 0, j, b, h, hb => by
    have hok := anyG_ok hg
    have hf := (okL_mem hok (List.getElem_mem hi))
    have hlen := hg.2.2
    have hal := above_len hg.1 hok g[i].f0
    have hxm : (aboveF g g[i].f0)[m] ∈ aboveF g g[i].f0 := List.getElem_mem hm
    obtain ⟨p, hp, hup⟩ := (above_iff _ _).1 hxm
    have hxo := above_ok hok g[i].f0 _ hxm
    have hbt : b = true := hb.elim id (fun ⟨t, ht, h1, _⟩ => by omega)
    subst hbt
    refine Tot.step (fun k => by rw [chancellaw9_AboveGoes.l2]) ?_
    refine Tot.pos (by omega) ?_
    refine Tot.pos (by omega) ?_
    rw [rdE_at hi]
    refine Tot.neg (by omega) ?_
    refine Tot.pos rfl ?_
    refine Tot.pos (by omega) ?_
    refine Tot.pos (by omega) ?_
    rw [rdU_at hm, in_test hg g[i].f0 _ hf.1 hxo (.head hp hup)]
    refine Tot.some_bind ?_
    refine Tot.pos rfl ?_
    have hj3 : Tot (fun k => chancellaw9_AboveGoes.j3 k g (i : Int) (aboveF g g[i].f0) (m : Int) false g[i].f0.f0 g[i].f0.f1) (fun r => r = true) := by
      refine Tot.step (fun k => by rw [chancellaw9_AboveGoes.j3]) ?_
      refine Tot.neg (by simp) ?_
      refine Tot.pos (by omega) ?_
      refine Tot.pos (by omega) ?_
      rw [rdU_at hm, above_f hok hxo]
      refine Tot.some_bind ?_
      exact ag_l3 hg i hi m _ hxm K (by omega) _ 0 (Nat.zero_add _)
    refine Tot.ite (fun hpos => ?_) (fun _ => hj3)
    have hw : wrap64 ((m : Int) - 1) = ((m - 1 : Nat) : Int) := by unfold wrap64; omega
    rw [hw]
    refine Tot.pos (by omega) ?_
    refine Tot.pos (by omega) ?_
    have hm1 : m - 1 < (aboveF g g[i].f0).length := by omega
    have hne : ((aboveF g g[i].f0)[m].f0.toList == (aboveF g g[i].f0)[m - 1].f0.toList && ((aboveF g g[i].f0)[m].f1.toList == (aboveF g g[i].f0)[m - 1].f1.toList)) = false := by
      cases hq : ((aboveF g g[i].f0)[m].f0.toList == (aboveF g g[i].f0)[m - 1].f0.toList && ((aboveF g g[i].f0)[m].f1.toList == (aboveF g g[i].f0)[m - 1].f1.toList)) with
      | false => rfl
      | true =>
        have he := (eqU_iff _ _).1 hq
        have := List.pairwise_iff_getElem.1 (above_strict g g[i].f0) (m - 1) m hm1 hm (by omega)
        rw [he, ltU_irr] at this
        cases this
    rw [rdU_at hm1, hne]
    exact hj3
  | d + 1, j, b, h, hb => by
    have hok := anyG_ok hg
    have hf := (okL_mem hok (List.getElem_mem hi))
    have hlen := hg.2.2
    have hal := above_len hg.1 hok g[i].f0
    have hj : j < g[i].f1.length := by omega
    have hxo := above_ok hok g[i].f0 _ (List.getElem_mem hm)
    have := hf.2.2.2
    refine Tot.step (fun k => by rw [chancellaw9_AboveGoes.l2]) ?_
    refine Tot.pos (by omega) ?_
    refine Tot.pos (by omega) ?_
    rw [rdE_at hi]
    refine Tot.pos (by omega) ?_
    refine Tot.ite (fun hbt => ?_) (fun hbf => ?_)
    · rw [wr_succ (by omega)]
      exact ag_l2 m hm K d (j + 1) true (by omega) (.inl rfl)
    · refine Tot.pos (by omega) ?_
      refine Tot.pos (by omega) ?_
      refine Tot.pos (by omega) ?_
      rw [rdU_at hj, rdU_at hm, in_f hok (hf.2.1 _ (List.getElem_mem hj)) hxo, wr_succ (by omega)]
      refine Tot.some_bind ?_
      refine ag_l2 m hm K d (j + 1) _ (by omega) ?_
      rcases hb with hb | ⟨t, ht, h1, h2⟩
      · exact absurd hb hbf
      · by_cases htj : t = j
        · subst htj
          exact .inl ((in_iff _ _).2 h2)
        · exact .inr ⟨t, ht, by omega, h2⟩
include hg hi
theorem ag_l1 (K : Tot (fun k => chancellaw9_AboveGoes.l0 k g ((i + 1 : Nat) : Int)) (fun r => r = true)) : ∀ (d m : Nat), m + d = (aboveF g g[i].f0).length → Tot (fun k => chancellaw9_AboveGoes.l1 k g (i : Int) (aboveF g g[i].f0) (m : Int) g[i].f0.f0 g[i].f0.f1) (fun r => r = true)
  | 0, m, h => by
    refine Tot.step (fun k => by rw [chancellaw9_AboveGoes.l1]) ?_
    refine Tot.neg (by omega) ?_
    exact ag_l4 hg i hi K g[i].f1.length 0 (by omega)
  | d + 1, m, h => by
    have hm : m < (aboveF g g[i].f0).length := by omega
    obtain ⟨p, hp, hup⟩ := (above_iff _ _).1 (List.getElem_mem hm)
    rw [step_mem hg.1 (List.getElem_mem hi)] at hp
    obtain ⟨t, ht, rfl⟩ := List.getElem_of_mem hp
    refine Tot.step (fun k => by rw [chancellaw9_AboveGoes.l1]) ?_
    refine Tot.pos (by omega) ?_
    exact ag_l2 hg i hi m hm (ag_l1 K d (m + 1) (by omega)) g[i].f1.length 0 false (by omega) (.inr ⟨t, ht, Nat.zero_le _, hup⟩)
end
theorem ag_l0 {g : List En} (hg : AnyG g) : ∀ (d i : Nat), i + d = g.length → Tot (fun k => chancellaw9_AboveGoes.l0 k g (i : Int)) (fun r => r = true)
  | 0, i, h => by
    refine Tot.step (fun k => by rw [chancellaw9_AboveGoes.l0]) ?_
    refine Tot.neg (by omega) ?_
    exact Tot.now rfl
  | d + 1, i, h => by
    have hi : i < g.length := by omega
    have hok := anyG_ok hg
    have hf := (okL_mem hok (List.getElem_mem hi))
    refine Tot.step (fun k => by rw [chancellaw9_AboveGoes.l0]) ?_
    refine Tot.pos (by omega) ?_
    refine Tot.pos (by omega) ?_
    rw [rdE_at hi, in_test hg g[i].f0 g[i].f0 hf.1 hf.1 (.refl _)]
    refine Tot.some_bind ?_
    refine Tot.pos rfl ?_
    rw [above_f hok hf.1]
    refine Tot.some_bind ?_
    exact ag_l1 hg i hi (ag_l0 hg d (i + 1) (by omega)) _ 0 (Nat.zero_add _)
theorem aboveGoes_g (g : List En) (hg : AnyG g) : ∃ k, chancellaw9_AboveGoes.g k g = some true := by
  refine Tot.done ?_
  unfold chancellaw9_AboveGoes.g
  exact ag_l0 hg g.length 0 (by omega)
end Go.Proofs.Ytelibndkkokadaa.GP
