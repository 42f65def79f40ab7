import Derived.Test.YtelibndkkokadaaGB0
import Derived.Test.YtelibndkkokadaaJr
import Derived.Test.YtelibndkkokadaaJa
import Derived.Test.YtelibndkkokadaaJb
import Derived.Test.YtelibndkkokadaaJh
import Derived.Test.YtelibndkkokadaaGB17
import Derived.Test.YtelibndkkokadaaGB15
import Derived.Test.YtelibndkkokadaaGR23
namespace Go.Proofs.Ytelibndkkokadaa.GP
open Go.RowKit Go.Proofs.YtelibndkkokadaaW.PrintWords Go.Proofs.YtelibndkkokadaaW.PrintLast Go.Proofs.Ytelibndkkokadaa.HandV Go.Proofs.YtelibndkkokadaaW.PrintMore
open Go.Proofs.Ytelibndkkokadaa.GB
attribute [local go_sem] max2_int min2_int max_two min_two max_three min_three max_four min_four   -- for this text's walks alone
set_option linter.unusedVariables false
set_option linter.unusedSimpArgs false
-- IMPORT .GG2s
-- IMPORT .R1
-- IMPORT .A2
-- IMPORT .A5
-- IMPORT .A6
-- IMPORT .GG1s
-- FN chancellaw9_within
-- FN above_Below
-- FN above_In
-- FN chancellaw9_AboveBelow
open GA
theorem within_tot9 (a m : Int) (hm : 0 < m) (hm2 : m ≤ 1000000) : ∃ r, chancellaw9_within.f a m = some r ∧ 0 ≤ r ∧ r < m := by
  unfold chancellaw9_within.f
  have h1 := Int.tmod_lt_of_pos a hm
  have h2 := tmod_gt a m hm
  rw [if_neg (by omega)]
  split
  · exact ⟨_, rfl, by rw [wr_id (by omega) (by omega)]; omega, by rw [wr_id (by omega) (by omega)]; omega⟩
  · exact ⟨_, rfl, by omega, h1⟩
theorem sorted_uniq {g : List En} (h : SortedE g) {a b : En} (ha : a ∈ g) (hb : b ∈ g) (he : a.f0 = b.f0) : a = b := by
  obtain ⟨i, hi, rfl⟩ := List.getElem_of_mem ha
  obtain ⟨j, hj, rfl⟩ := List.getElem_of_mem hb
  rcases Nat.lt_trichotomy i j with h1 | h1 | h1
  · have := List.pairwise_iff_getElem.1 h i j hi hj h1
    rw [he, ltU_irr] at this; cases this
  · subst h1; rfl
  · have := List.pairwise_iff_getElem.1 h j i hj hi h1
    rw [he, ltU_irr] at this; cases this
theorem in_f {g : List En} (h : okL g = true) {u a : U} (hu : okU u = true) (ha : okU a = true) : above_In.f g u.f0 u.f1 a.f0 a.f1 = some (inF g u a) := by unfold above_In.f; rw [if_pos ⟨h, hu, ha⟩]
theorem Tot.done {g : Nat → Option Bool} (h : Tot g (fun r => r = true)) : ∃ k, g k = some true := by
  obtain ⟨r, he, rfl⟩ := h
  exact he.rounds
def pB (g : List En) (u : U) (e : En) : Bool := !decide (e.f0 = u) && inF g e.f0 u
def belowF (g : List En) (u : U) : List U := (g.filter (pB g u)).map (fun e => e.f0)
theorem ne_test (x u : U) : ((!(x.f0.toList == u.f0.toList)) || (!(x.f1.toList == u.f1.toList))) = !decide (x = u) := by
  have := eqU_iff x u
  cases h1 : (x.f0.toList == u.f0.toList) <;> cases h2 : (x.f1.toList == u.f1.toList) <;> rw [h1, h2] at this
  · have hn : x ≠ u := fun e => by have := this.2 e; cases this
    simp [hn]
  · have hn : x ≠ u := fun e => by have := this.2 e; cases this
    simp [hn]
  · have hn : x ≠ u := fun e => by have := this.2 e; cases this
    simp [hn]
  · have hn : x = u := this.1 rfl
    simp [hn]
theorem below_l0 {g : List En} (hg : AnyG g) {u : U} (hu : okU u = true) : ∀ (d i : Nat) (acc : List U), i + d = g.length → acc.length ≤ i → Tot (fun k => above_Below.l0 k g acc g (g.length : Int) (i : Int) u.f0 u.f1) (fun r => r = acc ++ ((g.drop i).filter (pB g u)).map (fun e => e.f0))
  | 0, i, acc, h, ha => by
    refine Tot.step (fun k => by rw [above_Below.l0]) ?_
    refine Tot.neg (by omega) ?_
    exact Tot.now (by rw [List.drop_of_length_le (by omega)]; simp)
  | d + 1, i, acc, h, ha => by
    have hi : i < g.length := by omega
    have hlen := hg.2.2
    have hok := anyG_ok hg
    have hd : g.drop i = g[i] :: g.drop (i + 1) := List.drop_eq_getElem_cons hi
    have hskip : pB g u g[i] = false → Tot (fun k => above_Below.l0 k g acc g (g.length : Int) (wrap64 ((i : Int) + 1)) u.f0 u.f1) (fun r => r = acc ++ ((g.drop i).filter (pB g u)).map (fun e => e.f0)) := fun hp => by
      rw [wr_succ (by omega)]
      refine Tot.mono (below_l0 hg hu d (i + 1) acc (by omega) (by omega)) (fun r hr => ?_)
      rw [hr, hd, List.filter_cons, if_neg (by simp [hp])]
    refine Tot.step (fun k => by rw [above_Below.l0]) ?_
    refine Tot.pos (by omega) ?_
    refine Tot.pos (by omega) ?_
    refine Tot.pos (by omega) ?_
    rw [rdE_at hi, ne_test]
    refine Tot.ite (fun hq => ?_) (fun hq => ?_)
    · rw [in_f hok (okL_mem hok (List.getElem_mem hi)).1 hu]
      refine Tot.some_bind ?_
      refine Tot.ite (fun hb => ?_) (fun hb => ?_)
      · refine Tot.pos (by omega) ?_
        rw [wr_succ (by omega)]
        refine Tot.mono (below_l0 hg hu d (i + 1) _ (by omega) (by simp; omega)) (fun r hr => ?_)
        rw [hr, hd, List.filter_cons, if_pos (by unfold pB; rw [hq, hb]; rfl)]
        simp
      · exact hskip (by unfold pB; rw [Bool.and_eq_false_iff]; exact .inr (by simpa using hb))
    · exact hskip (by unfold pB; rw [Bool.and_eq_false_iff]; exact .inl (by simpa using hq))
theorem below_tot {g : List En} (hg : AnyG g) {u : U} (hu : okU u = true) : Tot (fun k => above_Below.f k g u.f0 u.f1) (fun r => r = belowF g u) :=
  Tot.mono (below_l0 hg hu g.length 0 [] (by omega) (Nat.le_refl _)) (fun r h => by rw [h]; rfl)
theorem belowF_len {g : List En} (hg : AnyG g) (u : U) : (belowF g u).length ≤ 12 := by
  have := hg.2.2
  have h2 : (g.filter (pB g u)).length ≤ g.length := List.length_filter_le _ _
  unfold belowF
  rw [List.length_map]
  omega
theorem ab_l1 {g : List En} (hg : AnyG g) {u : U} (hu : okU u = true) (i : Nat) (hi : i < g.length) (K : Tot (fun k => chancellaw9_AboveBelow.l0 k g (belowF g u) ((i + 1 : Nat) : Int) u.f0 u.f1) (fun r => r = true)) :
    ∀ (d j : Nat) (b : Bool), j + d = (belowF g u).length → (b = true ↔ g[i].f0 ∈ (belowF g u).take j) → Tot (fun k => chancellaw9_AboveBelow.l1 k g (belowF g u) (i : Int) b (j : Int) u.f0 u.f1) (fun r => r = true)
  | 0, j, b, h, hb => by
    have hok := anyG_ok hg
    have hlen := hg.2.2
    rw [List.take_of_length_le (by omega)] at hb
    have hmem : g[i].f0 ∈ belowF g u ↔ pB g u g[i] = true := by
      unfold belowF
      rw [List.mem_map]
      constructor
      · rintro ⟨e, he, h2⟩
        obtain ⟨h3, h4⟩ := List.mem_filter.1 he
        rw [← sorted_uniq hg.1 h3 (List.getElem_mem hi) h2]; exact h4
      · intro h2
        exact ⟨g[i], List.mem_filter.2 ⟨List.getElem_mem hi, h2⟩, rfl⟩
    have hbp : b = pB g u g[i] := by
      rw [hmem] at hb
      cases b <;> cases h2 : pB g u g[i] <;> simp_all
    refine Tot.step (fun k => by rw [chancellaw9_AboveBelow.l1]) ?_
    refine Tot.neg (by omega) ?_
    refine Tot.pos (by omega) ?_
    refine Tot.pos (by omega) ?_
    rw [rdE_at hi, ne_test]
    refine Tot.ite (fun hq => ?_) (fun hq => ?_)
    · rw [in_f hok (okL_mem hok (List.getElem_mem hi)).1 hu]
      refine Tot.some_bind ?_
      refine Tot.neg (by rw [hbp]; unfold pB; rw [hq]; simp) ?_
      rw [wr_succ (by omega)]
      exact K
    · refine Tot.neg (by rw [hbp]; unfold pB; simp at hq; simp [hq]) ?_
      rw [wr_succ (by omega)]
      exact K
  | d + 1, j, b, h, hb => by
    have hj : j < (belowF g u).length := by omega
    have hbl := belowF_len hg u
    have htk : (belowF g u).take (j + 1) = (belowF g u).take j ++ [(belowF g u)[j]] := by rw [List.take_append_getElem]
    refine Tot.step (fun k => by rw [chancellaw9_AboveBelow.l1]) ?_
    refine Tot.pos (by omega) ?_
    refine Tot.ite (fun hbt => ?_) (fun hbf => ?_)
    · rw [wr_succ (by omega)]
      exact ab_l1 hg hu i hi K d (j + 1) true (by omega) ⟨fun _ => by rw [htk]; exact List.mem_append_left _ (hb.1 hbt), fun _ => rfl⟩
    · refine Tot.pos (by omega) ?_
      refine Tot.pos (by omega) ?_
      refine Tot.pos (by omega) ?_
      rw [wr_succ (by omega), rdU_at hj, rdE_at hi]
      refine ab_l1 hg hu i hi K d (j + 1) _ (by omega) ?_
      rw [eqU_iff, htk, List.mem_append, List.mem_singleton]
      exact ⟨fun e => .inr e.symm, fun e => e.elim (fun h2 => absurd (hb.2 h2) hbf) (fun h2 => h2.symm)⟩
theorem ab_l0 {g : List En} (hg : AnyG g) {u : U} (hu : okU u = true) : ∀ (d i : Nat), i + d = g.length → Tot (fun k => chancellaw9_AboveBelow.l0 k g (belowF g u) (i : Int) u.f0 u.f1) (fun r => r = true)
  | 0, i, h => by
    refine Tot.step (fun k => by rw [chancellaw9_AboveBelow.l0]) ?_
    refine Tot.neg (by omega) ?_
    exact Tot.now rfl
  | d + 1, i, h => by
    refine Tot.step (fun k => by rw [chancellaw9_AboveBelow.l0]) ?_
    refine Tot.pos (by omega) ?_
    exact ab_l1 hg hu i (by omega) (ab_l0 hg hu d (i + 1) (by omega)) (belowF g u).length 0 false (by omega) (by simp)
theorem aboveBelow_g (g : List En) (hg : AnyG g) (a1 : Int) : ∃ k, chancellaw9_AboveBelow.g k g a1 = some true := by
  refine Tot.done ?_
  unfold chancellaw9_AboveBelow.g
  refine Tot.ite (fun _ => Tot.now rfl) (fun hne => ?_)
  have hlen := hg.2.2
  obtain ⟨r, hr, h0, h1⟩ := within_tot9 a1 (g.length : Int) (by omega) (by omega)
  rw [hr]
  refine Tot.some_bind ?_
  refine Tot.pos h0 ?_
  refine Tot.pos h1 ?_
  obtain ⟨i, rfl⟩ : ∃ i : Nat, r = (i : Int) := ⟨r.toNat, by omega⟩
  have hi : i < g.length := by omega
  rw [rdE_at hi]
  have hu := (okL_mem (anyG_ok hg) (List.getElem_mem hi)).1
  refine Tot.bind (below_tot hg hu) (fun x hx => ?_)
  subst hx
  exact ab_l0 hg hu g.length 0 (by omega)
end Go.Proofs.Ytelibndkkokadaa.GP
