import Derived.Test.YtelibndkkokadaaGB0
import Derived.Test.YtelibndkkokadaaJr
import Derived.Test.YtelibndkkokadaaJb
import Derived.Test.YtelibndkkokadaaJa
import Derived.Test.YtelibndkkokadaaJt
import Derived.Test.YtelibndkkokadaaJp
import Derived.Test.YtelibndkkokadaaJg
import Derived.Test.YtelibndkkokadaaJh
import Derived.Test.YtelibndkkokadaaJi
import Derived.Test.YtelibndkkokadaaGB17
import Derived.Test.YtelibndkkokadaaGB15
import Derived.Test.YtelibndkkokadaaGR20
namespace Go.Proofs.Ytelibndkkokadaa.GP
open Go.RowKit Go.Proofs.YtelibndkkokadaaW.PrintWords Go.Proofs.YtelibndkkokadaaW.PrintLast Go.Proofs.Ytelibndkkokadaa.HandV Go.Proofs.YtelibndkkokadaaW.PrintMore
open Go.Proofs.Ytelibndkkokadaa.GB
attribute [local go_sem] max2_int min2_int max_two min_two max_three min_three max_four min_four   -- for this text's walks alone
set_option linter.unusedVariables false
set_option linter.unusedSimpArgs false
-- IMPORT .GG2s
-- IMPORT .O1
-- IMPORT .R1
-- IMPORT .A1
-- IMPORT .A2
-- IMPORT .A5
-- IMPORT .A6
-- IMPORT .A7
-- IMPORT .A8
-- IMPORT .A9
-- IMPORT .A12
-- IMPORT .P3s
-- IMPORT .GG1s
-- FN chancellaw1_Of
-- FN chancellaw5_id
-- FN chancellaw5_Uid
-- FN chancellaw9_pick
-- FN chancellaw9_within
-- FN chancelref9_In
-- FN chancellaw9_same
-- FN above_Below
-- FN above_Above
-- FN above_In
-- FN chancelref9_Below
-- FN chancelref9_Circle
-- FN above_Circle
-- FN chancelref9_Above
-- FN chancellaw9_AboveAsks
set_option linter.unusedSectionVars false
open GA
theorem of_nil : Tot (fun k => chancellaw1_Of.f k []) (fun b => b.size ≤ 1000000) := by
  have h : (chancellaw1_Of.f 200 []).map (fun b => b.size) = some 0 := by decide +kernel
  cases hb : chancellaw1_Of.f 200 [] with
  | none => rw [hb] at h; cases h
  | some b =>
    rw [hb] at h
    have hs : b.size = 0 := Option.some.inj h
    exact ⟨b, Ev.of (chancellaw1_Of.mono []) hb, by omega⟩
theorem within_tot9 (a m : Int) (hm : 0 < m) (hm2 : m ≤ 1000000) : ∃ r, chancellaw9_within.f a m = some r ∧ 0 ≤ r ∧ r < m := by
  unfold chancellaw9_within.f
  have h1 := Int.tmod_lt_of_pos a hm
  have h2 := tmod_gt a m hm
  rw [if_neg (by omega)]
  split
  · exact ⟨_, rfl, by rw [wr_id (by omega) (by omega)]; omega, by rw [wr_id (by omega) (by omega)]; omega⟩
  · exact ⟨_, rfl, by omega, h1⟩
theorem uid5_tot (n : Int) : Tot (fun k => chancellaw5_Uid.f k n []) (fun r => okU ⟨r.1, r.2⟩ = true) := by
  unfold chancellaw5_Uid.f
  refine Tot.some_bind ?_
  obtain ⟨r, hr, h0, h1⟩ := within_tot5 n 5 (by decide) (by decide)
  rw [hr]
  refine Tot.some_bind ?_
  refine Tot.pos h0 ?_
  refine Tot.pos (by simp; omega) ?_
  refine Tot.bind (R := fun b => b.size ≤ 1000000) ?_ (fun b hb => Tot.now (okU_of ?_ hb))
  · unfold chancellaw5_id.f
    refine Tot.neg (by decide) ?_
    exact Tot.bind of_nil (fun b hb => Tot.now hb)
  · have : r = 0 ∨ r = 1 ∨ r = 2 ∨ r = 3 ∨ r = 4 := by omega
    rcases this with rfl | rfl | rfl | rfl | rfl <;> exact Nat.le_of_ble_eq_true rfl
/-- What pick picks: one that is told again each time. -/
theorem pick_tot {g : List En} (hg : AnyG g) (n : Int) : Tot (fun k => chancellaw9_pick.f k g n) (fun r => okU ⟨r.1, r.2⟩ = true) := by
  have hok := anyG_ok hg
  have hlen := hg.2.2
  have h1 : Tot (fun k => chancellaw9_pick.j0 k g n true) (fun r => okU ⟨r.1, r.2⟩ = true) := by
    refine Tot.step (fun k => by rw [chancellaw9_pick.j0]) ?_
    refine Tot.pos rfl ?_
    exact Tot.bind (uid5_tot n) (fun b hb => Tot.now hb)
  unfold chancellaw9_pick.f
  refine Tot.ite (fun _ => h1) (fun hne => ?_)
  cases hq : (Int.tmod n 7) == 6 with
  | true => exact h1
  | false =>
    refine Tot.step (fun k => by rw [chancellaw9_pick.j0]) ?_
    refine Tot.neg (by simp) ?_
    obtain ⟨r, hr, h0, h1⟩ := within_tot9 (wrap64 (Int.tdiv n 7)) (g.length : Int) (by omega) (by omega)
    rw [hr]
    refine Tot.some_bind ?_
    refine Tot.pos h0 ?_
    refine Tot.pos h1 ?_
    obtain ⟨i, rfl⟩ : ∃ i : Nat, r = (i : Int) := ⟨r.toNat, by omega⟩
    have hi : i < g.length := by omega
    rw [rdE_at hi]
    obtain ⟨q1, q2, _, q4⟩ := okL_mem hok (List.getElem_mem hi)
    have hp : Tot (fun _ => some (g[i].f0.f0, g[i].f0.f1)) (fun r : ByteArray × ByteArray => okU ⟨r.1, r.2⟩ = true) := Tot.now q1
    refine Tot.ite (fun _ => ?_) (fun _ => hp)
    refine Tot.ite (fun hpos => ?_) (fun _ => hp)
    obtain ⟨r2, hr2, h2, h3⟩ := within_tot9 (wrap64 (Int.tdiv n 21)) (g[i].f1.length : Int) (by omega) (by omega)
    rw [hr2]
    refine Tot.some_bind ?_
    refine Tot.pos h2 ?_
    refine Tot.pos h3 ?_
    obtain ⟨j, rfl⟩ : ∃ j : Nat, r2 = (j : Int) := ⟨r2.toNat, by omega⟩
    have hj : j < g[i].f1.length := by omega
    rw [rdU_at hj]
    exact Tot.now (q2 _ (List.getElem_mem hj))
theorem sorted_uniq {g : List En} (h : SortedE g) {a b : En} (ha : a ∈ g) (hb : b ∈ g) (he : a.f0 = b.f0) : a = b := by
  obtain ⟨i, hi, rfl⟩ := List.getElem_of_mem ha
  obtain ⟨j, hj, rfl⟩ := List.getElem_of_mem hb
  rcases Nat.lt_trichotomy i j with h1 | h1 | h1
  · have := List.pairwise_iff_getElem.1 h i j hi hj h1
    rw [he, ltU_irr] at this; cases this
  · subst h1; rfl
  · have := List.pairwise_iff_getElem.1 h j i hj hi h1
    rw [he, ltU_irr] at this; cases this
theorem rstep_mem {g : List En} (h : SortedE g) {e : En} (he : e ∈ g) : rstepF g e.f0 = e.f1 := by
  unfold rstepF
  cases hf : g.find? (fun x => decide (x.f0 = e.f0)) with
  | none =>
    have := List.find?_eq_none.1 hf e he
    simp at this
  | some x =>
    have h1 : x.f0 = e.f0 := by simpa using List.find?_some hf
    rw [sorted_uniq h (List.mem_of_find?_eq_some hf) he h1]
theorem rstep_none {g : List En} {u : U} (h : ∀ e ∈ g, e.f0 ≠ u) : rstepF g u = [] := by
  unfold rstepF
  rw [List.find?_eq_none.2 (fun x hx => by simpa using h x hx)]
theorem atB_some' {g : List En} (h : SortedE g) {u : U} : GT.atB g u.f0 u.f1 = true ↔ ∃ e ∈ g, e.f0 = u := by
  rw [atB_iff g ((sortedE_iff g).1 h)]
  constructor
  · rintro ⟨y, hy, hk⟩
    exact ⟨y, hy, ku_inj hk⟩
  · rintro ⟨y, hy, rfl⟩
    exact ⟨y, hy, rfl⟩
theorem step_eq {g : List En} (h : SortedE g) : stepF g = rstepF g := by
  funext u
  by_cases hb : GT.atB g u.f0 u.f1 = true
  · obtain ⟨e, he, rfl⟩ := atB_some hb
    rw [rstep_mem h (List.mem_of_getElem? he)]
    unfold stepF
    rw [if_pos hb, he]
  · rw [rstep_none (fun e he hu => hb ((atB_some' h).2 ⟨e, he, hu⟩))]
    unfold stepF
    rw [if_neg hb]
theorem up_split {α : Type} {step : α → List α} {a b : α} : Up step a b ↔ a = b ∨ ∃ p ∈ step a, Up step p b := by
  constructor
  · intro h
    cases h with
    | refl => exact .inl rfl
    | head h1 h2 => exact .inr ⟨_, h1, h2⟩
  · rintro (rfl | ⟨p, hp, h⟩)
    · exact .refl _
    · exact .head hp h
theorem in_iff {g : List En} (u a : U) : inF g u a = true ↔ Up (stepF g) u a := by
  unfold inF
  rw [decide_eq_true_eq, climbF_mem]
  simp
theorem above_eq {g : List En} (h : SortedE g) (u : U) : aboveF g u = refF g u := by
  unfold aboveF refF climbF refC most
  rw [step_eq h]
theorem ref_strict (g : List En) (u : U) : Strict (refF g u) := sortU_strict (climbR_nodup _ _ _ _ (by simp))
theorem ref_iff {g : List En} (u a : U) : a ∈ refF g u ↔ ∃ p ∈ rstepF g u, Up (rstepF g) p a := by
  show a ∈ sortU _ ↔ _
  rw [(sortU_perm _).mem_iff, refC_mem]
theorem ref_len {g : List En} (h : okL g = true) (u : U) : (refF g u).length ≤ 4000000 := by
  have h1 := sub_len (refF g u) (univ g) (strict_nodup (ref_strict g u)) (fun y hy => by
    obtain ⟨p, hp, hu⟩ := (ref_iff u y).1 hy
    exact up_univ hu (rstepF_univ g u p hp))
  have := univ_len h
  omega
theorem rin_tot {g : List En} (h : okL g = true) (u a : U) : Tot (fun k => chancelref9_In.f k g u.f0 u.f1 a.f0 a.f1) (fun r => r = true ↔ Up (rstepF g) u a) := by
  unfold chancelref9_In.f
  refine Tot.ite (fun hq => ?_) (fun hq => ?_)
  · have := (eqU_iff u a).1 hq
    subst this
    exact Tot.now (by simp [Up.refl])
  · have hne : u ≠ a := fun e => hq ((eqU_iff u a).2 e)
    have ha : chancelref9_Above.f g u.f0 u.f1 = some (refF g u) := by unfold chancelref9_Above.f; rw [if_pos h]
    rw [ha]
    refine Tot.some_bind ?_
    refine Tot.bind (has_tot (refF g u) (ref_len h u) a) (fun b hb => Tot.now ?_)
    subst hb
    rw [decide_eq_true_eq, ref_iff, up_split]
    exact ⟨fun h => .inr h, fun h => h.resolve_left hne⟩
theorem above_f {g : List En} (h : okL g = true) {u : U} (hu : okU u = true) : above_Above.f g u.f0 u.f1 = some (aboveF g u) := by unfold above_Above.f; rw [if_pos ⟨h, hu⟩]
theorem in_f {g : List En} (h : okL g = true) {u a : U} (hu : okU u = true) (ha : okU a = true) : above_In.f g u.f0 u.f1 a.f0 a.f1 = some (inF g u a) := by unfold above_In.f; rw [if_pos ⟨h, hu, ha⟩]
theorem same_l0 (l : List U) : ∀ (d i : Nat), i + d = l.length → l.length ≤ 4000000 → Tot (fun k => chancellaw9_same.l0 k l l (i : Int)) (fun r => r = true)
  | 0, i, h, _ => by
    refine Tot.step (fun k => by rw [chancellaw9_same.l0]) ?_
    refine Tot.neg (by omega) ?_
    exact Tot.now rfl
  | d + 1, i, h, hl => by
    refine Tot.step (fun k => by rw [chancellaw9_same.l0]) ?_
    refine Tot.pos (by omega) ?_
    refine Tot.pos (by omega) ?_
    refine Tot.pos (by omega) ?_
    refine Tot.neg (by simp) ?_
    rw [wr_succ (by omega)]
    exact same_l0 l d (i + 1) (by omega) hl
theorem same_tot (l : List U) (hl : l.length ≤ 4000000) : Tot (fun k => chancellaw9_same.f k l l) (fun r => r = true) := by
  unfold chancellaw9_same.f
  refine Tot.pos rfl ?_
  exact same_l0 l l.length 0 (by omega) hl
theorem Tot.done {g : Nat → Option Bool} (h : Tot g (fun r => r = true)) : ∃ k, g k = some true := by
  obtain ⟨r, he, rfl⟩ := h
  exact he.rounds
def pB (g : List En) (u : U) (e : En) : Bool := !decide (e.f0 = u) && inF g e.f0 u
def belowF (g : List En) (u : U) : List U := (g.filter (pB g u)).map (fun e => e.f0)
theorem ne_test (x u : U) : ((!(x.f0.toList == u.f0.toList)) || (!(x.f1.toList == u.f1.toList))) = !decide (x = u) := by
  have := eqU_iff x u
  cases h1 : (x.f0.toList == u.f0.toList) <;> cases h2 : (x.f1.toList == u.f1.toList) <;> rw [h1, h2] at this
  · have hn : x ≠ u := fun e => by have := this.2 e; cases this
    simp [hn]
  · have hn : x ≠ u := fun e => by have := this.2 e; cases this
    simp [hn]
  · have hn : x ≠ u := fun e => by have := this.2 e; cases this
    simp [hn]
  · have hn : x = u := this.1 rfl
    simp [hn]
theorem below_l0 {g : List En} (hg : AnyG g) {u : U} (hu : okU u = true) : ∀ (d i : Nat) (acc : List U), i + d = g.length → acc.length ≤ i → Tot (fun k => above_Below.l0 k g acc g (g.length : Int) (i : Int) u.f0 u.f1) (fun r => r = acc ++ ((g.drop i).filter (pB g u)).map (fun e => e.f0))
  | 0, i, acc, h, ha => by
    refine Tot.step (fun k => by rw [above_Below.l0]) ?_
    refine Tot.neg (by omega) ?_
    exact Tot.now (by rw [List.drop_of_length_le (by omega)]; simp)
  | d + 1, i, acc, h, ha => by
    have hi : i < g.length := by omega
    have hlen := hg.2.2
    have hok := anyG_ok hg
    have hd : g.drop i = g[i] :: g.drop (i + 1) := List.drop_eq_getElem_cons hi
    have hskip : pB g u g[i] = false → Tot (fun k => above_Below.l0 k g acc g (g.length : Int) (wrap64 ((i : Int) + 1)) u.f0 u.f1) (fun r => r = acc ++ ((g.drop i).filter (pB g u)).map (fun e => e.f0)) := fun hp => by
      rw [wr_succ (by omega)]
      refine Tot.mono (below_l0 hg hu d (i + 1) acc (by omega) (by omega)) (fun r hr => ?_)
      rw [hr, hd, List.filter_cons, if_neg (by simp [hp])]
    refine Tot.step (fun k => by rw [above_Below.l0]) ?_
    refine Tot.pos (by omega) ?_
    refine Tot.pos (by omega) ?_
    refine Tot.pos (by omega) ?_
    rw [rdE_at hi, ne_test]
    refine Tot.ite (fun hq => ?_) (fun hq => ?_)
    · rw [in_f hok (okL_mem hok (List.getElem_mem hi)).1 hu]
      refine Tot.some_bind ?_
      refine Tot.ite (fun hb => ?_) (fun hb => ?_)
      · refine Tot.pos (by omega) ?_
        rw [wr_succ (by omega)]
        refine Tot.mono (below_l0 hg hu d (i + 1) _ (by omega) (by simp; omega)) (fun r hr => ?_)
        rw [hr, hd, List.filter_cons, if_pos (by unfold pB; rw [hq, hb]; rfl)]
        simp
      · exact hskip (by unfold pB; rw [Bool.and_eq_false_iff]; exact .inr (by simpa using hb))
    · exact hskip (by unfold pB; rw [Bool.and_eq_false_iff]; exact .inl (by simpa using hq))
theorem below_tot {g : List En} (hg : AnyG g) {u : U} (hu : okU u = true) : Tot (fun k => above_Below.f k g u.f0 u.f1) (fun r => r = belowF g u) :=
  Tot.mono (below_l0 hg hu g.length 0 [] (by omega) (Nat.le_refl _)) (fun r h => by rw [h]; rfl)
theorem rin_eq {g : List En} (hg : AnyG g) (u a : U) : Tot (fun k => chancelref9_In.f k g u.f0 u.f1 a.f0 a.f1) (fun r => r = inF g u a) :=
  Tot.mono (rin_tot (anyG_ok hg) u a) (fun r hr => by
    rw [← step_eq hg.1, ← in_iff] at hr
    cases r <;> cases h : inF g u a <;> simp_all)
theorem rbelow_l0 {g : List En} (hg : AnyG g) {u : U} (hu : okU u = true) : ∀ (d i : Nat) (acc : List U), i + d = g.length → acc.length ≤ i → Tot (fun k => chancelref9_Below.l0 k g acc (i : Int) u.f0 u.f1) (fun r => r = acc ++ ((g.drop i).filter (pB g u)).map (fun e => e.f0))
  | 0, i, acc, h, ha => by
    refine Tot.step (fun k => by rw [chancelref9_Below.l0]) ?_
    refine Tot.neg (by omega) ?_
    exact Tot.now (by rw [List.drop_of_length_le (by omega)]; simp)
  | d + 1, i, acc, h, ha => by
    have hi : i < g.length := by omega
    have hlen := hg.2.2
    have hd : g.drop i = g[i] :: g.drop (i + 1) := List.drop_eq_getElem_cons hi
    have hskip : pB g u g[i] = false → Tot (fun k => chancelref9_Below.l0 k g acc (wrap64 ((i : Int) + 1)) u.f0 u.f1) (fun r => r = acc ++ ((g.drop i).filter (pB g u)).map (fun e => e.f0)) := fun hp => by
      rw [wr_succ (by omega)]
      refine Tot.mono (rbelow_l0 hg hu d (i + 1) acc (by omega) (by omega)) (fun r hr => ?_)
      rw [hr, hd, List.filter_cons, if_neg (by simp [hp])]
    refine Tot.step (fun k => by rw [chancelref9_Below.l0]) ?_
    refine Tot.pos (by omega) ?_
    refine Tot.pos (by omega) ?_
    rw [rdE_at hi, ne_test]
    refine Tot.ite (fun hq => ?_) (fun hq => ?_)
    · refine Tot.bind (rin_eq hg g[i].f0 u) (fun b hb => ?_)
      subst hb
      refine Tot.ite (fun hb => ?_) (fun hb => ?_)
      · refine Tot.pos (by omega) ?_
        rw [wr_succ (by omega)]
        refine Tot.mono (rbelow_l0 hg hu d (i + 1) _ (by omega) (by simp; omega)) (fun r hr => ?_)
        rw [hr, hd, List.filter_cons, if_pos (by unfold pB; rw [hq, hb]; rfl)]
        simp
      · exact hskip (by unfold pB; rw [Bool.and_eq_false_iff]; exact .inr (by simpa using hb))
    · exact hskip (by unfold pB; rw [Bool.and_eq_false_iff]; exact .inl (by simpa using hq))
theorem rbelow_tot {g : List En} (hg : AnyG g) {u : U} (hu : okU u = true) : Tot (fun k => chancelref9_Below.f k g u.f0 u.f1) (fun r => r = belowF g u) :=
  Tot.mono (rbelow_l0 hg hu g.length 0 [] (by omega) (Nat.le_refl _)) (fun r h => by rw [h]; rfl)
theorem belowF_len {g : List En} (hg : AnyG g) (u : U) : (belowF g u).length ≤ 12 := by
  have := hg.2.2
  have h2 : (g.filter (pB g u)).length ≤ g.length := List.length_filter_le _ _
  unfold belowF
  rw [List.length_map]
  omega
theorem above_len {g : List En} (hg : SortedE g) (hok : okL g = true) (u : U) : (aboveF g u).length ≤ 4000000 := by rw [above_eq hg]; exact ref_len hok u
theorem rest_sorted {g : List En} (hg : SortedE g) (u : U) : SortedE (restF g u) ∧ (∀ x, x ≠ u → rstepF (restF g u) x = rstepF g x) ∧ rstepF (restF g u) u = [] := by
  unfold restF
  by_cases hb : GT.atB g u.f0 u.f1 = true
  · rw [if_pos hb]
    obtain ⟨e, he, rfl⟩ := atB_some hb
    have hem := List.mem_of_getElem? he
    rw [he]
    obtain ⟨h1, h2, _⟩ := put_spec g ((sortedE_iff g).1 hg) ⟨e.f0, [], e.f2⟩
    have hs := (sortedE_iff _).2 h1
    refine ⟨hs, fun x hx => ?_, rstep_mem hs ((h2 ⟨e.f0, [], e.f2⟩).2 (.inl rfl))⟩
    by_cases hex : ∃ y ∈ g, y.f0 = x
    · obtain ⟨y, hy, rfl⟩ := hex
      rw [rstep_mem hg hy]
      exact rstep_mem hs ((h2 y).2 (.inr ⟨hy, fun hk => hx (ku_inj hk)⟩))
    · rw [rstep_none (fun y hy hyx => hex ⟨y, hy, hyx⟩)]
      refine rstep_none (fun y hy hyx => ?_)
      rcases (h2 y).1 hy with rfl | ⟨hy, _⟩
      · exact hx hyx.symm
      · exact hex ⟨y, hy, hyx⟩
  · rw [if_neg hb]
    exact ⟨hg, fun x _ => rfl, rstep_none (fun e he hu => hb ((atB_some' hg).2 ⟨e, he, hu⟩))⟩
theorem circle_iff {g : List En} (hg : SortedE g) (u : U) (ps : List U) : circleF g u ps = true ↔ ∃ p ∈ ps, Up (rstepF (restF g u)) p u := by
  unfold circleF
  rw [decide_eq_true_eq, climbF_mem, step_eq (rest_sorted hg u).1]
theorem circle_f {g : List En} (h : okL g = true) {u : U} (hu : okU u = true) {ps : List U} (hp : ∀ p ∈ ps, okU p = true) (hl : ps.length ≤ 1000) : above_Circle.f g u.f0 u.f1 ps = some (circleF g u ps) := by
  unfold above_Circle.f
  rw [if_pos ⟨h, hu, List.all_eq_true.2 hp, hl⟩]
theorem drop_sorted {g : List En} (hg : SortedE g) (u : U) : SortedE (dropF g u) ∧ (∀ x, x ≠ u → rstepF (dropF g u) x = rstepF g x) ∧ rstepF (dropF g u) u = [] := by
  have hs : SortedE (dropF g u) := hg.filter _
  have hm : ∀ y, y ∈ dropF g u ↔ y ∈ g ∧ y.f0 ≠ u := fun y => by simp [dropF]
  refine ⟨hs, fun x hx => ?_, rstep_none (fun e he hu => ((hm e).1 he).2 hu)⟩
  by_cases hex : ∃ y ∈ g, y.f0 = x
  · obtain ⟨y, hy, rfl⟩ := hex
    rw [rstep_mem hg hy]
    exact rstep_mem hs ((hm y).2 ⟨hy, hx⟩)
  · rw [rstep_none (fun y hy hyx => hex ⟨y, hy, hyx⟩)]
    exact rstep_none (fun y hy hyx => hex ⟨y, ((hm y).1 hy).1, hyx⟩)
theorem rest_drop {g : List En} (hg : SortedE g) (u : U) : rstepF (restF g u) = rstepF (dropF g u) := by
  funext x
  by_cases hx : x = u
  · subst hx
    rw [(rest_sorted hg x).2.2, (drop_sorted hg x).2.2]
  · rw [(rest_sorted hg u).2.1 x hx, (drop_sorted hg u).2.1 x hx]
theorem drop_ok {g : List En} (h : okL g = true) (u : U) : okL (dropF g u) = true := by
  simp only [okL, Bool.and_eq_true, decide_eq_true_eq, List.all_eq_true] at h ⊢
  have h1 : (dropF g u).length ≤ g.length := List.length_filter_le _ _
  exact ⟨by omega, fun e he => h.2 e (List.mem_filter.1 he).1⟩
theorem rcircle_l0 {g : List En} (hok : okL g = true) (u : U) (ps : List U) (hl : ps.length ≤ 1000) : ∀ (d i : Nat), i + d = ps.length → (∀ j (h : j < ps.length), j < i → ¬ Up (rstepF g) ps[j] u) → Tot (fun k => chancelref9_Circle.l0 k ps g (i : Int) u.f0 u.f1) (fun r => r = true ↔ ∃ p ∈ ps, Up (rstepF g) p u)
  | 0, i, h, hb => by
    refine Tot.step (fun k => by rw [chancelref9_Circle.l0]) ?_
    refine Tot.neg (by omega) ?_
    refine Tot.now ?_
    constructor
    · intro h; cases h
    · rintro ⟨p, hp, hu⟩
      obtain ⟨j, hj, rfl⟩ := List.getElem_of_mem hp
      exact absurd hu (hb j hj (by omega))
  | d + 1, i, h, hb => by
    have hi : i < ps.length := by omega
    refine Tot.step (fun k => by rw [chancelref9_Circle.l0]) ?_
    refine Tot.pos (by omega) ?_
    refine Tot.pos (by omega) ?_
    rw [rdU_at hi]
    refine Tot.bind (rin_tot hok ps[i] u) (fun b hb2 => ?_)
    refine Tot.ite (fun hbt => ?_) (fun hbf => ?_)
    · exact Tot.now ⟨fun _ => ⟨ps[i], List.getElem_mem hi, hb2.1 hbt⟩, fun _ => rfl⟩
    · rw [wr_succ (by omega)]
      refine rcircle_l0 hok u ps hl d (i + 1) (by omega) (fun j hj hlt => ?_)
      by_cases hji : j = i
      · subst hji; exact fun hu => hbf (hb2.2 hu)
      · exact hb j hj (by omega)
theorem rcircle_tot {g : List En} (hg : AnyG g) (u : U) (ps : List U) (hl : ps.length ≤ 1000) : Tot (fun k => chancelref9_Circle.f k g u.f0 u.f1 ps) (fun r => r = circleF g u ps) := by
  have hok := anyG_ok hg
  unfold chancelref9_Circle.f
  refine Tot.bind (drop_tot g (by have := hg.2.2; omega) u) (fun m hm => ?_)
  subst hm
  refine Tot.mono (rcircle_l0 (drop_ok hok u) u ps hl ps.length 0 (Nat.zero_add _) (fun j _ h => by omega)) (fun r hr => ?_)
  rw [← rest_drop hg.1, ← circle_iff hg.1] at hr
  cases r <;> cases h : circleF g u ps <;> simp_all
theorem aa_j1 {g : List En} (hg : AnyG g) (ps : List U) (hps : ∀ p ∈ ps, okU p = true) (hl : ps.length ≤ 1000) (u v : U) (hu : okU u = true) (hv : okU v = true) : Tot (fun k => chancellaw9_AboveAsks.j1 k g ps u.f0 u.f1 v.f0 v.f1) (fun r => r = true) := by
  have hok := anyG_ok hg
  refine Tot.step (fun k => by rw [chancellaw9_AboveAsks.j1]) ?_
  rw [in_f hok hu hv]
  refine Tot.some_bind ?_
  refine Tot.bind (rin_eq hg u v) (fun b hb => ?_)
  subst hb
  refine Tot.pos (by simp) ?_
  rw [above_f hok hu]
  refine Tot.some_bind ?_
  have ha : chancelref9_Above.f g u.f0 u.f1 = some (refF g u) := by unfold chancelref9_Above.f; rw [if_pos hok]
  rw [ha, ← above_eq hg.1]
  refine Tot.some_bind ?_
  refine Tot.bind (same_tot _ (above_len hg.1 hok u)) (fun b hb => ?_)
  subst hb
  refine Tot.pos rfl ?_
  refine Tot.bind (below_tot hg hu) (fun x hx => ?_)
  subst hx
  refine Tot.bind (rbelow_tot hg hu) (fun x hx => ?_)
  subst hx
  refine Tot.bind (same_tot _ (by have := belowF_len hg u; omega)) (fun b hb => ?_)
  subst hb
  refine Tot.pos rfl ?_
  rw [circle_f hok hu hps hl]
  refine Tot.some_bind ?_
  refine Tot.bind (rcircle_tot hg u ps hl) (fun b hb => ?_)
  subst hb
  exact Tot.now (by simp)
theorem aa_l0 {g : List En} (hg : AnyG g) (u v : U) (hu : okU u = true) (hv : okU v = true) (ns : List Int) : ∀ (d i : Nat) (ps : List U), i + d = 4 → ps.length = i → (∀ p ∈ ps, okU p = true) → Tot (fun k => chancellaw9_AboveAsks.l0 k ns g ps (i : Int) u.f0 u.f1 v.f0 v.f1) (fun r => r = true)
  | 0, i, ps, h, hl, hp => by
    have hend := aa_j1 hg ps hp (by omega) u v hu hv
    refine Tot.step (fun k => by rw [chancellaw9_AboveAsks.l0]) ?_
    refine Tot.ite (fun _ => ?_) (fun _ => hend)
    refine Tot.neg (by omega) ?_
    exact hend
  | d + 1, i, ps, h, hl, hp => by
    have hend := aa_j1 hg ps hp (by omega) u v hu hv
    refine Tot.step (fun k => by rw [chancellaw9_AboveAsks.l0]) ?_
    refine Tot.ite (fun _ => ?_) (fun _ => hend)
    refine Tot.pos (by omega) ?_
    refine Tot.pos (by omega) ?_
    refine Tot.bind (pick_tot hg _) (fun b hb => ?_)
    refine Tot.pos (by omega) ?_
    rw [wr_succ (by omega)]
    refine aa_l0 hg u v hu hv ns d (i + 1) _ (by omega) (by simp [hl]) (fun p hpm => ?_)
    rcases List.mem_append.1 hpm with hpm | hpm
    · exact hp p hpm
    · simp only [List.mem_cons, List.not_mem_nil, or_false] at hpm
      subst hpm
      exact hb
theorem aboveAsks_g (g : List En) (hg : AnyG g) (a1 : Int) (a2 : Int) (l3 : List Int) : ∃ k, chancellaw9_AboveAsks.g k g a1 a2 l3 = some true := by
  refine Tot.done ?_
  unfold chancellaw9_AboveAsks.g
  refine Tot.bind (pick_tot hg a1) (fun b hb => ?_)
  refine Tot.bind (pick_tot hg a2) (fun c hc => ?_)
  exact aa_l0 hg ⟨b.1, b.2⟩ ⟨c.1, c.2⟩ hb hc l3 4 0 [] rfl rfl (by simp)
end Go.Proofs.Ytelibndkkokadaa.GP
