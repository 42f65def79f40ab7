import Derived.Test.YtelibndkkokadaaGB0
import Derived.Test.YtelibndkkokadaaJr
import Derived.Test.YtelibndkkokadaaJb
import Derived.Test.YtelibndkkokadaaJa
import Derived.Test.YtelibndkkokadaaJt
import Derived.Test.YtelibndkkokadaaJp
import Derived.Test.YtelibndkkokadaaJg
import Derived.Test.YtelibndkkokadaaJh
import Derived.Test.YtelibndkkokadaaGB17
import Derived.Test.YtelibndkkokadaaGB15
import Derived.Test.YtelibndkkokadaaGR22
namespace Go.Proofs.Ytelibndkkokadaa.GP
open Go.RowKit Go.Proofs.YtelibndkkokadaaW.PrintWords Go.Proofs.YtelibndkkokadaaW.PrintLast Go.Proofs.Ytelibndkkokadaa.HandV Go.Proofs.YtelibndkkokadaaW.PrintMore
open Go.Proofs.Ytelibndkkokadaa.GB
attribute [local go_sem] max2_int min2_int max_two min_two max_three min_three max_four min_four   -- for this text's walks alone
set_option linter.unusedVariables false
set_option linter.unusedSimpArgs false
-- IMPORT .GG2s
-- IMPORT .O1
-- IMPORT .R1
-- IMPORT .A1
-- IMPORT .A2
-- IMPORT .A5
-- IMPORT .A6
-- IMPORT .A7
-- IMPORT .A8
-- IMPORT .A12
-- IMPORT .P3s
-- IMPORT .GG1s
-- FN chancellaw1_Of
-- FN chancellaw5_id
-- FN chancellaw5_Uid
-- FN chancellaw9_pick
-- FN chancellaw9_within
-- FN above_Above
-- FN above_In
-- FN chancellaw9_AboveMore
set_option linter.unusedSectionVars false
open GA
theorem of_nil : Tot (fun k => chancellaw1_Of.f k []) (fun b => b.size ≤ 1000000) := by
  have h : (chancellaw1_Of.f 200 []).map (fun b => b.size) = some 0 := by decide +kernel
  cases hb : chancellaw1_Of.f 200 [] with
  | none => rw [hb] at h; cases h
  | some b =>
    rw [hb] at h
    have hs : b.size = 0 := Option.some.inj h
    exact ⟨b, Ev.of (chancellaw1_Of.mono []) hb, by omega⟩
theorem within_tot9 (a m : Int) (hm : 0 < m) (hm2 : m ≤ 1000000) : ∃ r, chancellaw9_within.f a m = some r ∧ 0 ≤ r ∧ r < m := by
  unfold chancellaw9_within.f
  have h1 := Int.tmod_lt_of_pos a hm
  have h2 := tmod_gt a m hm
  rw [if_neg (by omega)]
  split
  · exact ⟨_, rfl, by rw [wr_id (by omega) (by omega)]; omega, by rw [wr_id (by omega) (by omega)]; omega⟩
  · exact ⟨_, rfl, by omega, h1⟩
theorem uid5_tot (n : Int) : Tot (fun k => chancellaw5_Uid.f k n []) (fun r => okU ⟨r.1, r.2⟩ = true) := by
  unfold chancellaw5_Uid.f
  refine Tot.some_bind ?_
  obtain ⟨r, hr, h0, h1⟩ := within_tot5 n 5 (by decide) (by decide)
  rw [hr]
  refine Tot.some_bind ?_
  refine Tot.pos h0 ?_
  refine Tot.pos (by simp; omega) ?_
  refine Tot.bind (R := fun b => b.size ≤ 1000000) ?_ (fun b hb => Tot.now (okU_of ?_ hb))
  · unfold chancellaw5_id.f
    refine Tot.neg (by decide) ?_
    exact Tot.bind of_nil (fun b hb => Tot.now hb)
  · have : r = 0 ∨ r = 1 ∨ r = 2 ∨ r = 3 ∨ r = 4 := by omega
    rcases this with rfl | rfl | rfl | rfl | rfl <;> exact Nat.le_of_ble_eq_true rfl
/-- What pick picks: one that is told again each time. -/
theorem pick_tot {g : List En} (hg : AnyG g) (n : Int) : Tot (fun k => chancellaw9_pick.f k g n) (fun r => okU ⟨r.1, r.2⟩ = true) := by
  have hok := anyG_ok hg
  have hlen := hg.2.2
  have h1 : Tot (fun k => chancellaw9_pick.j0 k g n true) (fun r => okU ⟨r.1, r.2⟩ = true) := by
    refine Tot.step (fun k => by rw [chancellaw9_pick.j0]) ?_
    refine Tot.pos rfl ?_
    exact Tot.bind (uid5_tot n) (fun b hb => Tot.now hb)
  unfold chancellaw9_pick.f
  refine Tot.ite (fun _ => h1) (fun hne => ?_)
  cases hq : (Int.tmod n 7) == 6 with
  | true => exact h1
  | false =>
    refine Tot.step (fun k => by rw [chancellaw9_pick.j0]) ?_
    refine Tot.neg (by simp) ?_
    obtain ⟨r, hr, h0, h1⟩ := within_tot9 (wrap64 (Int.tdiv n 7)) (g.length : Int) (by omega) (by omega)
    rw [hr]
    refine Tot.some_bind ?_
    refine Tot.pos h0 ?_
    refine Tot.pos h1 ?_
    obtain ⟨i, rfl⟩ : ∃ i : Nat, r = (i : Int) := ⟨r.toNat, by omega⟩
    have hi : i < g.length := by omega
    rw [rdE_at hi]
    obtain ⟨q1, q2, _, q4⟩ := okL_mem hok (List.getElem_mem hi)
    have hp : Tot (fun _ => some (g[i].f0.f0, g[i].f0.f1)) (fun r : ByteArray × ByteArray => okU ⟨r.1, r.2⟩ = true) := Tot.now q1
    refine Tot.ite (fun _ => ?_) (fun _ => hp)
    refine Tot.ite (fun hpos => ?_) (fun _ => hp)
    obtain ⟨r2, hr2, h2, h3⟩ := within_tot9 (wrap64 (Int.tdiv n 21)) (g[i].f1.length : Int) (by omega) (by omega)
    rw [hr2]
    refine Tot.some_bind ?_
    refine Tot.pos h2 ?_
    refine Tot.pos h3 ?_
    obtain ⟨j, rfl⟩ : ∃ j : Nat, r2 = (j : Int) := ⟨r2.toNat, by omega⟩
    have hj : j < g[i].f1.length := by omega
    rw [rdU_at hj]
    exact Tot.now (q2 _ (List.getElem_mem hj))
theorem sorted_uniq {g : List En} (h : SortedE g) {a b : En} (ha : a ∈ g) (hb : b ∈ g) (he : a.f0 = b.f0) : a = b := by
  obtain ⟨i, hi, rfl⟩ := List.getElem_of_mem ha
  obtain ⟨j, hj, rfl⟩ := List.getElem_of_mem hb
  rcases Nat.lt_trichotomy i j with h1 | h1 | h1
  · have := List.pairwise_iff_getElem.1 h i j hi hj h1
    rw [he, ltU_irr] at this; cases this
  · subst h1; rfl
  · have := List.pairwise_iff_getElem.1 h j i hj hi h1
    rw [he, ltU_irr] at this; cases this
theorem rstep_mem {g : List En} (h : SortedE g) {e : En} (he : e ∈ g) : rstepF g e.f0 = e.f1 := by
  unfold rstepF
  cases hf : g.find? (fun x => decide (x.f0 = e.f0)) with
  | none =>
    have := List.find?_eq_none.1 hf e he
    simp at this
  | some x =>
    have h1 : x.f0 = e.f0 := by simpa using List.find?_some hf
    rw [sorted_uniq h (List.mem_of_find?_eq_some hf) he h1]
theorem rstep_none {g : List En} {u : U} (h : ∀ e ∈ g, e.f0 ≠ u) : rstepF g u = [] := by
  unfold rstepF
  rw [List.find?_eq_none.2 (fun x hx => by simpa using h x hx)]
theorem atB_some' {g : List En} (h : SortedE g) {u : U} : GT.atB g u.f0 u.f1 = true ↔ ∃ e ∈ g, e.f0 = u := by
  rw [atB_iff g ((sortedE_iff g).1 h)]
  constructor
  · rintro ⟨y, hy, hk⟩
    exact ⟨y, hy, ku_inj hk⟩
  · rintro ⟨y, hy, rfl⟩
    exact ⟨y, hy, rfl⟩
theorem step_eq {g : List En} (h : SortedE g) : stepF g = rstepF g := by
  funext u
  by_cases hb : GT.atB g u.f0 u.f1 = true
  · obtain ⟨e, he, rfl⟩ := atB_some hb
    rw [rstep_mem h (List.mem_of_getElem? he)]
    unfold stepF
    rw [if_pos hb, he]
  · rw [rstep_none (fun e he hu => hb ((atB_some' h).2 ⟨e, he, hu⟩))]
    unfold stepF
    rw [if_neg hb]
theorem in_iff {g : List En} (u a : U) : inF g u a = true ↔ Up (stepF g) u a := by
  unfold inF
  rw [decide_eq_true_eq, climbF_mem]
  simp
theorem above_iff {g : List En} (u a : U) : a ∈ aboveF g u ↔ ∃ p ∈ stepF g u, Up (stepF g) p a := by
  show a ∈ sortU _ ↔ _
  rw [(sortU_perm _).mem_iff, climbF_mem]
theorem above_eq {g : List En} (h : SortedE g) (u : U) : aboveF g u = refF g u := by
  unfold aboveF refF climbF refC most
  rw [step_eq h]
theorem ref_strict (g : List En) (u : U) : Strict (refF g u) := sortU_strict (climbR_nodup _ _ _ _ (by simp))
theorem ref_iff {g : List En} (u a : U) : a ∈ refF g u ↔ ∃ p ∈ rstepF g u, Up (rstepF g) p a := by
  show a ∈ sortU _ ↔ _
  rw [(sortU_perm _).mem_iff, refC_mem]
theorem ref_len {g : List En} (h : okL g = true) (u : U) : (refF g u).length ≤ 4000000 := by
  have h1 := sub_len (refF g u) (univ g) (strict_nodup (ref_strict g u)) (fun y hy => by
    obtain ⟨p, hp, hu⟩ := (ref_iff u y).1 hy
    exact up_univ hu (rstepF_univ g u p hp))
  have := univ_len h
  omega
theorem above_f {g : List En} (h : okL g = true) {u : U} (hu : okU u = true) : above_Above.f g u.f0 u.f1 = some (aboveF g u) := by unfold above_Above.f; rw [if_pos ⟨h, hu⟩]
theorem in_f {g : List En} (h : okL g = true) {u a : U} (hu : okU u = true) (ha : okU a = true) : above_In.f g u.f0 u.f1 a.f0 a.f1 = some (inF g u a) := by unfold above_In.f; rw [if_pos ⟨h, hu, ha⟩]
theorem Tot.done {g : Nat → Option Bool} (h : Tot g (fun r => r = true)) : ∃ k, g k = some true := by
  obtain ⟨r, he, rfl⟩ := h
  exact he.rounds
theorem up_ok {g : List En} (hg : okL g = true) {a b : U} (h : Up (stepF g) a b) (ha : okU a = true) : okU b = true := by
  induction h with
  | refl => exact ha
  | head h1 _ ih => exact ih (stepF_ok hg _ _ h1)
theorem step_mem {g : List En} (hg : SortedE g) {e : En} (he : e ∈ g) : stepF g e.f0 = e.f1 := by rw [step_eq hg]; exact rstep_mem hg he
theorem above_ok {g : List En} (hg : okL g = true) (u : U) : ∀ a ∈ aboveF g u, okU a = true := by
  intro a ha
  obtain ⟨p, hp, h⟩ := (above_iff u a).1 ha
  exact up_ok hg h (stepF_ok hg u p hp)
theorem above_len {g : List En} (hg : SortedE g) (hok : okL g = true) (u : U) : (aboveF g u).length ≤ 4000000 := by rw [above_eq hg]; exact ref_len hok u
theorem up_mono {α : Type} {s1 s2 : α → List α} (h : ∀ a, ∀ b ∈ s1 a, b ∈ s2 a) {a b : α} (hu : Up s1 a b) : Up s2 a b := by
  induction hu with
  | refl => exact .refl _
  | head h1 _ ih => exact .head (h _ _ h1) ih
theorem okL_now {g now : List En} (hg : AnyG g) (x : En) (hx : okE x = true) (hm : ∀ y, y ∈ now ↔ y = x ∨ (y ∈ g ∧ y.f0 ≠ x.f0)) (hl : now.length ≤ g.length + 1) : okL now = true := by
  have hlen := hg.2.2
  have hok := anyG_ok hg
  simp only [okL, Bool.and_eq_true, decide_eq_true_eq, List.all_eq_true] at hok ⊢
  refine ⟨by omega, fun e he => ?_⟩
  rcases (hm e).1 he with rfl | ⟨he, _⟩
  · exact hx
  · exact hok.2 e he
theorem step_now {g now : List En} (hg : SortedE g) (hn : SortedE now) (x : En) (hm : ∀ y, y ∈ now ↔ y = x ∨ (y ∈ g ∧ y.f0 ≠ x.f0)) : stepF now x.f0 = x.f1 ∧ ∀ u, u ≠ x.f0 → stepF now u = stepF g u := by
  refine ⟨step_mem hn ((hm x).2 (.inl rfl)), fun u hu => ?_⟩
  rw [step_eq hn, step_eq hg]
  by_cases hex : ∃ y ∈ g, y.f0 = u
  · obtain ⟨y, hy, rfl⟩ := hex
    rw [rstep_mem hg hy]
    exact rstep_mem hn ((hm y).2 (.inr ⟨hy, hu⟩))
  · rw [rstep_none (fun y hy hyx => hex ⟨y, hy, hyx⟩)]
    refine rstep_none (fun y hy hyx => ?_)
    rcases (hm y).1 hy with rfl | ⟨hy, _⟩
    · exact hu hyx.symm
    · exact hex ⟨y, hy, hyx⟩
section
variable {g now : List En} (hg : AnyG g) (x : En) (hx : x ∈ g) (p : U) (hp : okU p = true) (n : Int) (hpk : Tot (fun k => chancellaw9_pick.f k g n) (fun r => r = (p.f0, p.f1))) (hs : SortedE now) (hm : ∀ y, y ∈ now ↔ y = ⟨x.f0, x.f1 ++ [p], x.f2⟩ ∨ (y ∈ g ∧ y.f0 ≠ x.f0)) (hok : okL now = true)
include hg hx hp hpk hs hm hok
theorem am_mono {a b : U} (h : Up (stepF g) a b) : Up (stepF now) a b := by
  refine up_mono (fun a b hb => ?_) h
  obtain ⟨hst, hso⟩ := step_now hg.1 hs ⟨x.f0, x.f1 ++ [p], x.f2⟩ hm
  by_cases ha : a = x.f0
  · subst ha
    rw [hst]
    rw [step_mem hg.1 hx] at hb
    exact List.mem_append_left _ hb
  · rw [hso a ha]; exact hb
include hg hx hp hpk hs hm hok
theorem am_l1 (i : Nat) (hi : i < g.length) (K : Tot (fun k => chancellaw9_AboveMore.l0 k n g now ((i + 1 : Nat) : Int) x.f0.f0 x.f0.f1 (x.f1 ++ [p]) x.f2) (fun r => r = true)) : ∀ (d j : Nat), j + d = (aboveF g g[i].f0).length → Tot (fun k => chancellaw9_AboveMore.l1 k n g now (i : Int) (aboveF g g[i].f0) (j : Int) x.f0.f0 x.f0.f1 (x.f1 ++ [p]) x.f2) (fun r => r = true)
  | 0, j, h => by
    have hlen := hg.2.2
    refine Tot.step (fun k => by rw [chancellaw9_AboveMore.l1]) ?_
    refine Tot.neg (by omega) ?_
    rw [wr_succ (by omega)]
    exact K
  | d + 1, j, h => by
    have hokg := anyG_ok hg
    have hf := okL_mem hokg (List.getElem_mem hi)
    have hj : j < (aboveF g g[i].f0).length := by omega
    have hal := above_len hg.1 hokg g[i].f0
    obtain ⟨q, hq, hup⟩ := (above_iff _ _).1 (List.getElem_mem hj)
    have hao := above_ok hokg g[i].f0 _ (List.getElem_mem hj)
    refine Tot.step (fun k => by rw [chancellaw9_AboveMore.l1]) ?_
    refine Tot.pos (by omega) ?_
    refine Tot.pos (by omega) ?_
    refine Tot.pos (by omega) ?_
    refine Tot.pos (by omega) ?_
    rw [rdE_at hi, rdU_at hj, in_f hok hf.1 hao, (in_iff g[i].f0 _).2 (am_mono hg x hx p hp n hpk hs hm hok (.head hq hup))]
    refine Tot.some_bind ?_
    refine Tot.pos rfl ?_
    rw [wr_succ (by omega)]
    exact am_l1 i hi K d (j + 1) (by omega)
include hg hx hp hpk hs hm hok
theorem am_l0 : ∀ (d i : Nat), i + d = g.length → Tot (fun k => chancellaw9_AboveMore.l0 k n g now (i : Int) x.f0.f0 x.f0.f1 (x.f1 ++ [p]) x.f2) (fun r => r = true)
  | 0, i, h => by
    have hokg := anyG_ok hg
    refine Tot.step (fun k => by rw [chancellaw9_AboveMore.l0]) ?_
    refine Tot.neg (by omega) ?_
    refine Tot.bind hpk (fun r hr => ?_)
    subst hr
    have hin : inF now x.f0 p = true := (in_iff x.f0 p).2 (.head (by rw [(step_now hg.1 hs ⟨x.f0, x.f1 ++ [p], x.f2⟩ hm).1]; simp) (.refl _))
    rw [in_f hok (okL_mem hokg hx).1 hp, hin]
    refine Tot.some_bind ?_
    exact Tot.now rfl
  | d + 1, i, h => by
    have hi : i < g.length := by omega
    have hokg := anyG_ok hg
    refine Tot.step (fun k => by rw [chancellaw9_AboveMore.l0]) ?_
    refine Tot.pos (by omega) ?_
    refine Tot.pos (by omega) ?_
    rw [rdE_at hi, above_f hokg (okL_mem hokg (List.getElem_mem hi)).1]
    refine Tot.some_bind ?_
    exact am_l1 hg x hx p hp n hpk hs hm hok i hi (am_l0 d (i + 1) (by omega)) (aboveF g g[i].f0).length 0 (Nat.zero_add _)
end
theorem aboveMore_g (g : List En) (hg : AnyG g) (a1 : Int) (a2 : Int) : ∃ k, chancellaw9_AboveMore.g k g a1 a2 = some true := by
  refine Tot.done ?_
  unfold chancellaw9_AboveMore.g
  refine Tot.ite (fun _ => Tot.now rfl) (fun hne => ?_)
  have hlen := hg.2.2
  obtain ⟨r, hr, h0, h1⟩ := within_tot9 a1 (g.length : Int) (by omega) (by omega)
  rw [hr]
  refine Tot.some_bind ?_
  refine Tot.pos h0 ?_
  refine Tot.pos h1 ?_
  obtain ⟨i, rfl⟩ : ∃ i : Nat, r = (i : Int) := ⟨r.toNat, by omega⟩
  have hi : i < g.length := by omega
  have hf := hg.2.1 _ (List.getElem_mem hi)
  have hf3 := hf.1.1
  rw [rdE_at hi]
  refine Tot.some_bind ?_
  refine Tot.pos (by simp; omega) ?_
  refine Tot.some_bind ?_
  rw [List.nil_append]
  obtain ⟨⟨p0, p1⟩, hev, hpo⟩ := pick_tot hg a2
  have hpk : Tot (fun k => chancellaw9_pick.f k g a2) (fun r => r = (p0, p1)) := ⟨(p0, p1), hev, rfl⟩
  refine Tot.bind hpk (fun b hb => ?_)
  subst hb
  refine Tot.pos (by omega) ?_
  refine Tot.some_bind ?_
  refine Tot.bind (put_tot8 g hg.1 (by omega) ⟨g[i].f0, g[i].f1 ++ [⟨p0, p1⟩], g[i].f2⟩) (fun now hn => ?_)
  obtain ⟨hs, hm, hln⟩ := hn
  have hx : okE ⟨g[i].f0, g[i].f1 ++ [⟨p0, p1⟩], g[i].f2⟩ = true := by
    have h3 := okL_mem (anyG_ok hg) (List.getElem_mem hi)
    have h4 := h3.2.2.1
    simp only [okE, GT.smE, Bool.and_eq_true, decide_eq_true_eq, List.all_eq_true] at h4 ⊢
    refine ⟨h3.1, fun q hq => ?_, ⟨by simp; omega, h4.2⟩, by simp; omega⟩
    rcases List.mem_append.1 hq with hq | hq
    · exact h3.2.1 q hq
    · simp only [List.mem_cons, List.not_mem_nil, or_false] at hq
      subst hq; exact hpo
  exact am_l0 hg g[i] (List.getElem_mem hi) ⟨p0, p1⟩ hpo a2 hpk hs hm (okL_now hg _ hx hm hln) g.length 0 (Nat.zero_add _)
end Go.Proofs.Ytelibndkkokadaa.GP
