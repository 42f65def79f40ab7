import Derived.Test.YtelibndkkokadaaGB0
import Derived.Test.YtelibndkkokadaaJr
import Derived.Test.YtelibndkkokadaaJb
import Derived.Test.YtelibndkkokadaaJa
import Derived.Test.YtelibndkkokadaaJt
import Derived.Test.YtelibndkkokadaaJp
import Derived.Test.YtelibndkkokadaaJg
import Derived.Test.YtelibndkkokadaaJh
import Derived.Test.YtelibndkkokadaaGB17
import Derived.Test.YtelibndkkokadaaJi
import Derived.Test.YtelibndkkokadaaGR24
namespace Go.Proofs.Ytelibndkkokadaa.GP
open Go.RowKit Go.Proofs.YtelibndkkokadaaW.PrintWords Go.Proofs.YtelibndkkokadaaW.PrintLast Go.Proofs.Ytelibndkkokadaa.HandV Go.Proofs.YtelibndkkokadaaW.PrintMore
open Go.Proofs.Ytelibndkkokadaa.GB
attribute [local go_sem] max2_int min2_int max_two min_two max_three min_three max_four min_four   -- for this text's walks alone
set_option linter.unusedVariables false
set_option linter.unusedSimpArgs false
-- IMPORT .GG2s
-- IMPORT .O1
-- IMPORT .R1
-- IMPORT .A1
-- IMPORT .A2
-- IMPORT .A6
-- IMPORT .A7
-- IMPORT .A8
-- IMPORT .A9
-- IMPORT .A12
-- IMPORT .P3s
-- IMPORT .GG1s
-- FN chancellaw1_Of
-- FN chancellaw5_id
-- FN chancellaw5_Uid
-- FN chancellaw9_pick
-- FN chancellaw9_within
-- FN above_Above
-- FN above_Circle
-- FN chancellaw9_AboveCircles
open GA
theorem of_nil : Tot (fun k => chancellaw1_Of.f k []) (fun b => b.size ≤ 1000000) := by
  have h : (chancellaw1_Of.f 200 []).map (fun b => b.size) = some 0 := by decide +kernel
  cases hb : chancellaw1_Of.f 200 [] with
  | none => rw [hb] at h; cases h
  | some b =>
    rw [hb] at h
    have hs : b.size = 0 := Option.some.inj h
    exact ⟨b, Ev.of (chancellaw1_Of.mono []) hb, by omega⟩
theorem within_tot9 (a m : Int) (hm : 0 < m) (hm2 : m ≤ 1000000) : ∃ r, chancellaw9_within.f a m = some r ∧ 0 ≤ r ∧ r < m := by
  unfold chancellaw9_within.f
  have h1 := Int.tmod_lt_of_pos a hm
  have h2 := tmod_gt a m hm
  rw [if_neg (by omega)]
  split
  · exact ⟨_, rfl, by rw [wr_id (by omega) (by omega)]; omega, by rw [wr_id (by omega) (by omega)]; omega⟩
  · exact ⟨_, rfl, by omega, h1⟩
theorem uid5_tot (n : Int) : Tot (fun k => chancellaw5_Uid.f k n []) (fun r => okU ⟨r.1, r.2⟩ = true) := by
  unfold chancellaw5_Uid.f
  refine Tot.some_bind ?_
  obtain ⟨r, hr, h0, h1⟩ := within_tot5 n 5 (by decide) (by decide)
  rw [hr]
  refine Tot.some_bind ?_
  refine Tot.pos h0 ?_
  refine Tot.pos (by simp; omega) ?_
  refine Tot.bind (R := fun b => b.size ≤ 1000000) ?_ (fun b hb => Tot.now (okU_of ?_ hb))
  · unfold chancellaw5_id.f
    refine Tot.neg (by decide) ?_
    exact Tot.bind of_nil (fun b hb => Tot.now hb)
  · have : r = 0 ∨ r = 1 ∨ r = 2 ∨ r = 3 ∨ r = 4 := by omega
    rcases this with rfl | rfl | rfl | rfl | rfl <;> exact Nat.le_of_ble_eq_true rfl
/-- What pick picks: one that is told again each time. -/
theorem pick_tot {g : List En} (hg : AnyG g) (n : Int) : Tot (fun k => chancellaw9_pick.f k g n) (fun r => okU ⟨r.1, r.2⟩ = true) := by
  have hok := anyG_ok hg
  have hlen := hg.2.2
  have h1 : Tot (fun k => chancellaw9_pick.j0 k g n true) (fun r => okU ⟨r.1, r.2⟩ = true) := by
    refine Tot.step (fun k => by rw [chancellaw9_pick.j0]) ?_
    refine Tot.pos rfl ?_
    exact Tot.bind (uid5_tot n) (fun b hb => Tot.now hb)
  unfold chancellaw9_pick.f
  refine Tot.ite (fun _ => h1) (fun hne => ?_)
  cases hq : (Int.tmod n 7) == 6 with
  | true => exact h1
  | false =>
    refine Tot.step (fun k => by rw [chancellaw9_pick.j0]) ?_
    refine Tot.neg (by simp) ?_
    obtain ⟨r, hr, h0, h1⟩ := within_tot9 (wrap64 (Int.tdiv n 7)) (g.length : Int) (by omega) (by omega)
    rw [hr]
    refine Tot.some_bind ?_
    refine Tot.pos h0 ?_
    refine Tot.pos h1 ?_
    obtain ⟨i, rfl⟩ : ∃ i : Nat, r = (i : Int) := ⟨r.toNat, by omega⟩
    have hi : i < g.length := by omega
    rw [rdE_at hi]
    obtain ⟨q1, q2, _, q4⟩ := okL_mem hok (List.getElem_mem hi)
    have hp : Tot (fun _ => some (g[i].f0.f0, g[i].f0.f1)) (fun r : ByteArray × ByteArray => okU ⟨r.1, r.2⟩ = true) := Tot.now q1
    refine Tot.ite (fun _ => ?_) (fun _ => hp)
    refine Tot.ite (fun hpos => ?_) (fun _ => hp)
    obtain ⟨r2, hr2, h2, h3⟩ := within_tot9 (wrap64 (Int.tdiv n 21)) (g[i].f1.length : Int) (by omega) (by omega)
    rw [hr2]
    refine Tot.some_bind ?_
    refine Tot.pos h2 ?_
    refine Tot.pos h3 ?_
    obtain ⟨j, rfl⟩ : ∃ j : Nat, r2 = (j : Int) := ⟨r2.toNat, by omega⟩
    have hj : j < g[i].f1.length := by omega
    rw [rdU_at hj]
    exact Tot.now (q2 _ (List.getElem_mem hj))
theorem sorted_uniq {g : List En} (h : SortedE g) {a b : En} (ha : a ∈ g) (hb : b ∈ g) (he : a.f0 = b.f0) : a = b := by
  obtain ⟨i, hi, rfl⟩ := List.getElem_of_mem ha
  obtain ⟨j, hj, rfl⟩ := List.getElem_of_mem hb
  rcases Nat.lt_trichotomy i j with h1 | h1 | h1
  · have := List.pairwise_iff_getElem.1 h i j hi hj h1
    rw [he, ltU_irr] at this; cases this
  · subst h1; rfl
  · have := List.pairwise_iff_getElem.1 h j i hj hi h1
    rw [he, ltU_irr] at this; cases this
theorem rstep_mem {g : List En} (h : SortedE g) {e : En} (he : e ∈ g) : rstepF g e.f0 = e.f1 := by
  unfold rstepF
  cases hf : g.find? (fun x => decide (x.f0 = e.f0)) with
  | none =>
    have := List.find?_eq_none.1 hf e he
    simp at this
  | some x =>
    have h1 : x.f0 = e.f0 := by simpa using List.find?_some hf
    rw [sorted_uniq h (List.mem_of_find?_eq_some hf) he h1]
theorem rstep_none {g : List En} {u : U} (h : ∀ e ∈ g, e.f0 ≠ u) : rstepF g u = [] := by
  unfold rstepF
  rw [List.find?_eq_none.2 (fun x hx => by simpa using h x hx)]
theorem atB_some' {g : List En} (h : SortedE g) {u : U} : GT.atB g u.f0 u.f1 = true ↔ ∃ e ∈ g, e.f0 = u := by
  rw [atB_iff g ((sortedE_iff g).1 h)]
  constructor
  · rintro ⟨y, hy, hk⟩
    exact ⟨y, hy, ku_inj hk⟩
  · rintro ⟨y, hy, rfl⟩
    exact ⟨y, hy, rfl⟩
theorem step_eq {g : List En} (h : SortedE g) : stepF g = rstepF g := by
  funext u
  by_cases hb : GT.atB g u.f0 u.f1 = true
  · obtain ⟨e, he, rfl⟩ := atB_some hb
    rw [rstep_mem h (List.mem_of_getElem? he)]
    unfold stepF
    rw [if_pos hb, he]
  · rw [rstep_none (fun e he hu => hb ((atB_some' h).2 ⟨e, he, hu⟩))]
    unfold stepF
    rw [if_neg hb]
theorem above_iff {g : List En} (u a : U) : a ∈ aboveF g u ↔ ∃ p ∈ stepF g u, Up (stepF g) p a := by
  show a ∈ sortU _ ↔ _
  rw [(sortU_perm _).mem_iff, climbF_mem]
theorem above_eq {g : List En} (h : SortedE g) (u : U) : aboveF g u = refF g u := by
  unfold aboveF refF climbF refC most
  rw [step_eq h]
theorem ref_strict (g : List En) (u : U) : Strict (refF g u) := sortU_strict (climbR_nodup _ _ _ _ (by simp))
theorem ref_iff {g : List En} (u a : U) : a ∈ refF g u ↔ ∃ p ∈ rstepF g u, Up (rstepF g) p a := by
  show a ∈ sortU _ ↔ _
  rw [(sortU_perm _).mem_iff, refC_mem]
theorem ref_len {g : List En} (h : okL g = true) (u : U) : (refF g u).length ≤ 4000000 := by
  have h1 := sub_len (refF g u) (univ g) (strict_nodup (ref_strict g u)) (fun y hy => by
    obtain ⟨p, hp, hu⟩ := (ref_iff u y).1 hy
    exact up_univ hu (rstepF_univ g u p hp))
  have := univ_len h
  omega
theorem above_f {g : List En} (h : okL g = true) {u : U} (hu : okU u = true) : above_Above.f g u.f0 u.f1 = some (aboveF g u) := by unfold above_Above.f; rw [if_pos ⟨h, hu⟩]
theorem Tot.done {g : Nat → Option Bool} (h : Tot g (fun r => r = true)) : ∃ k, g k = some true := by
  obtain ⟨r, he, rfl⟩ := h
  exact he.rounds
theorem step_mem {g : List En} (hg : SortedE g) {e : En} (he : e ∈ g) : stepF g e.f0 = e.f1 := by rw [step_eq hg]; exact rstep_mem hg he
theorem above_len {g : List En} (hg : SortedE g) (hok : okL g = true) (u : U) : (aboveF g u).length ≤ 4000000 := by rw [above_eq hg]; exact ref_len hok u
/-- A way to u that does not need what u has above it. -/
theorem up_cut {α : Type} {s1 s2 : α → List α} {u : α} (h : ∀ a, a ≠ u → ∀ b ∈ s1 a, b ∈ s2 a) {a : α} (hu : Up s1 a u) : Up s2 a u := by
  induction hu with
  | refl => exact .refl _
  | @head a b c h1 _ ih =>
    by_cases hau : a = c
    · subst hau; exact .refl _
    · exact .head (h a hau b h1) (ih h)
theorem rest_sorted {g : List En} (hg : SortedE g) (u : U) : SortedE (restF g u) ∧ (∀ x, x ≠ u → rstepF (restF g u) x = rstepF g x) ∧ rstepF (restF g u) u = [] := by
  unfold restF
  by_cases hb : GT.atB g u.f0 u.f1 = true
  · rw [if_pos hb]
    obtain ⟨e, he, rfl⟩ := atB_some hb
    have hem := List.mem_of_getElem? he
    rw [he]
    obtain ⟨h1, h2, _⟩ := put_spec g ((sortedE_iff g).1 hg) ⟨e.f0, [], e.f2⟩
    have hs := (sortedE_iff _).2 h1
    refine ⟨hs, fun x hx => ?_, rstep_mem hs ((h2 ⟨e.f0, [], e.f2⟩).2 (.inl rfl))⟩
    by_cases hex : ∃ y ∈ g, y.f0 = x
    · obtain ⟨y, hy, rfl⟩ := hex
      rw [rstep_mem hg hy]
      exact rstep_mem hs ((h2 y).2 (.inr ⟨hy, fun hk => hx (ku_inj hk)⟩))
    · rw [rstep_none (fun y hy hyx => hex ⟨y, hy, hyx⟩)]
      refine rstep_none (fun y hy hyx => ?_)
      rcases (h2 y).1 hy with rfl | ⟨hy, _⟩
      · exact hx hyx.symm
      · exact hex ⟨y, hy, hyx⟩
  · rw [if_neg hb]
    exact ⟨hg, fun x _ => rfl, rstep_none (fun e he hu => hb ((atB_some' hg).2 ⟨e, he, hu⟩))⟩
theorem circle_iff {g : List En} (hg : SortedE g) (u : U) (ps : List U) : circleF g u ps = true ↔ ∃ p ∈ ps, Up (rstepF (restF g u)) p u := by
  unfold circleF
  rw [decide_eq_true_eq, climbF_mem, step_eq (rest_sorted hg u).1]
theorem circle_f {g : List En} (h : okL g = true) {u : U} (hu : okU u = true) {ps : List U} (hp : ∀ p ∈ ps, okU p = true) (hl : ps.length ≤ 1000) : above_Circle.f g u.f0 u.f1 ps = some (circleF g u ps) := by
  unfold above_Circle.f
  rw [if_pos ⟨h, hu, List.all_eq_true.2 hp, hl⟩]
theorem okL_now {g now : List En} (hg : AnyG g) (x : En) (hx : okE x = true) (hm : ∀ y, y ∈ now ↔ y = x ∨ (y ∈ g ∧ y.f0 ≠ x.f0)) (hl : now.length ≤ g.length + 1) : okL now = true := by
  have hlen := hg.2.2
  have hok := anyG_ok hg
  simp only [okL, Bool.and_eq_true, decide_eq_true_eq, List.all_eq_true] at hok ⊢
  refine ⟨by omega, fun e he => ?_⟩
  rcases (hm e).1 he with rfl | ⟨he, _⟩
  · exact hx
  · exact hok.2 e he
theorem step_now {g now : List En} (hg : SortedE g) (hn : SortedE now) (x : En) (hm : ∀ y, y ∈ now ↔ y = x ∨ (y ∈ g ∧ y.f0 ≠ x.f0)) : stepF now x.f0 = x.f1 ∧ ∀ u, u ≠ x.f0 → stepF now u = stepF g u := by
  refine ⟨step_mem hn ((hm x).2 (.inl rfl)), fun u hu => ?_⟩
  rw [step_eq hn, step_eq hg]
  by_cases hex : ∃ y ∈ g, y.f0 = u
  · obtain ⟨y, hy, rfl⟩ := hex
    rw [rstep_mem hg hy]
    exact rstep_mem hn ((hm y).2 (.inr ⟨hy, hu⟩))
  · rw [rstep_none (fun y hy hyx => hex ⟨y, hy, hyx⟩)]
    refine rstep_none (fun y hy hyx => ?_)
    rcases (hm y).1 hy with rfl | ⟨hy, _⟩
    · exact hu hyx.symm
    · exact hex ⟨y, hy, hyx⟩
theorem ac_l1 {g : List En} (hg : AnyG g) (u : U) (hu : okU u = true) (ps : List U) (hps : ∀ p ∈ ps, okU p = true) (hl : ps.length ≤ 4) (xs : List U) (hxl : xs.length ≤ 4000000) (hxc : u ∈ xs ↔ circleF g u ps = true) : ∀ (d j : Nat) (b : Bool), j + d = xs.length → (b = true ↔ u ∈ xs.take j) → Tot (fun k => chancellaw9_AboveCircles.l1 k g b xs (j : Int) u.f0 u.f1 u.f0 u.f1 ps) (fun r => r = true)
  | 0, j, b, h, hb => by
    rw [List.take_of_length_le (by omega), hxc] at hb
    refine Tot.step (fun k => by rw [chancellaw9_AboveCircles.l1]) ?_
    refine Tot.neg (by omega) ?_
    rw [circle_f (anyG_ok hg) hu hps (by omega)]
    refine Tot.some_bind ?_
    refine Tot.now ?_
    cases b <;> cases h2 : circleF g u ps <;> simp_all
  | d + 1, j, b, h, hb => by
    have hj : j < xs.length := by omega
    have htk : xs.take (j + 1) = xs.take j ++ [xs[j]] := by rw [List.take_append_getElem]
    refine Tot.step (fun k => by rw [chancellaw9_AboveCircles.l1]) ?_
    refine Tot.pos (by omega) ?_
    refine Tot.ite (fun hbt => ?_) (fun hbf => ?_)
    · rw [wr_succ (by omega)]
      exact ac_l1 hg u hu ps hps hl xs hxl hxc d (j + 1) true (by omega) ⟨fun _ => by rw [htk]; exact List.mem_append_left _ (hb.1 hbt), fun _ => rfl⟩
    · refine Tot.pos (by omega) ?_
      rw [wr_succ (by omega), rdU_at hj]
      refine ac_l1 hg u hu ps hps hl xs hxl hxc d (j + 1) _ (by omega) ?_
      rw [eqU_iff, htk, List.mem_append, List.mem_singleton]
      exact ⟨fun e => .inr e.symm, fun e => e.elim (fun h2 => absurd (hb.2 h2) hbf) (fun h2 => h2.symm)⟩
theorem ac_j1 {g : List En} (hg : AnyG g) (u : U) (hu : okU u = true) (ps : List U) (hps : ∀ p ∈ ps, okU p = true) (hl : ps.length ≤ 4) : Tot (fun k => chancellaw9_AboveCircles.j1 k g u.f0 u.f1 u.f0 u.f1 ps) (fun r => r = true) := by
  refine Tot.step (fun k => by rw [chancellaw9_AboveCircles.j1]) ?_
  refine Tot.bind (put_tot8 g hg.1 (by have := hg.2.2; omega) ⟨u, ps, []⟩) (fun now hn => ?_)
  obtain ⟨hs, hm, hln⟩ := hn
  have hx : okE ⟨u, ps, []⟩ = true := by
    simp only [okE, GT.smE, Bool.and_eq_true, decide_eq_true_eq, List.all_eq_true]
    exact ⟨hu, hps, ⟨by show ps.length ≤ 1000000; omega, by simp, by simp⟩, by show ps.length ≤ 1000; omega⟩
  have hok := okL_now hg ⟨u, ps, []⟩ hx hm hln
  obtain ⟨hst, hso⟩ := step_now hg.1 hs ⟨u, ps, []⟩ hm
  rw [above_f hok hu]
  refine Tot.some_bind ?_
  refine ac_l1 hg u hu ps hps hl (aboveF now u) (above_len hs hok u) ?_ (aboveF now u).length 0 false (Nat.zero_add _) (by simp)
  rw [above_iff, circle_iff hg.1, hst]
  constructor
  · rintro ⟨p, hp, h⟩
    refine ⟨p, hp, up_cut (fun a ha b hb => ?_) h⟩
    rw [(rest_sorted hg.1 u).2.1 a ha, ← step_eq hg.1, ← hso a ha]
    exact hb
  · rintro ⟨p, hp, h⟩
    refine ⟨p, hp, up_cut (fun a ha b hb => ?_) h⟩
    rw [hso a ha, step_eq hg.1, ← (rest_sorted hg.1 u).2.1 a ha]
    exact hb
theorem ac_l0 {g : List En} (hg : AnyG g) (u : U) (hu : okU u = true) (ns : List Int) : ∀ (d i : Nat) (ps : List U), i + d = 4 → ps.length = i → (∀ p ∈ ps, okU p = true) → Tot (fun k => chancellaw9_AboveCircles.l0 k ns g (i : Int) u.f0 u.f1 u.f0 u.f1 ps) (fun r => r = true)
  | 0, i, ps, h, hl, hp => by
    have hend := ac_j1 hg u hu ps hp (by omega)
    refine Tot.step (fun k => by rw [chancellaw9_AboveCircles.l0]) ?_
    refine Tot.ite (fun _ => ?_) (fun _ => hend)
    refine Tot.neg (by omega) ?_
    exact hend
  | d + 1, i, ps, h, hl, hp => by
    have hend := ac_j1 hg u hu ps hp (by omega)
    refine Tot.step (fun k => by rw [chancellaw9_AboveCircles.l0]) ?_
    refine Tot.ite (fun _ => ?_) (fun _ => hend)
    refine Tot.pos (by omega) ?_
    refine Tot.pos (by omega) ?_
    refine Tot.bind (pick_tot hg _) (fun b hb => ?_)
    refine Tot.pos (by omega) ?_
    rw [wr_succ (by omega)]
    refine ac_l0 hg u hu ns d (i + 1) _ (by omega) (by simp [hl]) (fun p hpm => ?_)
    rcases List.mem_append.1 hpm with hpm | hpm
    · exact hp p hpm
    · simp only [List.mem_cons, List.not_mem_nil, or_false] at hpm
      subst hpm
      exact hb
theorem aboveCircles_g (g : List En) (hg : AnyG g) (a1 : Int) (l2 : List Int) : ∃ k, chancellaw9_AboveCircles.g k g a1 l2 = some true := by
  refine Tot.done ?_
  unfold chancellaw9_AboveCircles.g
  refine Tot.bind (pick_tot hg a1) (fun b hb => ?_)
  exact ac_l0 hg ⟨b.1, b.2⟩ hb l2 4 0 [] rfl rfl (by simp)
end Go.Proofs.Ytelibndkkokadaa.GP
