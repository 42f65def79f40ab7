import Derived.Test.YtelibndkkokadaaGreatGB0
import Derived.Test.YtelibndkkokadaaGreatT0
import Derived.Test.YtelibndkkokadaaGreatA6
import Derived.Test.YtelibndkkokadaaGreatJz
import Derived.Test.YtelibndkkokadaaGreatGB8
import Derived.Test.YtelibndkkokadaaGreatJp
import Derived.Test.YtelibndkkokadaaGreatO1
namespace Go.Proofs.YtelibndkkokadaaGreat.GP
open Go.RowKit Go.Proofs.YtelibndkkokadaaGreatW.PrintWords Go.Proofs.YtelibndkkokadaaGreatW.PrintLast Go.Proofs.YtelibndkkokadaaGreat.HandV Go.Proofs.YtelibndkkokadaaGreatW.PrintMore
open Go.Proofs.YtelibndkkokadaaGreat.GB
attribute [local go_sem] max2_int min2_int max_two min_two max_three min_three max_four min_four   -- for this text's walks alone
set_option linter.unusedVariables false
set_option linter.unusedSimpArgs false
-- IMPORT .T0
-- IMPORT .A6
-- FN chancelref3_LessUid
-- FN chancelref8_Find
-- FN chancelref9_has
open GA
theorem eqU_iff (x u : U) : (x.f0.toList == u.f0.toList && (x.f1.toList == u.f1.toList)) = true ↔ x = u := by
  simp only [Bool.and_eq_true, beq_iff_eq]
  exact ⟨fun h => ku_inj (by unfold ku; rw [h.1, h.2]), fun h => by rw [h]; exact ⟨rfl, rfl⟩⟩
theorem lessU (x y : U) : chancelref3_LessUid.f x.f0 x.f1 y.f0 y.f1 = some (ltU x y) := by
  cases h : ltU x y with
  | true =>
    have h := (ltU_kl x y).1 h
    unfold chancelref3_LessUid.f
    rcases h with h | ⟨h, h'⟩
    · split
      · rename_i e
        simp only at h
        rw [e, bl_irr] at h
        exact absurd h (by decide)
      · exact congrArg some h
    · rw [if_pos h]
      exact congrArg some h'
  | false =>
    have h : ¬ kl (ku x) (ku y) := fun hk => by rw [(ltU_kl x y).2 hk] at h; cases h
    unfold chancelref3_LessUid.f
    unfold kl at h
    simp only [not_or, not_and] at h
    split
    · rename_i e
      have := h.2 e
      try simp only at this
      cases hq : Op.bytesLess x.f1.toList y.f1.toList with
      | true => exact absurd hq this
      | false => rfl
    · cases hq : Op.bytesLess x.f0.toList y.f0.toList with
      | true => exact absurd hq h.1
      | false => rfl
theorem rdU_at {l : List U} {i : Nat} (h : i < l.length) : rd_T28 l (i : Int) = l[i] := by
  unfold rd_T28
  rw [Int.toNat_natCast, List.getD_eq_getElem?_getD, List.getElem?_eq_getElem h]; rfl
theorem rdE_at {l : List En} {i : Nat} (h : i < l.length) : rd_T32 l (i : Int) = l[i] := by
  unfold rd_T32
  rw [Int.toNat_natCast, List.getD_eq_getElem?_getD, List.getElem?_eq_getElem h]; rfl
/-- The parents of the first one with a uid. -/
def rstepF (l : List En) (u : U) : List U := match l.find? (fun e => decide (e.f0 = u)) with | some e => e.f1 | none => []
theorem has_l0 (l : List U) (hl : l.length ≤ 4000000) (u : U) : ∀ (d i : Nat), i + d = l.length → (∀ j (h : j < l.length), j < i → l[j] ≠ u) → Tot (fun k => chancelref9_has.l0 k l (i : Int) u.f0 u.f1) (fun r => r = decide (u ∈ l))
  | 0, i, h, hb => Tot.step (fun k => by rw [chancelref9_has.l0]) (Tot.neg (by omega) (Tot.now (by
      symm
      rw [decide_eq_false_iff_not]
      intro hm
      obtain ⟨j, hj, he⟩ := List.getElem_of_mem hm
      exact hb j hj (by omega) he)))
  | d + 1, i, h, hb => by
    have hi : i < l.length := by omega
    refine Tot.step (fun k => by rw [chancelref9_has.l0]) (Tot.pos (by omega) (Tot.pos (by omega) (Tot.ite (fun hq => Tot.now ?_) (fun hq => ?_))))
    · rw [rdU_at hi] at hq
      symm
      rw [decide_eq_true_eq]
      exact ((eqU_iff _ _).1 hq) ▸ List.getElem_mem hi
    · rw [rdU_at hi] at hq
      rw [wr_succ (by omega)]
      refine has_l0 l hl u d (i + 1) (by omega) (fun j hj hlt he => ?_)
      by_cases hji : j = i
      · subst hji; exact hq ((eqU_iff _ _).2 he)
      · exact hb j hj (by omega) he
theorem has_tot (l : List U) (hl : l.length ≤ 4000000) (u : U) : Tot (fun k => chancelref9_has.f k l u.f0 u.f1) (fun r => r = decide (u ∈ l)) := has_l0 l hl u l.length 0 (by omega) (fun j _ h => by omega)
abbrev Strict (l : List U) : Prop := l.Pairwise (fun x y => ltU x y = true)
theorem strict_nodup {l : List U} (h : Strict l) : l.Nodup := h.imp (fun {x y} hxy e => by subst e; rw [ltU_irr] at hxy; cases hxy)
def InsAt (l : List U) (u : U) (r : List U) : Prop := ∃ i, i ≤ l.length ∧ (∀ j (h : j < l.length), j < i → ltU l[j] u = true) ∧ (∀ (h : i < l.length), ltU l[i] u = false) ∧ r = l.take i ++ [u] ++ l.drop i
theorem insAt_spec {l : List U} (hs : Strict l) {u : U} (hu : u ∉ l) {r : List U} (h : InsAt l u r) : Strict r ∧ ∀ y, y ∈ r ↔ y = u ∨ y ∈ l := by
  obtain ⟨i, hi, h1, h2, rfl⟩ := h
  have hsp : ∀ y, y ∈ l ↔ y ∈ l.take i ∨ y ∈ l.drop i := fun y => by rw [← List.mem_append, List.take_append_drop]
  have hpre : ∀ y ∈ l.take i, ltU y u = true := by
    intro y hy
    obtain ⟨j, hj, rfl⟩ := List.getElem_of_mem hy
    rw [List.length_take] at hj
    rw [List.getElem_take]
    exact h1 j (by omega) (by omega)
  have hsu : ∀ y ∈ l.drop i, ltU u y = true := by
    intro y hy
    obtain ⟨j, hj, rfl⟩ := List.getElem_of_mem hy
    rw [List.length_drop] at hj
    rw [List.getElem_drop]
    have hii : i < l.length := by omega
    have h3 := h2 hii
    have h4 : ltU u l[i] = true := by
      cases h5 : ltU u l[i]
      · exact absurd ((ltU_tri _ _ h3 h5) ▸ List.getElem_mem hii) hu
      · rfl
    cases j with
    | zero => exact h4
    | succ j =>
      have := List.pairwise_iff_getElem.1 hs i (i + (j + 1)) hii (by omega) (by omega)
      exact ltU_trans h4 this
  have hs2 : Strict (l.take i ++ l.drop i) := by rw [List.take_append_drop]; exact hs
  obtain ⟨p1, p2, p3⟩ := List.pairwise_append.1 hs2
  refine ⟨?_, fun y => by rw [hsp]; simp only [List.mem_append, List.mem_singleton]; rw [or_comm (a := y ∈ l.take i), or_assoc]⟩
  refine List.pairwise_append.2 ⟨List.pairwise_append.2 ⟨p1, by simp, fun a ha b hb => by simp at hb; subst hb; exact hpre a ha⟩, p2, fun a ha b hb => ?_⟩
  rcases List.mem_append.1 ha with ha | ha
  · exact p3 a ha b hb
  · simp at ha; subst ha; exact hsu b hb
theorem find_l0 (l : List En) (hl : l.length ≤ 4000000) (u : U) : ∀ (d i : Nat), i + d = l.length → (∀ j (h : j < l.length), j < i → l[j].f0 ≠ u) → Tot (fun k => chancelref8_Find.l0 k l (i : Int) u.f0 u.f1) (fun r => r.2.2.1 = rstepF l u ∧ (∀ e ∈ l, e.f0 = u → r.2.2.2.2 = true))
  | 0, i, h, hb => Tot.step (fun k => by rw [chancelref8_Find.l0]) (Tot.neg (by omega) (Tot.now (by
      have hn : l.find? (fun e => decide (e.f0 = u)) = none := List.find?_eq_none.2 (fun x hx => by
        obtain ⟨j, hj, he⟩ := List.getElem_of_mem hx
        have := hb j hj (by omega)
        rw [he] at this
        simpa using this)
      refine ⟨by unfold rstepF; rw [hn], fun e he hu => ?_⟩
      obtain ⟨j, hj, hje⟩ := List.getElem_of_mem he
      exact absurd (by rw [hje]; exact hu) (hb j hj (by omega)))))
  | d + 1, i, h, hb => by
    have hi : i < l.length := by omega
    refine Tot.step (fun k => by rw [chancelref8_Find.l0]) (Tot.pos (by omega) (Tot.pos (by omega) (Tot.ite (fun hq => Tot.now ?_) (fun hq => ?_))))
    · rw [rdE_at hi] at hq ⊢
      have he := (eqU_iff _ _).1 hq
      have hf : l.find? (fun e => decide (e.f0 = u)) = some l[i] := List.find?_eq_some_iff_getElem.2 ⟨by simpa using he, i, hi, rfl, fun j hj => by simpa using hb j (by omega) hj⟩
      exact ⟨by unfold rstepF; rw [hf], fun _ _ _ => rfl⟩
    · rw [rdE_at hi] at hq
      rw [wr_succ (by omega)]
      refine find_l0 l hl u d (i + 1) (by omega) (fun j hj hlt he => ?_)
      by_cases hji : j = i
      · subst hji; exact hq ((eqU_iff _ _).2 he)
      · exact hb j hj (by omega) he
theorem find_tot (l : List En) (hl : l.length ≤ 4000000) (u : U) : Tot (fun k => chancelref8_Find.f k l u.f0 u.f1) (fun r => r.2.2.1 = rstepF l u) := Tot.mono (find_l0 l hl u l.length 0 (by omega) (fun j _ h => by omega)) (fun r h => h.1)
end Go.Proofs.YtelibndkkokadaaGreat.GP
namespace Go.Proofs.YtelibndkkokadaaGreat.GP
open Go.RowKit Go.Proofs.YtelibndkkokadaaGreatW.PrintWords Go.Proofs.YtelibndkkokadaaGreatW.PrintLast Go.Proofs.YtelibndkkokadaaGreat.HandV Go.Proofs.YtelibndkkokadaaGreatW.PrintMore
open Go.Proofs.YtelibndkkokadaaGreat.GB
attribute [local go_sem] max2_int min2_int max_two min_two max_three min_three max_four min_four   -- for this text's walks alone
set_option linter.unusedVariables false
set_option linter.unusedSimpArgs false
-- IMPORT .P3s
-- IMPORT .R1
-- IMPORT .O1
-- FN chancelref8_Drop
-- FN chancelref8_Put
open GA
abbrev SortedE (l : List En) : Prop := l.Pairwise (fun x y => ltU x.f0 y.f0 = true)
theorem sortedE_iff (l : List En) : SortedE l ↔ Sorted l := by
  unfold SortedE Sorted
  constructor
  · exact fun h => h.imp (fun {x y} hxy => (ltU_kl _ _).1 hxy)
  · exact fun h => h.imp (fun {x y} hxy => (ltU_kl _ _).2 hxy)
theorem drop_l0 (l : List En) (hl : l.length ≤ 1000000) (u : U) : ∀ (d i : Nat) (acc : List En), i + d = l.length → acc.length ≤ i → Tot (fun k => chancelref8_Drop.l0 k l acc (i : Int) u.f0 u.f1) (fun r => r = acc ++ (l.drop i).filter (fun e => !decide (e.f0 = u)))
  | 0, i, acc, h, ha => Tot.step (fun k => by rw [chancelref8_Drop.l0]) (Tot.neg (by omega) (Tot.now (by
      rw [List.drop_of_length_le (by omega)]; simp)))
  | d + 1, i, acc, h, ha => by
    have hi : i < l.length := by omega
    have hd : l.drop i = l[i] :: l.drop (i + 1) := List.drop_eq_getElem_cons hi
    refine Tot.step (fun k => by rw [chancelref8_Drop.l0]) (Tot.pos (by omega) (Tot.pos (by omega) (Tot.ite (fun hq => ?_) (fun hq => ?_))))
    · rw [rdE_at hi] at hq ⊢
      have hne : l[i].f0 ≠ u := fun e => by
        have := (eqU_iff l[i].f0 u).2 e
        simp only [Bool.and_eq_true] at this
        rw [this.1, this.2] at hq
        cases hq
      refine Tot.pos (by omega) ?_
      rw [wr_succ (by omega)]
      refine Tot.mono (drop_l0 l hl u d (i + 1) _ (by omega) (by simp; omega)) (fun r hr => ?_)
      rw [hr, hd, List.filter_cons, if_pos (by simpa using hne)]
      simp
    · rw [rdE_at hi] at hq
      have he : l[i].f0 = u := (eqU_iff l[i].f0 u).1 (by
        simp only [Bool.or_eq_true, Bool.not_eq_true', not_or, Bool.not_eq_false] at hq
        simp only [Bool.and_eq_true]
        exact hq)
      rw [wr_succ (by omega)]
      refine Tot.mono (drop_l0 l hl u d (i + 1) _ (by omega) (by omega)) (fun r hr => ?_)
      rw [hr, hd, List.filter_cons, if_neg (by simpa using he)]
/-- The entities without one. -/
def dropF (l : List En) (u : U) : List En := l.filter (fun e => !decide (e.f0 = u))
theorem drop_tot (l : List En) (hl : l.length ≤ 1000000) (u : U) : Tot (fun k => chancelref8_Drop.f k l u.f0 u.f1) (fun r => r = dropF l u) :=
  Tot.mono (drop_l0 l hl u l.length 0 [] (by omega) (Nat.le_refl _)) (fun r h => by rw [h]; rfl)
def InsE (l : List En) (x : En) (r : List En) : Prop := ∃ i, i ≤ l.length ∧ (∀ j (h : j < l.length), j < i → ltU l[j].f0 x.f0 = true) ∧ (∀ (h : i < l.length), ltU l[i].f0 x.f0 = false) ∧ r = l.take i ++ [x] ++ l.drop i
theorem putE_l0 (l : List En) (hl : l.length ≤ 1000000) (x : En) : ∀ (d i : Nat), i + d = l.length → (∀ j (h : j < l.length), j < i → ltU l[j].f0 x.f0 = true) → Tot (fun k => chancelref8_Put.l0 k l (i : Int) x.f0.f0 x.f0.f1 x.f1 x.f2) (InsE l x)
  | 0, i, h, hb => by
    refine Tot.step (fun k => by rw [chancelref8_Put.l0]) ?_
    refine Tot.neg (by omega) ?_
    refine Tot.pos (by omega) ?_
    refine Tot.pos (by omega) ?_
    refine Tot.some_bind ?_
    refine Tot.pos (by rw [Int.toNat_natCast]; simp; omega) ?_
    refine Tot.some_bind ?_
    refine Tot.pos (by rw [Int.toNat_natCast]; simp; omega) ?_
    refine Tot.some_bind ?_
    refine Tot.some_bind ?_
    refine Tot.pos (by rw [Int.toNat_natCast]; simp; omega) ?_
    refine Tot.now ?_
    exact ⟨i, by omega, hb, fun hh => by omega, by rw [Int.toNat_natCast]; simp⟩
  | d + 1, i, h, hb => by
    have hi : i < l.length := by omega
    refine Tot.step (fun k => by rw [chancelref8_Put.l0]) ?_
    refine Tot.pos (by omega) ?_
    refine Tot.pos (by omega) ?_
    rw [rdE_at hi, lessU]
    refine Tot.some_bind ?_
    refine Tot.ite (fun hq => ?_) (fun hq => ?_)
    · rw [wr_succ (by omega)]
      refine putE_l0 l hl x d (i + 1) (by omega) (fun j hj hlt => ?_)
      by_cases hji : j = i
      · subst hji; exact hq
      · exact hb j hj (by omega)
    · refine Tot.pos (by omega) ?_
      refine Tot.some_bind ?_
      refine Tot.pos (by rw [Int.toNat_natCast]; simp; omega) ?_
      refine Tot.some_bind ?_
      refine Tot.pos (by rw [Int.toNat_natCast]; simp; omega) ?_
      refine Tot.some_bind ?_
      refine Tot.some_bind ?_
      refine Tot.pos (by rw [Int.toNat_natCast]; simp; omega) ?_
      refine Tot.now ?_
      exact ⟨i, by omega, hb, fun _ => by simpa using hq, by rw [Int.toNat_natCast]; simp⟩
theorem insE_spec {l : List En} (hs : SortedE l) {x : En} (hx : ∀ e ∈ l, e.f0 ≠ x.f0) {r : List En} (h : InsE l x r) : SortedE r ∧ (∀ y, y ∈ r ↔ y = x ∨ y ∈ l) ∧ r.length = l.length + 1 := by
  obtain ⟨i, hi, h1, h2, rfl⟩ := h
  have hsp : ∀ y, y ∈ l ↔ y ∈ l.take i ∨ y ∈ l.drop i := fun y => by rw [← List.mem_append, List.take_append_drop]
  have hpre : ∀ y ∈ l.take i, ltU y.f0 x.f0 = true := by
    intro y hy
    obtain ⟨j, hj, rfl⟩ := List.getElem_of_mem hy
    rw [List.length_take] at hj
    rw [List.getElem_take]
    exact h1 j (by omega) (by omega)
  have hsu : ∀ y ∈ l.drop i, ltU x.f0 y.f0 = true := by
    intro y hy
    obtain ⟨j, hj, rfl⟩ := List.getElem_of_mem hy
    rw [List.length_drop] at hj
    rw [List.getElem_drop]
    have hii : i < l.length := by omega
    have h3 := h2 hii
    have h4 : ltU x.f0 l[i].f0 = true := by
      cases h5 : ltU x.f0 l[i].f0
      · exact absurd (ltU_tri _ _ h3 h5) (hx _ (List.getElem_mem hii))
      · rfl
    cases j with
    | zero => exact h4
    | succ j =>
      have := List.pairwise_iff_getElem.1 hs i (i + (j + 1)) hii (by omega) (by omega)
      exact ltU_trans h4 this
  have hs2 : SortedE (l.take i ++ l.drop i) := by rw [List.take_append_drop]; exact hs
  obtain ⟨p1, p2, p3⟩ := List.pairwise_append.1 hs2
  refine ⟨?_, fun y => by rw [hsp]; simp only [List.mem_append, List.mem_singleton]; rw [or_comm (a := y ∈ l.take i) (b := y = x), or_assoc], by simp; omega⟩
  refine List.pairwise_append.2 ⟨List.pairwise_append.2 ⟨p1, by simp, fun a ha b hb => by simp at hb; subst hb; exact hpre a ha⟩, p2, fun a ha b hb => ?_⟩
  rcases List.mem_append.1 ha with ha | ha
  · exact p3 a ha b hb
  · simp at ha; subst ha; exact hsu b hb
theorem put_tot8 (l : List En) (hs : SortedE l) (hl : l.length ≤ 1000) (x : En) : Tot (fun k => chancelref8_Put.f k l x.f0.f0 x.f0.f1 x.f1 x.f2) (fun r => SortedE r ∧ (∀ y, y ∈ r ↔ y = x ∨ (y ∈ l ∧ y.f0 ≠ x.f0)) ∧ r.length ≤ l.length + 1) := by
  refine Tot.congr (fun k => by rw [chancelref8_Put.f]) (Tot.bind (drop_tot l (by omega) x.f0) (fun m hm => ?_))
  subst hm
  have hlen : (dropF l x.f0).length ≤ l.length := List.length_filter_le _ _
  have hs2 : SortedE (dropF l x.f0) := hs.filter _
  have hm : ∀ y, y ∈ dropF l x.f0 ↔ y ∈ l ∧ y.f0 ≠ x.f0 := fun y => by simp [dropF]
  refine Tot.mono (putE_l0 _ (by omega) x (dropF l x.f0).length 0 (by omega) (fun j _ h => by omega)) (fun r hr => ?_)
  obtain ⟨h1, h2, h3⟩ := insE_spec hs2 (fun e he => ((hm e).1 he).2) hr
  exact ⟨h1, fun y => by rw [h2, hm], by omega⟩
end Go.Proofs.YtelibndkkokadaaGreat.GP
namespace Go.Proofs.YtelibndkkokadaaGreat.GP
open Go.RowKit Go.Proofs.YtelibndkkokadaaGreatW.PrintWords Go.Proofs.YtelibndkkokadaaGreatW.PrintLast Go.Proofs.YtelibndkkokadaaGreat.HandV Go.Proofs.YtelibndkkokadaaGreatW.PrintMore
open Go.Proofs.YtelibndkkokadaaGreat.GB
attribute [local go_sem] max2_int min2_int max_two min_two max_three min_three max_four min_four   -- for this text's walks alone
set_option linter.unusedVariables false
set_option linter.unusedSimpArgs false
-- IMPORT .GG1s
open GA
/-- Entities such ats the law's own. -/
def EP (e : En) : Prop := EntP e ∧ Strict e.f1
def AnyG (g : List En) : Prop := SortedE g ∧ (∀ e ∈ g, EP e) ∧ g.length ≤ 12
theorem anyG_ok {g : List En} (h : AnyG g) : okL g = true := by
  simp only [okL, Bool.and_eq_true, decide_eq_true_eq, List.all_eq_true]
  refine ⟨by have := h.2.2; omega, fun e he => ?_⟩
  have h1 := (h.2.1 e he).1
  simp only [okE, Bool.and_eq_true, decide_eq_true_eq, List.all_eq_true]
  exact ⟨h1.2.2.2.1, h1.2.2.2.2, smE_ent h1, by have := h1.1; omega⟩
end Go.Proofs.YtelibndkkokadaaGreat.GP
