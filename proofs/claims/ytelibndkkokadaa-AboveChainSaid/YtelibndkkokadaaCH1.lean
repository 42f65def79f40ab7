import Derived.Test.YtelibndkkokadaaGB0
import Derived.Test.YtelibndkkokadaaJp
import Derived.Test.YtelibndkkokadaaJb
import Derived.Test.YtelibndkkokadaaJr
import Derived.Test.YtelibndkkokadaaJa
import Derived.Test.YtelibndkkokadaaGB17
import Derived.Test.YtelibndkkokadaaGB15
namespace Go.Proofs.Ytelibndkkokadaa.GP
open Go.RowKit Go.Proofs.YtelibndkkokadaaW.PrintWords Go.Proofs.YtelibndkkokadaaW.PrintLast Go.Proofs.Ytelibndkkokadaa.HandV Go.Proofs.YtelibndkkokadaaW.PrintMore
open Go.Proofs.Ytelibndkkokadaa.GB
attribute [local go_sem] max2_int min2_int max_two min_two max_three min_three max_four min_four   -- for this text's walks alone
set_option linter.unusedVariables false
set_option linter.unusedSimpArgs false
-- IMPORT .T0
-- IMPORT .O1
-- IMPORT .R1
-- IMPORT .A1
-- IMPORT .A2
-- IMPORT .A5
-- IMPORT .A6
-- IMPORT .A7
-- IMPORT .A9
-- FN above_Below
-- FN above_In
set_option linter.unusedSectionVars false
open GA
theorem sorted_uniq {g : List En} (h : SortedE g) {a b : En} (ha : a ∈ g) (hb : b ∈ g) (he : a.f0 = b.f0) : a = b := by
  obtain ⟨i, hi, rfl⟩ := List.getElem_of_mem ha
  obtain ⟨j, hj, rfl⟩ := List.getElem_of_mem hb
  rcases Nat.lt_trichotomy i j with h1 | h1 | h1
  · have := List.pairwise_iff_getElem.1 h i j hi hj h1
    rw [he, ltU_irr] at this; cases this
  · subst h1; rfl
  · have := List.pairwise_iff_getElem.1 h j i hj hi h1
    rw [he, ltU_irr] at this; cases this
theorem rstep_mem {g : List En} (h : SortedE g) {e : En} (he : e ∈ g) : rstepF g e.f0 = e.f1 := by
  unfold rstepF
  cases hf : g.find? (fun x => decide (x.f0 = e.f0)) with
  | none =>
    have := List.find?_eq_none.1 hf e he
    simp at this
  | some x =>
    have h1 : x.f0 = e.f0 := by simpa using List.find?_some hf
    rw [sorted_uniq h (List.mem_of_find?_eq_some hf) he h1]
theorem rstep_none {g : List En} {u : U} (h : ∀ e ∈ g, e.f0 ≠ u) : rstepF g u = [] := by
  unfold rstepF
  rw [List.find?_eq_none.2 (fun x hx => by simpa using h x hx)]
theorem atB_some' {g : List En} (h : SortedE g) {u : U} : GT.atB g u.f0 u.f1 = true ↔ ∃ e ∈ g, e.f0 = u := by
  rw [atB_iff g ((sortedE_iff g).1 h)]
  constructor
  · rintro ⟨y, hy, hk⟩
    exact ⟨y, hy, ku_inj hk⟩
  · rintro ⟨y, hy, rfl⟩
    exact ⟨y, hy, rfl⟩
theorem step_eq {g : List En} (h : SortedE g) : stepF g = rstepF g := by
  funext u
  by_cases hb : GT.atB g u.f0 u.f1 = true
  · obtain ⟨e, he, rfl⟩ := atB_some hb
    rw [rstep_mem h (List.mem_of_getElem? he)]
    unfold stepF
    rw [if_pos hb, he]
  · rw [rstep_none (fun e he hu => hb ((atB_some' h).2 ⟨e, he, hu⟩))]
    unfold stepF
    rw [if_neg hb]
theorem up_split {α : Type} {step : α → List α} {a b : α} : Up step a b ↔ a = b ∨ ∃ p ∈ step a, Up step p b := by
  constructor
  · intro h
    cases h with
    | refl => exact .inl rfl
    | head h1 h2 => exact .inr ⟨_, h1, h2⟩
  · rintro (rfl | ⟨p, hp, h⟩)
    · exact .refl _
    · exact .head hp h
theorem in_iff {g : List En} (u a : U) : inF g u a = true ↔ Up (stepF g) u a := by
  unfold inF
  rw [decide_eq_true_eq, climbF_mem]
  simp
theorem above_iff {g : List En} (u a : U) : a ∈ aboveF g u ↔ ∃ p ∈ stepF g u, Up (stepF g) p a := by
  show a ∈ sortU _ ↔ _
  rw [(sortU_perm _).mem_iff, climbF_mem]
theorem above_strict (g : List En) (u : U) : Strict (aboveF g u) := sortU_strict (climbR_nodup _ _ _ _ (by simp))
theorem in_f {g : List En} (h : okL g = true) {u a : U} (hu : okU u = true) (ha : okU a = true) : above_In.f g u.f0 u.f1 a.f0 a.f1 = some (inF g u a) := by unfold above_In.f; rw [if_pos ⟨h, hu, ha⟩]
def pB (g : List En) (u : U) (e : En) : Bool := !decide (e.f0 = u) && inF g e.f0 u
def belowF (g : List En) (u : U) : List U := (g.filter (pB g u)).map (fun e => e.f0)
theorem ne_test (x u : U) : ((!(x.f0.toList == u.f0.toList)) || (!(x.f1.toList == u.f1.toList))) = !decide (x = u) := by
  have := eqU_iff x u
  cases h1 : (x.f0.toList == u.f0.toList) <;> cases h2 : (x.f1.toList == u.f1.toList) <;> rw [h1, h2] at this
  · have hn : x ≠ u := fun e => by have := this.2 e; cases this
    simp [hn]
  · have hn : x ≠ u := fun e => by have := this.2 e; cases this
    simp [hn]
  · have hn : x ≠ u := fun e => by have := this.2 e; cases this
    simp [hn]
  · have hn : x = u := this.1 rfl
    simp [hn]
/-- A way to u that does not need what u has above it. -/
theorem up_cut {α : Type} {s1 s2 : α → List α} {u : α} (h : ∀ a, a ≠ u → ∀ b ∈ s1 a, b ∈ s2 a) {a : α} (hu : Up s1 a u) : Up s2 a u := by
  induction hu with
  | refl => exact .refl _
  | @head a b c h1 _ ih =>
    by_cases hau : a = c
    · subst hau; exact .refl _
    · exact .head (h a hau b h1) (ih h)
theorem rest_sorted {g : List En} (hg : SortedE g) (u : U) : SortedE (restF g u) ∧ (∀ x, x ≠ u → rstepF (restF g u) x = rstepF g x) ∧ rstepF (restF g u) u = [] := by
  unfold restF
  by_cases hb : GT.atB g u.f0 u.f1 = true
  · rw [if_pos hb]
    obtain ⟨e, he, rfl⟩ := atB_some hb
    have hem := List.mem_of_getElem? he
    rw [he]
    obtain ⟨h1, h2, _⟩ := put_spec g ((sortedE_iff g).1 hg) ⟨e.f0, [], e.f2⟩
    have hs := (sortedE_iff _).2 h1
    refine ⟨hs, fun x hx => ?_, rstep_mem hs ((h2 ⟨e.f0, [], e.f2⟩).2 (.inl rfl))⟩
    by_cases hex : ∃ y ∈ g, y.f0 = x
    · obtain ⟨y, hy, rfl⟩ := hex
      rw [rstep_mem hg hy]
      exact rstep_mem hs ((h2 y).2 (.inr ⟨hy, fun hk => hx (ku_inj hk)⟩))
    · rw [rstep_none (fun y hy hyx => hex ⟨y, hy, hyx⟩)]
      refine rstep_none (fun y hy hyx => ?_)
      rcases (h2 y).1 hy with rfl | ⟨hy, _⟩
      · exact hx hyx.symm
      · exact hex ⟨y, hy, hyx⟩
  · rw [if_neg hb]
    exact ⟨hg, fun x _ => rfl, rstep_none (fun e he hu => hb ((atB_some' hg).2 ⟨e, he, hu⟩))⟩
theorem circle_iff {g : List En} (hg : SortedE g) (u : U) (ps : List U) : circleF g u ps = true ↔ ∃ p ∈ ps, Up (rstepF (restF g u)) p u := by
  unfold circleF
  rw [decide_eq_true_eq, climbF_mem, step_eq (rest_sorted hg u).1]

/-- The uids of the chain's entities. -/
def cs (i : Nat) : ByteArray := ⟨#[UInt8.ofNat (97 + i)]⟩
def cu (i : Nat) : U := ⟨⟨#[84]⟩, cs i⟩
def par (n : Nat) (ring : Bool) (i : Nat) : List U := if i + 1 < n then [cu (i + 1)] else if ring = true then [cu 0] else []
def cE (n : Nat) (ring : Bool) (i : Nat) : En := ⟨cu i, par n ring i, []⟩
def chain (n : Nat) (ring : Bool) (m : Nat) : List En := (List.range m).map (cE n ring)
theorem chain_len (n : Nat) (ring : Bool) (m : Nat) : (chain n ring m).length = m := by simp [chain]
theorem chain_snoc (n : Nat) (ring : Bool) (m : Nat) : chain n ring (m + 1) = chain n ring m ++ [cE n ring m] := by simp [chain, List.range_succ]
theorem chain_at (n : Nat) (ring : Bool) (m i : Nat) (h : i < m) : (chain n ring m)[i]'(by rw [chain_len]; exact h) = cE n ring i := by simp [chain]
theorem ltU_cu : ∀ i, i < 15 → ∀ j, j < 15 → ltU (cu i) (cu j) = decide (i < j) := by decide +kernel
theorem cu_inj {i j : Nat} (hi : i < 15) (hj : j < 15) (h : cu i = cu j) : i = j := by
  rcases Nat.lt_trichotomy i j with h1 | h1 | h1
  · have := ltU_cu i hi j hj
    rw [h, ltU_irr, decide_eq_true h1] at this; cases this
  · exact h1
  · have := ltU_cu j hj i hi
    rw [h, ltU_irr, decide_eq_true h1] at this; cases this
theorem okU_cu (i : Nat) : okU (cu i) = true := by
  have h1 : (⟨#[84]⟩ : ByteArray).size ≤ 1000000 := Nat.le_of_ble_eq_true rfl
  have h2 : (cs i).size ≤ 1000000 := Nat.le_of_ble_eq_true rfl
  unfold okU
  rw [Bool.and_eq_true]
  exact ⟨decide_eq_true h1, decide_eq_true h2⟩
theorem par_ok (n : Nat) (ring : Bool) (i : Nat) : (∀ p ∈ par n ring i, okU p = true) ∧ (par n ring i).length ≤ 1 := by
  unfold par
  split
  · exact ⟨fun p hp => by obtain rfl := List.mem_singleton.1 hp; exact okU_cu _, by simp⟩
  · split
    · exact ⟨fun p hp => by obtain rfl := List.mem_singleton.1 hp; exact okU_cu _, by simp⟩
    · exact ⟨fun p hp => (by cases hp), by simp⟩
theorem smE_low {x : En} (h1 : x.f1.length ≤ 1) (h2 : x.f2 = []) : GT.smE x = true := by
  simp only [GT.smE, Bool.and_eq_true, decide_eq_true_eq, List.all_eq_true]
  rw [h2]
  exact ⟨by omega, by simp, fun a ha => by cases ha⟩
theorem smE_cE (n : Nat) (ring : Bool) (i : Nat) : GT.smE (cE n ring i) = true := smE_low (par_ok n ring i).2 rfl
theorem okL_chain (n : Nat) (ring : Bool) (m : Nat) (hm : m ≤ 14) : okL (chain n ring m) = true := by
  simp only [okL, Bool.and_eq_true, decide_eq_true_eq, List.all_eq_true]
  refine ⟨by rw [chain_len]; omega, fun e he => ?_⟩
  obtain ⟨i, _, rfl⟩ := List.mem_map.1 he
  simp only [okE, Bool.and_eq_true, decide_eq_true_eq, List.all_eq_true]
  exact ⟨okU_cu i, (par_ok n ring i).1, smE_cE n ring i, by have := (par_ok n ring i).2; show (par n ring i).length ≤ 1000; omega⟩
theorem sorted_chain (n : Nat) (ring : Bool) (m : Nat) (hm : m ≤ 14) : SortedE (chain n ring m) := by
  unfold chain
  refine List.pairwise_map.2 ?_
  refine List.Pairwise.imp_of_mem ?_ (List.pairwise_lt_range (n := m))
  intro i j hi hj h
  rw [List.mem_range] at hi hj
  show ltU (cu i) (cu j) = true
  rw [ltU_cu i (by omega) j (by omega)]; exact decide_eq_true h
section
variable {n : Nat} {ring : Bool} (hn : n ≤ 14)
include hn
theorem rstep_ch {i : Nat} (hi : i < n) : rstepF (chain n ring n) (cu i) = par n ring i :=
  rstep_mem (e := cE n ring i) (sorted_chain n ring n hn) (List.mem_map.2 ⟨i, List.mem_range.2 hi, rfl⟩)
theorem step_ch {i : Nat} (hi : i < n) : stepF (chain n ring n) (cu i) = par n ring i := by rw [step_eq (sorted_chain n ring n hn), rstep_ch hn hi]
theorem up_ch {k : Nat} : ∀ (d : Nat), k + d < n → Up (stepF (chain n ring n)) (cu k) (cu (k + d))
  | 0, _ => .refl _
  | d + 1, h => (up_ch d (by omega)).snoc (by rw [step_ch hn (by omega)]; unfold par; rw [if_pos (by omega)]; exact List.mem_singleton.2 rfl)
theorem up_le {k j : Nat} (h1 : k ≤ j) (h2 : j < n) : Up (stepF (chain n ring n)) (cu k) (cu j) := by
  have := up_ch hn (ring := ring) (k := k) (j - k) (by omega)
  rwa [show k + (j - k) = j by omega] at this
theorem up_only {a b : U} (h : Up (stepF (chain n false n)) a b) : ∀ k, k < n → a = cu k → ∃ j, k ≤ j ∧ j < n ∧ b = cu j := by
  induction h with
  | refl => exact fun k hk e => ⟨k, Nat.le_refl _, hk, e⟩
  | head h1 _ ih =>
    intro k hk e
    subst e
    rw [step_ch hn hk] at h1
    unfold par at h1
    split at h1
    · obtain rfl := List.mem_singleton.1 h1
      obtain ⟨j, a1, a2, a3⟩ := ih (k + 1) (by omega) rfl
      exact ⟨j, by omega, a2, a3⟩
    · rw [if_neg (by decide)] at h1; cases h1
theorem up_ring {a b : U} (h : Up (stepF (chain n true n)) a b) : ∀ k, k < n → a = cu k → ∃ j, j < n ∧ b = cu j := by
  induction h with
  | refl => exact fun k hk e => ⟨k, hk, e⟩
  | head h1 _ ih =>
    intro k hk e
    subst e
    rw [step_ch hn hk] at h1
    unfold par at h1
    split at h1
    · obtain rfl := List.mem_singleton.1 h1
      exact ih (k + 1) (by omega) rfl
    · rw [if_pos rfl] at h1
      obtain rfl := List.mem_singleton.1 h1
      exact ih 0 (by omega) rfl
theorem up_any {k j : Nat} (hk : k < n) (hj : j < n) : Up (stepF (chain n true n)) (cu k) (cu j) := by
  have h1 := up_le hn (ring := true) (k := k) (j := n - 1) (by omega) (by omega)
  have h2 : cu 0 ∈ stepF (chain n true n) (cu (n - 1)) := by rw [step_ch hn (by omega)]; unfold par; rw [if_neg (by omega), if_pos rfl]; exact List.mem_singleton.2 rfl
  exact (h1.snoc h2).trans (up_le hn (Nat.zero_le _) hj)
theorem in_ch {k i : Nat} (hk : k < n) (hi : i < n) : inF (chain n ring n) (cu k) (cu i) = (ring || decide (k ≤ i)) := by
  cases ring with
  | true => exact (in_iff _ _).2 (up_any hn hk hi)
  | false =>
    rw [Bool.false_or]
    by_cases h : k ≤ i
    · rw [decide_eq_true h]; exact (in_iff _ _).2 (up_le hn h hi)
    · rw [decide_eq_false h]
      cases hq : inF (chain n false n) (cu k) (cu i) with
      | false => rfl
      | true =>
        obtain ⟨j, h1, h2, h3⟩ := up_only hn ((in_iff _ _).1 hq) k hk rfl
        have := cu_inj (by omega) (by omega) h3
        omega
theorem above_ch {k : Nat} (hk : k < n) : (aboveF (chain n ring n) (cu k)).length = if ring = true then n else n - 1 - k := by
  have key : ∀ L : List Nat, (∀ i ∈ L, i < n) → L.Pairwise (fun a b => a < b) → (∀ a, a ∈ aboveF (chain n ring n) (cu k) ↔ ∃ i ∈ L, a = cu i) → (aboveF (chain n ring n) (cu k)).length = L.length := by
    intro L h1 h2 h3
    have hnd : (L.map cu).Nodup := by
      refine List.pairwise_map.2 (h2.imp_of_mem ?_)
      intro a b ha hb hlt he
      have := cu_inj (by have := h1 a ha; omega) (by have := h1 b hb; omega) he
      omega
    have hp : (aboveF (chain n ring n) (cu k)).Perm (L.map cu) := by
      rw [List.perm_ext_iff_of_nodup (strict_nodup (above_strict _ _)) hnd]
      intro a
      rw [h3, List.mem_map]
      exact ⟨fun ⟨i, hi, he⟩ => ⟨i, hi, he.symm⟩, fun ⟨i, hi, he⟩ => ⟨i, hi, he.symm⟩⟩
    rw [hp.length_eq, List.length_map]
  cases hr : ring with
  | true =>
    subst hr
    rw [if_pos rfl, key (List.range n) (fun i hi => List.mem_range.1 hi) List.pairwise_lt_range ?_, List.length_range]
    intro a
    rw [above_iff, step_ch hn hk]
    constructor
    · rintro ⟨p, hp, hu⟩
      obtain ⟨j, hj, rfl⟩ : ∃ j, j < n ∧ p = cu j := by
        unfold par at hp
        split at hp
        · exact ⟨k + 1, by omega, List.mem_singleton.1 hp⟩
        · rw [if_pos rfl] at hp; exact ⟨0, by omega, List.mem_singleton.1 hp⟩
      obtain ⟨i, hi, he⟩ := up_ring hn hu j hj rfl
      exact ⟨i, List.mem_range.2 hi, he⟩
    · rintro ⟨i, hi, rfl⟩
      have hi := List.mem_range.1 hi
      unfold par
      split
      · exact ⟨_, List.mem_singleton.2 rfl, up_any hn (by omega) hi⟩
      · rw [if_pos rfl]; exact ⟨_, List.mem_singleton.2 rfl, up_any hn (by omega) hi⟩
  | false =>
    subst hr
    rw [if_neg (by decide), key (List.range' (k + 1) (n - 1 - k)) (fun i hi => by have := List.mem_range'_1.1 hi; omega) List.pairwise_lt_range' ?_, List.length_range']
    intro a
    rw [above_iff, step_ch hn hk]
    constructor
    · rintro ⟨p, hp, hu⟩
      unfold par at hp
      split at hp
      · obtain rfl := List.mem_singleton.1 hp
        obtain ⟨j, h1, h2, h3⟩ := up_only hn hu (k + 1) (by omega) rfl
        exact ⟨j, List.mem_range'_1.2 (by omega), h3⟩
      · rw [if_neg (by decide)] at hp; cases hp
    · rintro ⟨i, hi, rfl⟩
      have hi := List.mem_range'_1.1 hi
      unfold par
      rw [if_pos (by omega)]
      exact ⟨_, List.mem_singleton.2 rfl, up_le hn (by omega) (by omega)⟩
theorem below_ch {k : Nat} (hk : k < n) : (belowF (chain n ring n) (cu k)).length = if ring = true then n - 1 else k := by
  unfold belowF
  rw [List.length_map]
  have h1 : (chain n ring n).filter (pB (chain n ring n) (cu k)) = ((List.range n).filter (fun i => !decide (i = k) && (ring || decide (i ≤ k)))).map (cE n ring) := by
    show ((List.range n).map (cE n ring)).filter _ = _
    rw [List.filter_map]
    refine congrArg (List.map (cE n ring)) (List.filter_congr ?_)
    intro i hi
    have hi := List.mem_range.1 hi
    show (!decide (cu i = cu k) && inF (chain n ring n) (cu i) (cu k)) = _
    rw [in_ch hn hi hk]
    have : decide (cu i = cu k) = decide (i = k) := by
      by_cases e : i = k
      · rw [e]; simp
      · rw [decide_eq_false e, decide_eq_false (fun h => e (cu_inj (by omega) (by omega) h))]
    rw [this]
  rw [h1, List.length_map]
  have fin : ∀ n, n < 15 → ∀ k, k < n → ∀ ring : Bool, ((List.range n).filter (fun i => !decide (i = k) && (ring || decide (i ≤ k)))).length = if ring = true then n - 1 else k := by decide +kernel
  exact fin n (by omega) k hk ring
theorem circle_last {k : Nat} (hk : k < n) : circleF (chain n false n) (cu (n - 1)) [cu k] = true := by
  rw [circle_iff (sorted_chain n false n hn)]
  refine ⟨cu k, List.mem_singleton.2 rfl, ?_⟩
  have h := up_le hn (ring := false) (k := k) (j := n - 1) (by omega) (by omega)
  rw [step_eq (sorted_chain n false n hn)] at h
  exact up_cut (fun a ha b hb => by rw [(rest_sorted (sorted_chain n false n hn) (cu (n - 1))).2.1 a ha]; exact hb) h
end
abbrev cother : U := ⟨⟨#[84]⟩, ⟨#[111, 116, 104, 101, 114]⟩⟩
theorem okU_other : okU cother = true := by
  have h1 : (⟨#[84]⟩ : ByteArray).size ≤ 1000000 := Nat.le_of_ble_eq_true rfl
  have h2 : (⟨#[111, 116, 104, 101, 114]⟩ : ByteArray).size ≤ 1000000 := Nat.le_of_ble_eq_true rfl
  unfold okU
  rw [Bool.and_eq_true]
  exact ⟨decide_eq_true h1, decide_eq_true h2⟩
theorem other_ne (i : Nat) : cu i ≠ cother := by
  intro h
  have h2 : (cs i).size = 5 := by rw [show cs i = (⟨#[111, 116, 104, 101, 114]⟩ : ByteArray) from congrArg (fun u : U => u.f1) h]; rfl
  have h3 : (cs i).size = 1 := rfl
  omega
theorem circle_other {n : Nat} (hn : n ≤ 14) : circleF (chain n false n) (cu 0) [cother] = false := by
  cases hq : circleF (chain n false n) (cu 0) [cother] with
  | false => rfl
  | true =>
    have hs := sorted_chain n false n hn
    obtain ⟨p, hp, hu⟩ := (circle_iff hs _ _).1 hq
    obtain rfl := List.mem_singleton.1 hp
    have hst : rstepF (restF (chain n false n) (cu 0)) cother = [] := by
      rw [(rest_sorted hs (cu 0)).2.1 cother (fun h => other_ne 0 h.symm)]
      refine rstep_none (fun e he hee => ?_)
      obtain ⟨i, _, rfl⟩ := List.mem_map.1 he
      exact other_ne i hee
    rcases up_split.1 hu with h | ⟨p, hp, _⟩
    · exact absurd h.symm (other_ne 0)
    · rw [hst] at hp; cases hp
/-- above.Below, at any entities well within the bounds. -/
theorem below_l0' {g : List En} (hok : okL g = true) (hlen : g.length ≤ 998) {u : U} (hu : okU u = true) : ∀ (d i : Nat) (acc : List U), i + d = g.length → acc.length ≤ i → Tot (fun k => above_Below.l0 k g acc g (g.length : Int) (i : Int) u.f0 u.f1) (fun r => r = acc ++ ((g.drop i).filter (pB g u)).map (fun e => e.f0))
  | 0, i, acc, h, ha => by
    refine Tot.step (fun k => by rw [above_Below.l0]) ?_
    refine Tot.neg (by omega) ?_
    exact Tot.now (by rw [List.drop_of_length_le (by omega)]; simp)
  | d + 1, i, acc, h, ha => by
    have hi : i < g.length := by omega
    have hd : g.drop i = g[i] :: g.drop (i + 1) := List.drop_eq_getElem_cons hi
    have hskip : pB g u g[i] = false → Tot (fun k => above_Below.l0 k g acc g (g.length : Int) (wrap64 ((i : Int) + 1)) u.f0 u.f1) (fun r => r = acc ++ ((g.drop i).filter (pB g u)).map (fun e => e.f0)) := fun hp => by
      rw [wr_succ (by omega)]
      refine Tot.mono (below_l0' hok hlen hu d (i + 1) acc (by omega) (by omega)) (fun r hr => ?_)
      rw [hr, hd, List.filter_cons, if_neg (by simp [hp])]
    refine Tot.step (fun k => by rw [above_Below.l0]) ?_
    refine Tot.pos (by omega) ?_
    refine Tot.pos (by omega) ?_
    refine Tot.pos (by omega) ?_
    rw [rdE_at hi, ne_test]
    refine Tot.ite (fun hq => ?_) (fun hq => ?_)
    · rw [in_f hok (okL_mem hok (List.getElem_mem hi)).1 hu]
      refine Tot.some_bind ?_
      refine Tot.ite (fun hb => ?_) (fun hb => ?_)
      · refine Tot.pos (by omega) ?_
        rw [wr_succ (by omega)]
        refine Tot.mono (below_l0' hok hlen hu d (i + 1) _ (by omega) (by simp; omega)) (fun r hr => ?_)
        rw [hr, hd, List.filter_cons, if_pos (by unfold pB; rw [hq, hb]; rfl)]
        simp
      · exact hskip (by unfold pB; rw [Bool.and_eq_false_iff]; exact .inr (by simpa using hb))
    · exact hskip (by unfold pB; rw [Bool.and_eq_false_iff]; exact .inl (by simpa using hq))
theorem below_tot' {g : List En} (hok : okL g = true) (hlen : g.length ≤ 998) {u : U} (hu : okU u = true) : Tot (fun k => above_Below.f k g u.f0 u.f1) (fun r => r = belowF g u) :=
  Tot.mono (below_l0' hok hlen hu g.length 0 [] (by omega) (Nat.le_refl _)) (fun r h => by rw [h]; rfl)
end Go.Proofs.Ytelibndkkokadaa.GP
