import Derived.Test.YtelibndkkokadaaGB0
namespace Go.Proofs.Ytelibndkkokadaa.GA
open Go.RowKit Go.Proofs.YtelibndkkokadaaW.PrintWords Go.Proofs.YtelibndkkokadaaW.PrintLast Go.Proofs.Ytelibndkkokadaa.HandV Go.Proofs.YtelibndkkokadaaW.PrintMore
open Go.Proofs.Ytelibndkkokadaa.GB
attribute [local go_sem] max2_int min2_int max_two min_two max_three min_three max_four min_four   -- for this text's walks alone
set_option linter.unusedVariables false
set_option linter.unusedSimpArgs false
set_option linter.unusedSectionVars false
section Ups
variable {α : Type}
inductive Up (step : α → List α) : α → α → Prop
  | refl (a : α) : Up step a a
  | head {a b c : α} : b ∈ step a → Up step b c → Up step a c
theorem Up.trans {step : α → List α} {a b c : α} (h : Up step a b) (k : Up step b c) : Up step a c := by
  induction h with
  | refl => exact k
  | head h1 _ ih => exact .head h1 (ih k)
theorem Up.snoc {step : α → List α} {a b c : α} (h : Up step a b) (k : c ∈ step b) : Up step a c := h.trans (.head k (.refl c))
theorem Up.closed {step : α → List α} {a b : α} (h : Up step a b) {R : List α} (hR : ∀ u ∈ R, ∀ x ∈ step u, x ∈ R) (ha : a ∈ R) : b ∈ R := by
  induction h with
  | refl => exact ha
  | head h1 _ ih => exact ih (hR _ ha _ h1)
theorem last_snoc {L : List α} {u : α} (h : L.getLast? = some u) : L = L.dropLast ++ [u] := by
  obtain ⟨ys, rfl⟩ := List.getLast?_eq_some_iff.1 h
  rw [List.dropLast_concat]
end Ups
section Climb
variable {α : Type} [DecidableEq α]
/-- Going up: what is left to do (the last one is next), what is met. -/
def climbR (step : α → List α) : Nat → List α → List α → List α
  | 0, _, M => M
  | n + 1, L, M => match L.getLast? with
    | none => M
    | some u => if u ∈ M then climbR step n L.dropLast M else climbR step n (L.dropLast ++ step u) (u :: M)
def wt (W : List (α × List α)) (M : List α) : Nat := (W.map fun p => if p.1 ∈ M then 0 else p.2.length).sum
theorem wt_le (M : List α) (u : α) : ∀ (W : List (α × List α)), wt W (u :: M) ≤ wt W M
  | [] => Nat.le_refl _
  | p :: W => by
    have ih := wt_le M u W
    simp only [wt, List.map_cons, List.sum_cons] at ih ⊢
    by_cases h : p.1 ∈ M
    · rw [if_pos h, if_pos (List.mem_cons_of_mem _ h)]; omega
    · rw [if_neg h]
      split <;> omega
theorem wt_lt (M : List α) (u : α) (hu : u ∉ M) (s : List α) : ∀ (W : List (α × List α)), (u, s) ∈ W → wt W (u :: M) + s.length ≤ wt W M
  | [], h => by cases h
  | p :: W, h => by
    have ih := wt_lt M u hu s W
    have ih2 := wt_le M u W
    simp only [wt, List.map_cons, List.sum_cons] at ih ih2 ⊢
    rcases List.mem_cons.1 h with h | h
    · subst h
      rw [if_pos (List.mem_cons_self ..), if_neg hu]
      show 0 + _ + s.length ≤ s.length + _
      omega
    · have := ih h
      by_cases hm : p.1 ∈ M
      · rw [if_pos hm, if_pos (List.mem_cons_of_mem _ hm)]; omega
      · rw [if_neg hm]
        split <;> omega
theorem wt_step {step : α → List α} {W : List (α × List α)} (hW : ∀ u, step u = [] ∨ (u, step u) ∈ W) (M : List α) (u : α) (hu : u ∉ M) : wt W (u :: M) + (step u).length ≤ wt W M := by
  rcases hW u with h | h
  · rw [h]; exact wt_le M u W
  · exact wt_lt M u hu _ W h
theorem climbR_spec {step : α → List α} {W : List (α × List α)} (hW : ∀ u, step u = [] ∨ (u, step u) ∈ W) : ∀ (n : Nat) (L M : List α), L.length + wt W M ≤ n → (∀ x ∈ M, x ∈ climbR step n L M) ∧ (∀ x ∈ L, x ∈ climbR step n L M) ∧ (∀ u ∈ climbR step n L M, u ∉ M → ∀ x ∈ step u, x ∈ climbR step n L M) ∧ (∀ x ∈ climbR step n L M, x ∈ M ∨ ∃ s ∈ L, Up step s x)
  | 0, L, M, h => by
    have : L = [] := List.length_eq_zero_iff.1 (by omega)
    subst this
    exact ⟨fun x h => h, fun x h => (by cases h), fun u h1 h2 => absurd h1 h2, fun x h => .inl h⟩
  | n + 1, L, M, h => by
    unfold climbR
    cases hl : L.getLast? with
    | none =>
      have : L = [] := List.getLast?_eq_none_iff.1 hl
      subst this
      exact ⟨fun x h => h, fun x h => (by cases h), fun u h1 h2 => absurd h1 h2, fun x h => .inl h⟩
    | some u =>
      have hL := last_snoc hl
      have hlen : L.length = L.dropLast.length + 1 := by rw [congrArg List.length hL]; simp
      have hmem : ∀ x, x ∈ L ↔ x ∈ L.dropLast ∨ x = u := by
        intro x
        constructor
        · intro hx; rw [hL] at hx; simpa using hx
        · intro hx; rw [hL]; simpa using hx
      dsimp only
      by_cases hu : u ∈ M
      · rw [if_pos hu]
        obtain ⟨h1, h2, h3, h4⟩ := climbR_spec hW n L.dropLast M (by omega)
        refine ⟨h1, fun x hx => ?_, h3, fun x hx => ?_⟩
        · rcases (hmem x).1 hx with hx | rfl
          · exact h2 x hx
          · exact h1 _ hu
        · rcases h4 x hx with hx | ⟨s, hs, hup⟩
          · exact .inl hx
          · exact .inr ⟨s, (hmem s).2 (.inl hs), hup⟩
      · rw [if_neg hu]
        have hw := wt_step hW M u hu
        obtain ⟨h1, h2, h3, h4⟩ := climbR_spec hW n (L.dropLast ++ step u) (u :: M) (by rw [List.length_append]; omega)
        refine ⟨fun x hx => h1 x (List.mem_cons_of_mem _ hx), fun x hx => ?_, fun v hv hvM x hx => ?_, fun x hx => ?_⟩
        · rcases (hmem x).1 hx with hx | rfl
          · exact h2 x (List.mem_append_left _ hx)
          · exact h1 _ (List.mem_cons_self ..)
        · by_cases hvu : v = u
          · subst hvu
            exact h2 x (List.mem_append_right _ hx)
          · exact h3 v hv (by simp only [List.mem_cons, not_or]; exact ⟨hvu, hvM⟩) x hx
        · rcases h4 x hx with hx | ⟨s, hs, hup⟩
          · rcases List.mem_cons.1 hx with rfl | hx
            · exact .inr ⟨x, (hmem x).2 (.inr rfl), .refl x⟩
            · exact .inl hx
          · rcases List.mem_append.1 hs with hs | hs
            · exact .inr ⟨s, (hmem s).2 (.inl hs), hup⟩
            · exact .inr ⟨u, (hmem u).2 (.inr rfl), .head hs hup⟩
/-- All that is met. -/
theorem climbR_mem {step : α → List α} {W : List (α × List α)} (hW : ∀ u, step u = [] ∨ (u, step u) ∈ W) (n : Nat) (L : List α) (hn : L.length + wt W [] ≤ n) (x : α) : x ∈ climbR step n L [] ↔ ∃ s ∈ L, Up step s x := by
  obtain ⟨_, h2, h3, h4⟩ := climbR_spec hW n L [] hn
  constructor
  · intro hx
    rcases h4 x hx with h | h
    · cases h
    · exact h
  · rintro ⟨s, hs, hup⟩
    exact hup.closed (fun u hu x hx => h3 u hu (by simp) x hx) (h2 s hs)
/-- Rounds more change nothing. -/
theorem climbR_more {step : α → List α} {W : List (α × List α)} (hW : ∀ u, step u = [] ∨ (u, step u) ∈ W) : ∀ (n m : Nat) (L M : List α), L.length + wt W M ≤ n → L.length + wt W M ≤ m → climbR step n L M = climbR step m L M
  | 0, m, L, M, h, _ => by
    have : L = [] := List.length_eq_zero_iff.1 (by omega)
    subst this
    cases m <;> rfl
  | n + 1, 0, L, M, _, h => by
    have : L = [] := List.length_eq_zero_iff.1 (by omega)
    subst this
    rfl
  | n + 1, m + 1, L, M, h1, h2 => by
    unfold climbR
    cases hl : L.getLast? with
    | none => rfl
    | some u =>
      have hL := last_snoc hl
      have hlen : L.length = L.dropLast.length + 1 := by rw [congrArg List.length hL]; simp
      dsimp only
      by_cases hu : u ∈ M
      · rw [if_pos hu, if_pos hu]
        exact climbR_more hW n m _ _ (by omega) (by omega)
      · rw [if_neg hu, if_neg hu]
        have hw := wt_step hW M u hu
        exact climbR_more hW n m _ _ (by rw [List.length_append]; omega) (by rw [List.length_append]; omega)
theorem climbR_nodup (step : α → List α) : ∀ (n : Nat) (L M : List α), M.Nodup → (climbR step n L M).Nodup
  | 0, _, _, h => h
  | n + 1, L, M, h => by
    unfold climbR
    cases L.getLast? with
    | none => exact h
    | some u =>
      dsimp only
      by_cases hu : u ∈ M
      · rw [if_pos hu]; exact climbR_nodup step n _ _ h
      · rw [if_neg hu]; exact climbR_nodup step n _ _ (List.nodup_cons.2 ⟨hu, h⟩)
end Climb
end Go.Proofs.Ytelibndkkokadaa.GA
