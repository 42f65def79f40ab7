import Derived.Test.YtfmghijmcgkpiaaGS0
import Derived.Test.YtfmghijmcgkpiaaE15
namespace Go.Proofs.Ytfmghijmcgkpiaa.GE
open Go.RowKit Go.Proofs.YtfmghijmcgkpiaaW.PrintWords Go.Proofs.YtfmghijmcgkpiaaW.PrintLast Go.Proofs.Ytfmghijmcgkpiaa.HandV Go.Proofs.YtfmghijmcgkpiaaW.PrintMore
open Go.Proofs.Ytfmghijmcgkpiaa.GS
attribute [local go_sem] max2_int min2_int max_two min_two max_three min_three max_four min_four   -- for this text's walks alone
set_option linter.unusedVariables false
set_option linter.unusedSimpArgs false
-- IMPORT .E15
/-- A whole number's leaf. -/
theorem leaf_num (K : Nat) (a : Int) (k : Nat) : evE K ⟨#[]⟩ ⟨#[]⟩ ⟨#[]⟩ ⟨#[]⟩ ⟨#[]⟩ ⟨#[]⟩ (k + 1) ⟨2, false, a, ⟨#[]⟩, ⟨⟨#[]⟩, ⟨#[]⟩⟩, []⟩ = some (nuV a, 0) := rfl
/-- A sum of two whole numbers, as a tree. -/
theorem sum_tree (K : Nat) (op a b : Int) (h : 13 ≤ op) (h2 : op ≤ 19) (k : Nat) : evE K ⟨#[]⟩ ⟨#[]⟩ ⟨#[]⟩ ⟨#[]⟩ ⟨#[]⟩ ⟨#[]⟩ (k + 2) ⟨op, false, 0, ⟨#[]⟩, ⟨⟨#[]⟩, ⟨#[]⟩⟩, [⟨2, false, a, ⟨#[]⟩, ⟨⟨#[]⟩, ⟨#[]⟩⟩, []⟩, ⟨2, false, b, ⟨#[]⟩, ⟨⟨#[]⟩, ⟨#[]⟩⟩, []⟩]⟩ = numF K op a b := by
  show stepE K _ _ _ _ _ _ (evE K ⟨#[]⟩ ⟨#[]⟩ ⟨#[]⟩ ⟨#[]⟩ ⟨#[]⟩ ⟨#[]⟩ (k + 1)) _ = _
  unfold stepE
  dsimp only
  rw [if_neg (by omega), if_neg (by omega), if_pos (by omega)]
  unfold firstE
  rw [leaf_num]
  dsimp only
  rw [if_pos rfl, leaf_num]
  dsimp only
  rw [if_pos rfl]
  unfold doubleF
  rw [if_neg (by omega), if_neg (by omega), if_neg (by omega), if_neg (by omega), if_pos ⟨rfl, rfl⟩]
  rfl
/-- The law's wrap: a set of one and the tree, asked for one. -/
def wrapT (e : S67) : S67 := ⟨25, false, 0, ⟨#[]⟩, ⟨⟨#[]⟩, ⟨#[]⟩⟩, [⟨9, false, 0, ⟨#[]⟩, ⟨⟨#[]⟩, ⟨#[]⟩⟩, [⟨6, false, 0, ⟨#[]⟩, ⟨⟨#[]⟩, ⟨#[]⟩⟩, [⟨2, false, 1, ⟨#[]⟩, ⟨⟨#[]⟩, ⟨#[]⟩⟩, []⟩, e]⟩, ⟨2, false, 1, ⟨#[]⟩, ⟨⟨#[]⟩, ⟨#[]⟩⟩, []⟩]⟩, ⟨2, false, 3, ⟨#[]⟩, ⟨⟨#[]⟩, ⟨#[]⟩⟩, []⟩, ⟨2, false, 4, ⟨#[]⟩, ⟨⟨#[]⟩, ⟨#[]⟩⟩, []⟩]⟩
theorem wrap_err (K : Nat) (e : S67) (r : S31) (er : Int) (her : er ≠ 0) (k : Nat) (h : evE K ⟨#[]⟩ ⟨#[]⟩ ⟨#[]⟩ ⟨#[]⟩ ⟨#[]⟩ ⟨#[]⟩ (k + 1) e = some (r, er)) : evE K ⟨#[]⟩ ⟨#[]⟩ ⟨#[]⟩ ⟨#[]⟩ ⟨#[]⟩ ⟨#[]⟩ (k + 4) (wrapT e) = some (zV, er) := by
  have hs : evE K ⟨#[]⟩ ⟨#[]⟩ ⟨#[]⟩ ⟨#[]⟩ ⟨#[]⟩ ⟨#[]⟩ (k + 2) ⟨6, false, 0, ⟨#[]⟩, ⟨⟨#[]⟩, ⟨#[]⟩⟩, [⟨2, false, 1, ⟨#[]⟩, ⟨⟨#[]⟩, ⟨#[]⟩⟩, []⟩, e]⟩ = some (zV, er) := by
    show setE (evE K ⟨#[]⟩ ⟨#[]⟩ ⟨#[]⟩ ⟨#[]⟩ ⟨#[]⟩ ⟨#[]⟩ (k + 1)) [_, e] = _
    unfold setE
    rw [if_pos (by simp)]
    simp only [listE, leaf_num, h, if_true, if_neg her]
  have hh : evE K ⟨#[]⟩ ⟨#[]⟩ ⟨#[]⟩ ⟨#[]⟩ ⟨#[]⟩ ⟨#[]⟩ (k + 3) ⟨9, false, 0, ⟨#[]⟩, ⟨⟨#[]⟩, ⟨#[]⟩⟩, [⟨6, false, 0, ⟨#[]⟩, ⟨⟨#[]⟩, ⟨#[]⟩⟩, [⟨2, false, 1, ⟨#[]⟩, ⟨⟨#[]⟩, ⟨#[]⟩⟩, []⟩, e]⟩, ⟨2, false, 1, ⟨#[]⟩, ⟨⟨#[]⟩, ⟨#[]⟩⟩, []⟩]⟩ = some (zV, er) := by
    show stepE K ⟨#[]⟩ ⟨#[]⟩ ⟨#[]⟩ ⟨#[]⟩ ⟨#[]⟩ ⟨#[]⟩ (evE K ⟨#[]⟩ ⟨#[]⟩ ⟨#[]⟩ ⟨#[]⟩ ⟨#[]⟩ ⟨#[]⟩ (k + 2)) _ = _
    unfold stepE
    dsimp only
    rw [if_neg (by omega), if_neg (by omega), if_pos (by omega)]
    unfold firstE
    rw [hs]
    dsimp only
    rw [if_neg her]
  show stepE K ⟨#[]⟩ ⟨#[]⟩ ⟨#[]⟩ ⟨#[]⟩ ⟨#[]⟩ ⟨#[]⟩ (evE K ⟨#[]⟩ ⟨#[]⟩ ⟨#[]⟩ ⟨#[]⟩ ⟨#[]⟩ ⟨#[]⟩ (k + 3)) (wrapT e) = _
  unfold stepE wrapT
  dsimp only
  rw [if_neg (by omega), if_neg (by omega), if_neg (by omega)]
  have ha : askedF zV er = (false, er) := by unfold askedF; rw [if_pos her]
  simp only [chE, if_true, hh, ha, if_neg her]
theorem mem_insV (x y : S31) (vs : List S31) (h : x ∈ vs) : x ∈ insV vs y := by
  have hm : x ∈ vs.take (placeV vs y) ++ [y] ++ vs.drop (placeV vs y) := by
    have h2 := h
    rw [← List.take_append_drop (placeV vs y) vs] at h2
    rcases List.mem_append.1 h2 with h2 | h2
    · exact List.mem_append.2 (Or.inl (List.mem_append.2 (Or.inl h2)))
    · exact List.mem_append.2 (Or.inr h2)
  unfold insV
  split
  · split
    · exact h
    · exact hm
  · exact hm
theorem len_insV (y : S31) (vs : List S31) : (insV vs y).length ≤ vs.length + 1 := by
  have hm : (vs.take (placeV vs y) ++ [y] ++ vs.drop (placeV vs y)).length ≤ vs.length + 1 := by
    simp only [List.length_append, List.length_take, List.length_drop, List.length_cons, List.length_nil]
    omega
  unfold insV
  split
  · split
    · omega
    · exact hm
  · exact hm
theorem set_two (n : Int) : value_Set.f [nuV 1, nuV n] = some (5, false, 0, ⟨#[]⟩, ⟨#[]⟩, ⟨#[]⟩, setV [nuV 1, nuV n], 0) ∧ nuV 1 ∈ setV [nuV 1, nuV n] := by
  have h0 : insV [] (nuV 1) = [nuV 1] := by unfold insV; simp
  have hs : setV [nuV 1, nuV n] = insV [nuV 1] (nuV n) := by unfold setV; simp only [List.foldl_cons, List.foldl_nil, h0]
  refine ⟨?_, by rw [hs]; exact mem_insV _ _ _ (List.mem_cons_self ..)⟩
  have hl : (setV [nuV 1, nuV n]).length ≤ 8 := by rw [hs]; have := len_insV (nuV n) [nuV 1]; simp at this; omega
  have hg : goodN [nuV 1, nuV n] = 2 := rfl
  unfold value_Set.f
  rw [if_pos (by simp), if_neg (by rw [hg]; simp), if_pos hl]
theorem wrap_ok (K : Nat) (e : S67) (n : Int) (k : Nat) (h : evE K ⟨#[]⟩ ⟨#[]⟩ ⟨#[]⟩ ⟨#[]⟩ ⟨#[]⟩ ⟨#[]⟩ (k + 1) e = some (nuV n, 0)) : evE K ⟨#[]⟩ ⟨#[]⟩ ⟨#[]⟩ ⟨#[]⟩ ⟨#[]⟩ ⟨#[]⟩ (k + 4) (wrapT e) = some (nuV 3, 0) := by
  have hs : evE K ⟨#[]⟩ ⟨#[]⟩ ⟨#[]⟩ ⟨#[]⟩ ⟨#[]⟩ ⟨#[]⟩ (k + 2) ⟨6, false, 0, ⟨#[]⟩, ⟨⟨#[]⟩, ⟨#[]⟩⟩, [⟨2, false, 1, ⟨#[]⟩, ⟨⟨#[]⟩, ⟨#[]⟩⟩, []⟩, e]⟩ = some (⟨5, false, 0, ⟨#[]⟩, ⟨⟨#[]⟩, ⟨#[]⟩⟩, setV [nuV 1, nuV n]⟩, 0) := by
    show setE (evE K ⟨#[]⟩ ⟨#[]⟩ ⟨#[]⟩ ⟨#[]⟩ ⟨#[]⟩ ⟨#[]⟩ (k + 1)) [_, e] = _
    unfold setE
    rw [if_pos (by simp)]
    simp only [listE, leaf_num, h, if_true, (set_two n).1]
  have hd : doubleF K 9 ⟨5, false, 0, ⟨#[]⟩, ⟨⟨#[]⟩, ⟨#[]⟩⟩, setV [nuV 1, nuV n]⟩ (nuV 1) = some (trV true, 0) := by
    have ha : (setV [nuV 1, nuV n]).any (fun x => cmpV x (nuV 1) == 0) = true := List.any_eq_true.2 ⟨nuV 1, (set_two n).2, rfl⟩
    unfold doubleF value_Holds.f
    rw [if_pos rfl, if_pos rfl]
    dsimp only
    rw [show (⟨(nuV 1).f0, (nuV 1).f1, (nuV 1).f2, (nuV 1).f3, ⟨(nuV 1).f4.f0, (nuV 1).f4.f1⟩, (nuV 1).f5⟩ : S31) = nuV 1 from rfl, ha]
    rfl
  have hh : evE K ⟨#[]⟩ ⟨#[]⟩ ⟨#[]⟩ ⟨#[]⟩ ⟨#[]⟩ ⟨#[]⟩ (k + 3) ⟨9, false, 0, ⟨#[]⟩, ⟨⟨#[]⟩, ⟨#[]⟩⟩, [⟨6, false, 0, ⟨#[]⟩, ⟨⟨#[]⟩, ⟨#[]⟩⟩, [⟨2, false, 1, ⟨#[]⟩, ⟨⟨#[]⟩, ⟨#[]⟩⟩, []⟩, e]⟩, ⟨2, false, 1, ⟨#[]⟩, ⟨⟨#[]⟩, ⟨#[]⟩⟩, []⟩]⟩ = some (trV true, 0) := by
    show stepE K ⟨#[]⟩ ⟨#[]⟩ ⟨#[]⟩ ⟨#[]⟩ ⟨#[]⟩ ⟨#[]⟩ (evE K ⟨#[]⟩ ⟨#[]⟩ ⟨#[]⟩ ⟨#[]⟩ ⟨#[]⟩ ⟨#[]⟩ (k + 2)) _ = _
    unfold stepE
    dsimp only
    rw [if_neg (by omega), if_neg (by omega), if_pos (by omega)]
    unfold firstE
    rw [hs]
    dsimp only
    rw [if_pos rfl, leaf_num]
    dsimp only
    rw [if_pos rfl, hd]
  show stepE K ⟨#[]⟩ ⟨#[]⟩ ⟨#[]⟩ ⟨#[]⟩ ⟨#[]⟩ ⟨#[]⟩ (evE K ⟨#[]⟩ ⟨#[]⟩ ⟨#[]⟩ ⟨#[]⟩ ⟨#[]⟩ ⟨#[]⟩ (k + 3)) (wrapT e) = _
  unfold stepE wrapT
  dsimp only
  rw [if_neg (by omega), if_neg (by omega), if_neg (by omega)]
  have ha : askedF (trV true) 0 = (true, 0) := rfl
  simp only [chE, if_true, hh, ha, leaf_num]
end Go.Proofs.Ytfmghijmcgkpiaa.GE
