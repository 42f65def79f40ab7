import Derived.Test.YtlhpkapcehjolaaDoorPureLib
namespace Go.Proofs.YtlhpkapcehjolaaDoor.Pure
open Go.RowKit Go.Proofs.YtlhpkapcehjolaaDoor.GNum Go.Proofs.YtlhpkapcehjolaaDoorW.PrintWords Go.Proofs.YtlhpkapcehjolaaDoorW.PrintLast
theorem sign_of {a b : Int} (ha : a ≠ 0) (hb : b ≠ 0) : (decide (a * b < 0)) = ((decide (a < 0)) != (decide (b < 0))) := by
  rcases Int.lt_or_gt_of_ne ha with h1 | h1 <;> rcases Int.lt_or_gt_of_ne hb with h2 | h2
  · have := Int.mul_pos_of_neg_of_neg h1 h2
    rw [show decide (a * b < 0) = false from decide_eq_false (by omega), show decide (a < 0) = true from decide_eq_true h1, show decide (b < 0) = true from decide_eq_true h2]; rfl
  · have := Int.mul_neg_of_neg_of_pos h1 h2
    rw [show decide (a * b < 0) = true from decide_eq_true (by omega), show decide (a < 0) = true from decide_eq_true h1, show decide (b < 0) = false from decide_eq_false (by omega)]; rfl
  · have := Int.mul_neg_of_pos_of_neg h1 h2
    rw [show decide (a * b < 0) = true from decide_eq_true (by omega), show decide (a < 0) = false from decide_eq_false (by omega), show decide (b < 0) = true from decide_eq_true h2]; rfl
  · have := Int.mul_pos h1 h2
    rw [show decide (a * b < 0) = false from decide_eq_false (by omega), show decide (a < 0) = false from decide_eq_false (by omega), show decide (b < 0) = false from decide_eq_false (by omega)]; rfl
theorem signs_j0 {a b : Int} (ha : InR a) (hb : InR b) : chancellaw2_NumSigns.j0 2 a b = some true := by
  simp only [chancellaw2_NumSigns.j0]
  have h0 : InR 0 := by unfold InR; omega
  have h1 : InR 1 := by unfold InR; omega
  rw [mul_eq ha h1, mul_eq ha h0, add_eq ha h0, sub_eq ha h0, mul_eq ha hb, Int.mul_one, Int.mul_zero, Int.add_zero, Int.sub_zero, if_pos ha, if_pos h0]
  simp only [Option.bind_some, if_true]
  by_cases h : InR (a * b)
  · rw [if_pos h]
    simp only [Option.bind_some, if_true]
    by_cases a0 : a = 0
    · rw [if_pos a0]
    · rw [if_neg a0]
      by_cases b0 : b = 0
      · rw [if_pos b0]
      · rw [if_neg b0, sign_of a0 b0]
        simp
  · rw [if_neg h]
    simp
theorem NumSigns : chancellaw2_NumSigns.Pure := by
  intro a b hw hv
  have ha := inR_of_wf hw
  have hb := inR_of_wf hv
  refine ⟨2, ?_⟩
  unfold chancellaw2_NumSigns.f
  rw [known_true, neg_eq ha]
  simp only [Option.bind_some, if_true]
  by_cases h : InR (-a)
  · rw [if_pos h]
    simp only [Option.bind_some, if_true]
    rw [neg_eq h, Int.neg_neg, if_pos ha]
    simp only [Option.bind_some, if_true]
    exact signs_j0 ha hb
  · rw [if_neg h]
    simp only [Option.bind_some]
    rw [if_neg (by decide), if_pos (by unfold InR at *; omega)]
    exact signs_j0 ha hb
end Go.Proofs.YtlhpkapcehjolaaDoor.Pure
