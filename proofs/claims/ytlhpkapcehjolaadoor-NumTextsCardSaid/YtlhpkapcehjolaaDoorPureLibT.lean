import Derived.Test.YtlhpkapcehjolaaDoorGNumT1
import Derived.Test.YtlhpkapcehjolaaDoorGNumT2
namespace Go.Proofs.YtlhpkapcehjolaaDoor.Pure
open Go.RowKit Go.Proofs.YtlhpkapcehjolaaDoor.GNumT Go.Proofs.YtlhpkapcehjolaaDoor.Hand Go.Proofs.YtlhpkapcehjolaaDoorW.PrintWords Go.Proofs.YtlhpkapcehjolaaDoorW.PrintLast
/-- x is a number of 64 bits. -/
abbrev InR (x : Int) : Prop := -9223372036854775808 ≤ x ∧ x ≤ 9223372036854775807
theorem inR_of_wf {x : Int} (h : (Lit.int .i64 x).wf = true) : InR x := by
  simpa [Lit.wf, IntKind.min, IntKind.max, IntKind.signed, IntKind.bits, InR] using h
theorem wrap_in {x : Int} (h : InR x) : wrap64 x = x := by unfold InR at h; unfold wrap64; omega
theorem wrap_by (x : Int) : ∃ m, wrap64 x = x - 18446744073709551616 * m := ⟨(x + 9223372036854775808) / 18446744073709551616, by unfold wrap64; omega⟩
theorem wrap_inR (x : Int) : InR (wrap64 x) := by unfold InR wrap64; omega
theorem wrap_cases (x : Int) (h1 : -18446744073709551616 ≤ x) (h2 : x ≤ 18446744073709551615) :
    (x < -9223372036854775808 ∧ wrap64 x = x + 18446744073709551616) ∨ (InR x ∧ wrap64 x = x) ∨ (9223372036854775807 < x ∧ wrap64 x = x - 18446744073709551616) := by
  unfold InR wrap64; omega
theorem known_true : chancellaw2_known.f = some true := by decide +kernel
theorem add_eq {a b : Int} (ha : InR a) (hb : InR b) : num_Add.f a b = if InR (a + b) then some (a + b, 0) else some (0, 17) := by
  unfold num_Add.f
  have hw := wrap_cases (a + b) (by unfold InR at *; omega) (by unfold InR at *; omega)
  unfold InR at *
  rcases hw with ⟨h1, h2⟩ | ⟨h1, h2⟩ | ⟨h1, h2⟩ <;> rw [h2]
  · rw [if_neg (show ¬ b = 0 by omega), show (decide (a + b + 18446744073709551616 > a)) = true from decide_eq_true (by omega), show (decide (b > 0)) = false from decide_eq_false (by omega),
      if_neg (show ¬ ((true == false) = true) by decide), if_neg (show ¬ (-9223372036854775808 ≤ a + b ∧ a + b ≤ 9223372036854775807) by omega)]
  · rw [if_pos h1]
    split
    · rfl
    · rw [if_pos]
      by_cases hb0 : b > 0
      · rw [show (decide (a + b > a)) = true from decide_eq_true (by omega), show (decide (b > 0)) = true from decide_eq_true hb0]; rfl
      · rw [show (decide (a + b > a)) = false from decide_eq_false (by omega), show (decide (b > 0)) = false from decide_eq_false hb0]; rfl
  · rw [if_neg (show ¬ b = 0 by omega), show (decide (a + b - 18446744073709551616 > a)) = false from decide_eq_false (by omega), show (decide (b > 0)) = true from decide_eq_true (by omega),
      if_neg (show ¬ ((false == true) = true) by decide), if_neg (show ¬ (-9223372036854775808 ≤ a + b ∧ a + b ≤ 9223372036854775807) by omega)]
theorem sub_eq {a b : Int} (ha : InR a) (hb : InR b) : num_Sub.f a b = if InR (a - b) then some (a - b, 0) else some (0, 17) := by
  unfold num_Sub.f
  have hw := wrap_cases (a - b) (by unfold InR at *; omega) (by unfold InR at *; omega)
  unfold InR at *
  rcases hw with ⟨h1, h2⟩ | ⟨h1, h2⟩ | ⟨h1, h2⟩ <;> rw [h2]
  · rw [if_neg (show ¬ b = 0 by omega), show (decide (a - b + 18446744073709551616 < a)) = false from decide_eq_false (by omega), show (decide (b > 0)) = true from decide_eq_true (by omega),
      if_neg (show ¬ ((false == true) = true) by decide), if_neg (show ¬ (-9223372036854775808 ≤ a - b ∧ a - b ≤ 9223372036854775807) by omega)]
  · rw [if_pos h1]
    split
    · rfl
    · rw [if_pos]
      by_cases hb0 : b > 0
      · rw [show (decide (a - b < a)) = true from decide_eq_true (by omega), show (decide (b > 0)) = true from decide_eq_true hb0]; rfl
      · rw [show (decide (a - b < a)) = false from decide_eq_false (by omega), show (decide (b > 0)) = false from decide_eq_false hb0]; rfl
  · rw [if_neg (show ¬ b = 0 by omega), show (decide (a - b - 18446744073709551616 < a)) = true from decide_eq_true (by omega), show (decide (b > 0)) = false from decide_eq_false (by omega),
      if_neg (show ¬ ((true == false) = true) by decide), if_neg (show ¬ (-9223372036854775808 ≤ a - b ∧ a - b ≤ 9223372036854775807) by omega)]
theorem neg_eq {a : Int} (ha : InR a) : num_Neg.f a = if InR (-a) then some (-a, 0) else some (0, 17) := by
  unfold num_Neg.f
  rw [sub_eq (by unfold InR; omega) ha, Int.zero_sub]
  split <;> rfl
/-- The heart of a product's check. -/
theorem prod_check {a b : Int} (ha : InR a) (hb : InR b) (hb0 : b ≠ 0) (h1 : ¬ (a = -1 ∧ b = -9223372036854775808)) (h2 : ¬ (b = -1 ∧ a = -9223372036854775808)) :
    wrap64 (Int.tdiv (wrap64 (a * b)) b) = a ↔ InR (a * b) := by
  constructor
  · intro h
    by_cases hb1 : b = -1
    · subst hb1
      unfold InR at *
      omega
    · obtain ⟨m, hm⟩ := wrap_by (a * b)
      have hc := wrap_inR (a * b)
      generalize wrap64 (a * b) = c at h hm hc
      have hq : InR (Int.tdiv c b) := by
        have e : (Int.tdiv c b).natAbs = c.natAbs / b.natAbs := Int.natAbs_tdiv c b
        unfold InR at *
        by_cases hb2 : b.natAbs = 1
        · have : b = 1 := by omega
          subst this
          rw [Int.tdiv_one]
          exact hc
        · have : c.natAbs / b.natAbs ≤ c.natAbs / 2 := Nat.div_le_div_left (by omega) (by omega)
          omega
      rw [wrap_in hq] at h
      have e1 := Int.mul_tdiv_add_tmod c b
      have e2 : (Int.tmod c b).natAbs = c.natAbs % b.natAbs := Int.natAbs_tmod c b
      have e3 := Nat.mod_lt c.natAbs (show 0 < b.natAbs by omega)
      rw [h, Int.mul_comm b a] at e1
      have : m = 0 := by
        unfold InR at *
        omega
      subst this
      have : c = a * b := by omega
      rw [← this]
      exact hc
  · intro h
    rw [wrap_in h, Int.mul_tdiv_cancel _ hb0, wrap_in ha]
theorem mul_eq {a b : Int} (ha : InR a) (hb : InR b) (k : Nat) : num_Mul.f (k + 1) a b = if InR (a * b) then some (a * b, 0) else some (0, 17) := by
  unfold num_Mul.f
  by_cases ha0 : a = 0
  · subst ha0
    rw [if_pos rfl, if_pos (by unfold InR; omega)]
    simp only [num_Mul.j0, if_true, Int.zero_mul]
  · rw [if_neg ha0]
    by_cases hb0 : b = 0
    · subst hb0
      rw [if_pos (by unfold InR; omega)]
      simp only [num_Mul.j0, Int.mul_zero, beq_self_eq_true, if_true]
    · have hbf : (b == 0) = false := beq_eq_false_iff_ne.mpr hb0
      rw [hbf]
      simp only [num_Mul.j0, Bool.false_eq_true, if_false]
      by_cases h1 : a = -1 ∧ b = -9223372036854775808
      · obtain ⟨rfl, rfl⟩ := h1
        rw [if_pos rfl, if_pos rfl, if_neg (by unfold InR; omega)]
      · by_cases h2 : b = -1 ∧ a = -9223372036854775808
        · obtain ⟨rfl, rfl⟩ := h2
          rw [if_neg (by omega), if_pos rfl, if_pos rfl, if_neg (by unfold InR; omega)]
        · have hp := prod_check ha hb hb0 h1 h2
          have key : (if (wrap64 (Int.tdiv (wrap64 (a * b)) b)) = a then (some (wrap64 (a * b), (0 : Int))) else (some (0, 17))) = if InR (a * b) then some (a * b, 0) else some (0, 17) := by
            by_cases hr : InR (a * b)
            · rw [if_pos (hp.2 hr), if_pos hr, wrap_in hr]
            · rw [if_neg (fun h => hr (hp.1 h)), if_neg hr]
          rw [if_neg hb0, key]
          by_cases e1 : a = -1
          · rw [if_pos e1, if_neg (fun h => h1 ⟨e1, h⟩)]
            by_cases e2 : b = -1
            · rw [if_pos e2, if_neg (fun h => h2 ⟨e2, h⟩)]
            · rw [if_neg e2]
          · rw [if_neg e1]
            by_cases e2 : b = -1
            · rw [if_pos e2, if_neg (fun h => h2 ⟨e2, h⟩)]
            · rw [if_neg e2]
end Go.Proofs.YtlhpkapcehjolaaDoor.Pure
