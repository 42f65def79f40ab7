import Derived.Test.YtlhpkapcehjolaaDoorPureLib
namespace Go.Proofs.YtlhpkapcehjolaaDoor.Pure
open Go.RowKit Go.Proofs.YtlhpkapcehjolaaDoor.GNum Go.Proofs.YtlhpkapcehjolaaDoorW.PrintWords Go.Proofs.YtlhpkapcehjolaaDoorW.PrintLast
theorem ref_mul (k : Nat) (a b : Int) : chancelref2_Mul.f k a b = num_Mul.f k a b := by
  unfold chancelref2_Mul.f num_Mul.f
  have e : ∀ x, chancelref2_Mul.j0 k a b x = num_Mul.j0 k a b x := by
    intro x
    cases k <;> simp only [chancelref2_Mul.j0, num_Mul.j0]
  rw [e, e]
theorem ref_add {a b : Int} (ha : InR a) (hb : InR b) : chancelref2_Add.f a b = if InR (a + b) then some (a + b, 0) else some (0, 17) := by
  unfold chancelref2_Add.f
  have hr := ha
  have hs := hb
  unfold InR at hr hs
  by_cases h : InR (a + b)
  · rw [if_pos h, wrap_in h]
    unfold InR at h
    by_cases h1 : b > 0
    · rw [if_pos h1, wrap_in (by unfold InR; omega), if_neg (by omega), if_neg (by omega)]
    · rw [if_neg h1]
      by_cases h2 : b < 0
      · rw [if_pos h2, wrap_in (by unfold InR; omega), if_neg (by omega)]
      · rw [if_neg h2]
  · rw [if_neg h]
    unfold InR at h
    by_cases h1 : b > 0
    · rw [if_pos h1, wrap_in (by unfold InR; omega), if_pos (by omega)]
    · rw [if_neg h1, if_pos (by omega), wrap_in (by unfold InR; omega), if_pos (by omega)]
theorem ref_sub {a b : Int} (ha : InR a) (hb : InR b) : chancelref2_Sub.f a b = if InR (a - b) then some (a - b, 0) else some (0, 17) := by
  unfold chancelref2_Sub.f
  have hr := ha
  have hs := hb
  unfold InR at hr hs
  by_cases h : InR (a - b)
  · rw [if_pos h, wrap_in h]
    unfold InR at h
    by_cases h1 : b < 0
    · rw [if_pos h1, wrap_in (by unfold InR; omega), if_neg (by omega), if_neg (by omega)]
    · rw [if_neg h1]
      by_cases h2 : b > 0
      · rw [if_pos h2, wrap_in (by unfold InR; omega), if_neg (by omega)]
      · rw [if_neg h2]
  · rw [if_neg h]
    unfold InR at h
    by_cases h1 : b < 0
    · rw [if_pos h1, wrap_in (by unfold InR; omega), if_pos (by omega)]
    · rw [if_neg h1, if_pos (by omega), wrap_in (by unfold InR; omega), if_pos (by omega)]
theorem ref_neg {a : Int} (ha : InR a) : chancelref2_Neg.f a = if InR (-a) then some (-a, 0) else some (0, 17) := by
  unfold chancelref2_Neg.f
  have hr := ha
  unfold InR at hr
  by_cases h : a = -9223372036854775808
  · rw [if_pos h, if_neg (by unfold InR; omega)]
  · rw [if_neg h, if_pos (by unfold InR; omega), wrap_in (by unfold InR; omega)]
theorem fin_some {r : Int × Int} : ∃ x, (if InR r.1 then some (r.1, 0) else some (0, (17 : Int))) = some x := by split <;> exact ⟨_, rfl⟩
theorem NumAsks : chancellaw2_NumAsks.Pure := by
  intro a b hw hv
  have ha := inR_of_wf hw
  have hb := inR_of_wf hv
  refine ⟨1, ?_⟩
  unfold chancellaw2_NumAsks.f
  rw [known_true, ref_mul, ref_add ha hb, add_eq ha hb, ref_sub ha hb, sub_eq ha hb, ref_neg ha, neg_eq ha, mul_eq ha hb 0]
  simp only [Option.bind_some, if_true]
  obtain ⟨x, hx⟩ : ∃ x, (if InR (a + b) then some (a + b, 0) else some (0, (17 : Int))) = some x := by split <;> exact ⟨_, rfl⟩
  obtain ⟨y, hy⟩ : ∃ x, (if InR (a - b) then some (a - b, 0) else some (0, (17 : Int))) = some x := by split <;> exact ⟨_, rfl⟩
  obtain ⟨z, hz⟩ : ∃ x, (if InR (a * b) then some (a * b, 0) else some (0, (17 : Int))) = some x := by split <;> exact ⟨_, rfl⟩
  obtain ⟨u, hu⟩ : ∃ x, (if InR (-a) then some (-a, 0) else some (0, (17 : Int))) = some x := by split <;> exact ⟨_, rfl⟩
  rw [hx, hy, hz, hu]
  simp
end Go.Proofs.YtlhpkapcehjolaaDoor.Pure
