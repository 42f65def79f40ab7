import Derived.Test.YtlhpkapcehjolaaDoorPureLib
namespace Go.Proofs.YtlhpkapcehjolaaDoor.Pure
open Go.RowKit Go.Proofs.YtlhpkapcehjolaaDoor.GNum Go.Proofs.YtlhpkapcehjolaaDoorW.PrintWords Go.Proofs.YtlhpkapcehjolaaDoorW.PrintLast
theorem back_fin {a b : Int} (ha : InR a) (hb : InR b) (k : Nat) : ((num_Mul.f (k + 1) a b).bind fun bt145 => ((num_Mul.f (k + 1) b a).bind fun bt147 => (if bt145.1 = bt147.1 then (if bt145.2 = bt147.2 then (if bt145.2 = 0 then (if b = 0 then (some true) else (if (Int.tmod bt145.1 b) = 0 then (some ((wrap64 (Int.tdiv bt145.1 b)) == a)) else (some false))) else (some true)) else (some false)) else (some false)))) = some true := by
  rw [mul_eq ha hb, mul_eq hb ha, Int.mul_comm b a]
  by_cases h : InR (a * b)
  · rw [if_pos h]
    simp only [Option.bind_some, if_true]
    by_cases hb0 : b = 0
    · rw [if_pos hb0]
    · rw [if_neg hb0, if_pos (Int.mul_tmod_left a b), Int.mul_tdiv_cancel _ hb0, wrap_in ha]
      simp
  · rw [if_neg h]
    simp
theorem back_j0 {a b : Int} (ha : InR a) (hb : InR b) : chancellaw2_NumBack.j0 3 a b = some true := by
  simp only [chancellaw2_NumBack.j0]
  rw [sub_eq ha hb]
  by_cases h : InR (a - b)
  · rw [if_pos h]
    simp only [Option.bind_some, if_true]
    rw [add_eq h hb, Int.sub_add_cancel, if_pos ha]
    simp only [Option.bind_some, if_true, bne_self_eq_false, chancellaw2_NumBack.j1, Bool.false_eq_true, if_false]
    exact back_fin ha hb 0
  · rw [if_neg h]
    simp only [Option.bind_some]
    rw [if_neg (by decide)]
    exact back_fin ha hb 1
theorem NumBack : chancellaw2_NumBack.Pure := by
  intro a b hw hv
  have ha := inR_of_wf hw
  have hb := inR_of_wf hv
  refine ⟨3, ?_⟩
  unfold chancellaw2_NumBack.f
  rw [known_true, add_eq ha hb]
  simp only [Option.bind_some, if_true]
  by_cases h : InR (a + b)
  · rw [if_pos h]
    simp only [Option.bind_some, if_true]
    rw [sub_eq h hb, Int.add_sub_cancel, if_pos ha]
    simp only [Option.bind_some, if_true]
    exact back_j0 ha hb
  · rw [if_neg h]
    simp only [Option.bind_some]
    rw [if_neg (by decide)]
    exact back_j0 ha hb
end Go.Proofs.YtlhpkapcehjolaaDoor.Pure
