import Derived.Test.YtlhpkapcehjolaaDoorPureLib
namespace Go.Proofs.YtlhpkapcehjolaaDoor.Pure
open Go.RowKit Go.Proofs.YtlhpkapcehjolaaDoor.GNum Go.Proofs.YtlhpkapcehjolaaDoorW.PrintWords Go.Proofs.YtlhpkapcehjolaaDoorW.PrintLast
theorem within_some (a : Int) : ∃ r, chancellaw2_within.f a 2147483648 = some r ∧ 0 ≤ r ∧ r < 2147483648 := by
  unfold chancellaw2_within.f
  rw [if_neg (by decide)]
  have e : (Int.tmod a 2147483648).natAbs = a.natAbs % 2147483648 := Int.natAbs_tmod a 2147483648
  split
  · exact ⟨_, rfl, by rw [wrap_in (by unfold InR; omega)]; omega, by rw [wrap_in (by unfold InR; omega)]; omega⟩
  · exact ⟨_, rfl, by omega, by omega⟩
theorem prod_small {a b : Int} (h1 : -1073741824 ≤ a) (h2 : a < 1073741824) (h3 : -1073741824 ≤ b) (h4 : b < 1073741824) : InR (a * b) := by
  have : (a * b).natAbs = a.natAbs * b.natAbs := Int.natAbs_mul a b
  have : a.natAbs * b.natAbs ≤ 1073741824 * 1073741824 := Nat.mul_le_mul (by omega) (by omega)
  unfold InR
  omega
theorem NumSmall : chancellaw2_NumSmall.Pure := by
  intro a b hw hv
  refine ⟨1, ?_⟩
  unfold chancellaw2_NumSmall.f
  obtain ⟨x, hx, x0, x1⟩ := within_some a
  obtain ⟨y, hy, y0, y1⟩ := within_some b
  rw [known_true, hx, hy]
  simp only [Option.bind_some, if_true]
  rw [wrap_in (x := x - 1073741824) (by unfold InR; omega), wrap_in (x := y - 1073741824) (by unfold InR; omega)]
  have hp := prod_small (a := x - 1073741824) (b := y - 1073741824) (by omega) (by omega) (by omega) (by omega)
  have hs : InR (x - 1073741824 + (y - 1073741824)) := by unfold InR; omega
  have hd : InR (x - 1073741824 - (y - 1073741824)) := by unfold InR; omega
  rw [add_eq (by unfold InR; omega) (by unfold InR; omega), sub_eq (by unfold InR; omega) (by unfold InR; omega), mul_eq (by unfold InR; omega) (by unfold InR; omega), if_pos hp, if_pos hs, if_pos hd, wrap_in hp, wrap_in hs, wrap_in hd]
  simp
end Go.Proofs.YtlhpkapcehjolaaDoor.Pure
