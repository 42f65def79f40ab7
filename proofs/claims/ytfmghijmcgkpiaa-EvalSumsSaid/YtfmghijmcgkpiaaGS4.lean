-- Written by wip/tools/gprint.py over the kit's printer.
import Derived.Test.YtfmghijmcgkpiaaGS0
import Derived.Test.YtfmghijmcgkpiaaE14
import Derived.Test.YtfmghijmcgkpiaaE15
namespace Go.Proofs.Ytfmghijmcgkpiaa.GS
open Go.RowKit Go.Proofs.YtfmghijmcgkpiaaW.PrintWords Go.Proofs.YtfmghijmcgkpiaaW.PrintLast Go.Proofs.Ytfmghijmcgkpiaa.HandV Go.Proofs.YtfmghijmcgkpiaaW.PrintMore
attribute [local go_sem] max2_int min2_int max_two min_two max_three min_three max_four min_four   -- for this text's walks alone
set_option linter.unusedVariables false
set_option linter.unusedSimpArgs false

-- BREAK
/-! ### eval_Expr: function 41, given -/
/-- Over no entities: a tree's value. -/
def eval_Expr.f (l0 : List S46) (a1_0 a1_1 a1_2 a1_3 a1_4 a1_5 : ByteArray) (a2_0 : Int) (a2_1 : Bool) (a2_2 : Int) (a2_3 a2_4 a2_5 : ByteArray) (l2_6 : List S67) : Option (Int × Bool × Int × ByteArray × ByteArray × ByteArray × (List S31) × Int) :=
  match l0 with
  | [] => (match GE.evE 1000 a1_0 a1_1 a1_2 a1_3 a1_4 a1_5 50 ⟨a2_0, a2_1, a2_2, a2_3, ⟨a2_4, a2_5⟩, l2_6⟩ with
    | none => none
    | some (r, er) => some (r.f0, r.f1, r.f2, r.f3, r.f4.f0, r.f4.f1, r.f5, er))
  | _ :: _ => none
theorem eval_Expr.calls (A0 : Option Addr) (c0 : Nat) (l0 : List S46) (a1_0 : ByteArray) (a1_1 : ByteArray) (a1_2 : ByteArray) (a1_3 : ByteArray) (a1_4 : ByteArray) (a1_5 : ByteArray) (a2_0 : Int) (a2_1 : Bool) (a2_2 : Int) (a2_3 : ByteArray) (a2_4 : ByteArray) (a2_5 : ByteArray) (A2_6 : Option Addr) (c2_6 : Nat) (l2_6 : List S67) (r1 : Int) (r2 : Bool) (r3 : Int) (r4 : ByteArray) (r5 : ByteArray) (r6 : ByteArray) (r7 : List S31) (r8 : Int) (w : World) (hr0 : Kd.C k46 w A0 l0.length l0) (hc0 : l0.length ≤ c0) (hr2_6 : Kd.C k67 w A2_6 l2_6.length l2_6) (hc2_6 : l2_6.length ≤ c2_6) (h : eval_Expr.f l0 a1_0 a1_1 a1_2 a1_3 a1_4 a1_5 a2_0 a2_1 a2_2 a2_3 a2_4 a2_5 l2_6 = some (r1, r2, r3, r4, r5, r6, r7, r8)) :
    Calls Try.prog 41 #[.slice A0 l0.length c0, .agg #[.string a1_0, .string a1_1, .string a1_2, .string a1_3, .string a1_4, .string a1_5], .agg #[.int .i64 a2_0, .bool a2_1, .int .i64 a2_2, .string a2_3, .string a2_4, .string a2_5, .slice A2_6 l2_6.length c2_6]] w fun e w' => ∃ v6_ : Value, e = .returned (.tuple #[.agg #[.int .i64 r1, .bool r2, .int .i64 r3, .string r4, .string r5, .string r6, v6_], .int .i64 r8]) ∧ Kd.V k31 31 w' w.heap.size (fun k_ => w.heap.size ≤ k_) v6_ r7 ∧ Below w.heap.size w w' := by
  cases l0 with
  | cons e es => exact absurd h (by simp [eval_Expr.f])
  | nil =>
    simp only [eval_Expr.f] at h
    cases hv : GE.evE 1000 a1_0 a1_1 a1_2 a1_3 a1_4 a1_5 50 ⟨a2_0, a2_1, a2_2, a2_3, ⟨a2_4, a2_5⟩, l2_6⟩ with
    | none => rw [hv] at h; exact absurd h (by simp)
    | some q =>
      obtain ⟨r, er⟩ := q
      rw [hv] at h
      simp only [Option.some.injEq, Prod.mk.injEq] at h
      obtain ⟨rfl, rfl, rfl, rfl, rfl, rfl, rfl, rfl⟩ := h
      exact GE.Expr_ok a1_0 a1_1 a1_2 a1_3 a1_4 a1_5 ⟨a2_0, a2_1, a2_2, a2_3, ⟨a2_4, a2_5⟩, l2_6⟩ r er (GE.evE_ok 1000 a1_0 a1_1 a1_2 a1_3 a1_4 a1_5 50 _ r er hv) A0 c0 A2_6 c2_6 w hc2_6 hr2_6

/-! ### chancellaw13_known: function 39, given -/
def chancellaw13_known.f : Option (Bool) := some true
theorem chancellaw13_known.calls (r : Bool) (w : World) (h : chancellaw13_known.f = some r) :
    Calls Try.prog 39 #[] w fun e w' => e = .returned (.bool r) ∧ Below w.heap.size w w' := by
  cases h
  exact GE.known13_calls w

/-! ### chancellaw13_within: function 40 -/
def chancellaw13_within.f (a0 : Int) (a1 : Int) : Option (Int) := if a1 = 0 then (none) else (if (Int.tmod a0 a1) < 0 then (some (wrap64 ((Int.tmod a0 a1) + a1))) else (some (Int.tmod a0 a1)))
set_option maxHeartbeats 8000000 in
set_option maxRecDepth 100000 in
theorem chancellaw13_within.calls (a0 : Int) (a1 : Int) (r : Int) (w : World) (h : chancellaw13_within.f a0 a1 = some r) :
    Calls Try.prog 40 #[.int .i64 a0, .int .i64 a1] w fun e w' => e = .returned (.int .i64 r) ∧ Drawn0 w w' := by
  have H : (if a1 = 0 then (none) else (if (Int.tmod a0 a1) < 0 then (some (wrap64 ((Int.tmod a0 a1) + a1))) else (some (Int.tmod a0 a1)))) = some r := h
  clear h
  by_cases c3 : a1 = 0
  · rw [if_pos c3] at H
    exact absurd H (by simp)
  · rw [if_neg c3] at H
    have c3b0 : (a1 == 0) = false := beq_eq_false_iff_ne.mpr c3
    have c3b1 : (a1 != 0) = true := bne_iff_ne.mpr c3
    by_cases c4 : (Int.tmod a0 a1) < 0
    · rw [if_pos c4] at H
      have c4b0 : decide ((Int.tmod a0 a1) < 0) = true := decide_eq_true c4
      clear c4
      obtain rfl := Option.some.inj H
      go_enter Try.func40, Try.ntmps40
      go_wp2
      go_ret
      exact ⟨by first | rfl | (simp; done) | (simp [*]; done), by repeat (first | exact Drawn0.refl _ | apply Drawn0.step)⟩
    · rw [if_neg c4] at H
      have c4b0 : decide ((Int.tmod a0 a1) < 0) = false := decide_eq_false c4
      clear c4
      obtain rfl := Option.some.inj H
      go_enter Try.func40, Try.ntmps40
      go_wp2
      go_ret
      exact ⟨by first | rfl | (simp; done) | (simp [*]; done), by repeat (first | exact Drawn0.refl _ | apply Drawn0.step)⟩

-- NOT PRINTED: function 8 (chancellaw13_EvalSums)

end Go.Proofs.Ytfmghijmcgkpiaa.GS
