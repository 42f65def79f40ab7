import Derived.Test.YtfmghijmcgkpiaaGS0
import Derived.Test.YtfmghijmcgkpiaaE17
import Derived.Test.YtfmghijmcgkpiaaGS3
import Derived.Test.YtfmghijmcgkpiaaGS2
namespace Go.Proofs.Ytfmghijmcgkpiaa.GE
open Go.RowKit Go.Proofs.YtfmghijmcgkpiaaW.PrintWords Go.Proofs.YtfmghijmcgkpiaaW.PrintLast Go.Proofs.Ytfmghijmcgkpiaa.HandV Go.Proofs.YtfmghijmcgkpiaaW.PrintMore
open Go.Proofs.Ytfmghijmcgkpiaa.GS
attribute [local go_sem] max2_int min2_int max_two min_two max_three min_three max_four min_four   -- for this text's walks alone
set_option linter.unusedVariables false
set_option linter.unusedSimpArgs false
-- IMPORT .E17
-- FN num_Mul
-- FN chancelref3_Same
-- FN num_Add
-- FN num_Sub
/-- x is a number of 64 bits. -/
abbrev InR (x : Int) : Prop := -9223372036854775808 ≤ x ∧ x ≤ 9223372036854775807
theorem inR_of_wf {x : Int} (h : (Lit.int .i64 x).wf = true) : InR x := by
  simpa [Lit.wf, IntKind.min, IntKind.max, IntKind.signed, IntKind.bits, InR] using h
theorem wrap_in {x : Int} (h : InR x) : wrap64 x = x := by unfold InR at h; unfold wrap64; omega
theorem wrap_by (x : Int) : ∃ m, wrap64 x = x - 18446744073709551616 * m := ⟨(x + 9223372036854775808) / 18446744073709551616, by unfold wrap64; omega⟩
theorem wrap_inR (x : Int) : InR (wrap64 x) := by unfold InR wrap64; omega
theorem wrap_cases (x : Int) (h1 : -18446744073709551616 ≤ x) (h2 : x ≤ 18446744073709551615) :
    (x < -9223372036854775808 ∧ wrap64 x = x + 18446744073709551616) ∨ (InR x ∧ wrap64 x = x) ∨ (9223372036854775807 < x ∧ wrap64 x = x - 18446744073709551616) := by
  unfold InR wrap64; omega
theorem add_eq {a b : Int} (ha : InR a) (hb : InR b) : num_Add.f a b = if InR (a + b) then some (a + b, 0) else some (0, 17) := by
  unfold num_Add.f
  have hw := wrap_cases (a + b) (by unfold InR at *; omega) (by unfold InR at *; omega)
  unfold InR at *
  rcases hw with ⟨h1, h2⟩ | ⟨h1, h2⟩ | ⟨h1, h2⟩ <;> rw [h2]
  · rw [if_neg (show ¬ b = 0 by omega), show (decide (a + b + 18446744073709551616 > a)) = true from decide_eq_true (by omega), show (decide (b > 0)) = false from decide_eq_false (by omega),
      if_neg (show ¬ ((true == false) = true) by decide), if_neg (show ¬ (-9223372036854775808 ≤ a + b ∧ a + b ≤ 9223372036854775807) by omega)]
  · rw [if_pos h1]
    split
    · rfl
    · rw [if_pos]
      by_cases hb0 : b > 0
      · rw [show (decide (a + b > a)) = true from decide_eq_true (by omega), show (decide (b > 0)) = true from decide_eq_true hb0]; rfl
      · rw [show (decide (a + b > a)) = false from decide_eq_false (by omega), show (decide (b > 0)) = false from decide_eq_false hb0]; rfl
  · rw [if_neg (show ¬ b = 0 by omega), show (decide (a + b - 18446744073709551616 > a)) = false from decide_eq_false (by omega), show (decide (b > 0)) = true from decide_eq_true (by omega),
      if_neg (show ¬ ((false == true) = true) by decide), if_neg (show ¬ (-9223372036854775808 ≤ a + b ∧ a + b ≤ 9223372036854775807) by omega)]
theorem sub_eq {a b : Int} (ha : InR a) (hb : InR b) : num_Sub.f a b = if InR (a - b) then some (a - b, 0) else some (0, 17) := by
  unfold num_Sub.f
  have hw := wrap_cases (a - b) (by unfold InR at *; omega) (by unfold InR at *; omega)
  unfold InR at *
  rcases hw with ⟨h1, h2⟩ | ⟨h1, h2⟩ | ⟨h1, h2⟩ <;> rw [h2]
  · rw [if_neg (show ¬ b = 0 by omega), show (decide (a - b + 18446744073709551616 < a)) = false from decide_eq_false (by omega), show (decide (b > 0)) = true from decide_eq_true (by omega),
      if_neg (show ¬ ((false == true) = true) by decide), if_neg (show ¬ (-9223372036854775808 ≤ a - b ∧ a - b ≤ 9223372036854775807) by omega)]
  · rw [if_pos h1]
    split
    · rfl
    · rw [if_pos]
      by_cases hb0 : b > 0
      · rw [show (decide (a - b < a)) = true from decide_eq_true (by omega), show (decide (b > 0)) = true from decide_eq_true hb0]; rfl
      · rw [show (decide (a - b < a)) = false from decide_eq_false (by omega), show (decide (b > 0)) = false from decide_eq_false hb0]; rfl
  · rw [if_neg (show ¬ b = 0 by omega), show (decide (a - b - 18446744073709551616 < a)) = true from decide_eq_true (by omega), show (decide (b > 0)) = false from decide_eq_false (by omega),
      if_neg (show ¬ ((true == false) = true) by decide), if_neg (show ¬ (-9223372036854775808 ≤ a - b ∧ a - b ≤ 9223372036854775807) by omega)]
/-- The heart of a product's check. -/
theorem prod_check {a b : Int} (ha : InR a) (hb : InR b) (hb0 : b ≠ 0) (h1 : ¬ (a = -1 ∧ b = -9223372036854775808)) (h2 : ¬ (b = -1 ∧ a = -9223372036854775808)) :
    wrap64 (Int.tdiv (wrap64 (a * b)) b) = a ↔ InR (a * b) := by
  constructor
  · intro h
    by_cases hb1 : b = -1
    · subst hb1
      unfold InR at *
      omega
    · obtain ⟨m, hm⟩ := wrap_by (a * b)
      have hc := wrap_inR (a * b)
      generalize wrap64 (a * b) = c at h hm hc
      have hq : InR (Int.tdiv c b) := by
        have e : (Int.tdiv c b).natAbs = c.natAbs / b.natAbs := Int.natAbs_tdiv c b
        unfold InR at *
        by_cases hb2 : b.natAbs = 1
        · have : b = 1 := by omega
          subst this
          rw [Int.tdiv_one]
          exact hc
        · have : c.natAbs / b.natAbs ≤ c.natAbs / 2 := Nat.div_le_div_left (by omega) (by omega)
          omega
      rw [wrap_in hq] at h
      have e1 := Int.mul_tdiv_add_tmod c b
      have e2 : (Int.tmod c b).natAbs = c.natAbs % b.natAbs := Int.natAbs_tmod c b
      have e3 := Nat.mod_lt c.natAbs (show 0 < b.natAbs by omega)
      rw [h, Int.mul_comm b a] at e1
      have : m = 0 := by
        unfold InR at *
        omega
      subst this
      have : c = a * b := by omega
      rw [← this]
      exact hc
  · intro h
    rw [wrap_in h, Int.mul_tdiv_cancel _ hb0, wrap_in ha]
theorem mul_eq {a b : Int} (ha : InR a) (hb : InR b) (k : Nat) : num_Mul.f (k + 1) a b = if InR (a * b) then some (a * b, 0) else some (0, 17) := by
  unfold num_Mul.f
  by_cases ha0 : a = 0
  · subst ha0
    rw [if_pos rfl, if_pos (by unfold InR; omega)]
    simp only [num_Mul.j0, if_true, Int.zero_mul]
  · rw [if_neg ha0]
    by_cases hb0 : b = 0
    · subst hb0
      rw [if_pos (by unfold InR; omega)]
      simp only [num_Mul.j0, Int.mul_zero, beq_self_eq_true, if_true]
    · have hbf : (b == 0) = false := beq_eq_false_iff_ne.mpr hb0
      rw [hbf]
      simp only [num_Mul.j0, Bool.false_eq_true, if_false]
      by_cases h1 : a = -1 ∧ b = -9223372036854775808
      · obtain ⟨rfl, rfl⟩ := h1
        rw [if_pos rfl, if_pos rfl, if_neg (by unfold InR; omega)]
      · by_cases h2 : b = -1 ∧ a = -9223372036854775808
        · obtain ⟨rfl, rfl⟩ := h2
          rw [if_neg (by omega), if_pos rfl, if_pos rfl, if_neg (by unfold InR; omega)]
        · have hp := prod_check ha hb hb0 h1 h2
          have key : (if (wrap64 (Int.tdiv (wrap64 (a * b)) b)) = a then (some (wrap64 (a * b), (0 : Int))) else (some (0, 17))) = if InR (a * b) then some (a * b, 0) else some (0, 17) := by
            by_cases hr : InR (a * b)
            · rw [if_pos (hp.2 hr), if_pos hr, wrap_in hr]
            · rw [if_neg (fun h => hr (hp.1 h)), if_neg hr]
          rw [if_neg hb0, key]
          by_cases e1 : a = -1
          · rw [if_pos e1, if_neg (fun h => h1 ⟨e1, h⟩)]
            by_cases e2 : b = -1
            · rw [if_pos e2, if_neg (fun h => h2 ⟨e2, h⟩)]
            · rw [if_neg e2]
          · rw [if_neg e1]
            by_cases e2 : b = -1
            · rw [if_pos e2, if_neg (fun h => h2 ⟨e2, h⟩)]
            · rw [if_neg e2]

/-- Where a product of two that are not negative leaves the range, the law's own test says so; where it does not, it does not. -/
theorem over_mul (a b : Int) (ha : 0 ≤ a) (hb : 0 ≤ b) :
    (a ≠ 0 ∧ b ≠ 0 ∧ (Int.tdiv (wrap64 (a * b)) b ≠ a ∨ wrap64 (a * b) < 0)) ↔ 9223372036854775807 < a * b := by
  have hp : 0 ≤ a * b := Int.mul_nonneg ha hb
  constructor
  · intro ⟨h1, h2, h3⟩
    apply Classical.byContradiction
    intro hn
    have hw : wrap64 (a * b) = a * b := by unfold wrap64; omega
    rw [hw] at h3
    rcases h3 with h3 | h3
    · exact h3 (Int.mul_tdiv_cancel a h2)
    · omega
  · intro h
    have h1 : a ≠ 0 := fun h0 => by rw [h0, Int.zero_mul] at h; omega
    have h2 : b ≠ 0 := fun h0 => by rw [h0, Int.mul_zero] at h; omega
    refine ⟨h1, h2, Classical.byContradiction fun hn => ?_⟩
    simp only [not_or, Decidable.not_not] at hn
    obtain ⟨h3, h4⟩ := hn
    have h5 : 0 ≤ wrap64 (a * b) := by omega
    have h6 : wrap64 (a * b) ≤ 9223372036854775807 := by unfold wrap64; omega
    have h7 := Int.tmod_add_mul_tdiv (wrap64 (a * b)) b
    have h8 : 0 ≤ Int.tmod (wrap64 (a * b)) b := Int.tmod_nonneg b h5
    rw [h3] at h7
    rw [Int.mul_comm b a] at h7
    omega
theorem over_add (a b : Int) (ha : 0 ≤ a) (hb : 0 ≤ b) (ha2 : a ≤ 9223372036854775807) (hb2 : b ≤ 9223372036854775807) : wrap64 (a + b) < 0 ↔ 9223372036854775807 < a + b := by
  unfold wrap64; omega

/-- What the law wants of two numbers. -/
def sWant (o a b : Int) : Int := if o = 0 then wrap64 (a * b) else if o = 1 then wrap64 (a + b) else wrap64 (a - b)
/-- What it says is beyond the bounds. -/
def sOver (o a b : Int) : Bool := if o = 0 then decide (9223372036854775807 < a * b) else if o = 1 then decide (9223372036854775807 < a + b) else false
theorem sum_num (o a b : Int) (h0 : 0 ≤ o) (h2 : o < 3) (ha : 0 ≤ a) (hb : 0 ≤ b) (ha2 : a ≤ 9223372036854775807) (hb2 : b ≤ 9223372036854775807) : numF 1000 (13 + o) a b = if sOver o a b = true then some (zV, 17) else some (nuV (sWant o a b), 0) := by
  have iA : InR a := by unfold InR; omega
  have iB : InR b := by unfold InR; omega
  unfold numF sOver sWant
  have hp : 0 ≤ a * b := Int.mul_nonneg ha hb
  have : o = 0 ∨ o = 1 ∨ o = 2 := by omega
  rcases this with rfl | rfl | rfl
  · show resF (num_Mul.f 1000 a b) = if decide (9223372036854775807 < a * b) = true then some (zV, 17) else some (nuV (wrap64 (a * b)), 0)
    rw [mul_eq iA iB 999]
    by_cases h : 9223372036854775807 < a * b
    · rw [if_neg (by unfold InR; omega), decide_eq_true h, if_pos rfl]; rfl
    · rw [if_pos (by unfold InR; omega), decide_eq_false h, if_neg (by decide), wrap_in (by unfold InR; omega)]; rfl
  · show resF (num_Add.f a b) = if decide (9223372036854775807 < a + b) = true then some (zV, 17) else some (nuV (wrap64 (a + b)), 0)
    rw [add_eq iA iB]
    by_cases h : 9223372036854775807 < a + b
    · rw [if_neg (by unfold InR; omega), decide_eq_true h, if_pos rfl]; rfl
    · rw [if_pos (by unfold InR; omega), decide_eq_false h, if_neg (by decide), wrap_in (by unfold InR; omega)]; rfl
  · show resF (num_Sub.f a b) = if false = true then some (zV, 17) else some (nuV (wrap64 (a - b)), 0)
    rw [sub_eq iA iB, if_pos (by unfold InR; omega), if_neg (by decide), wrap_in (by unfold InR; omega)]; rfl
/-- The law's tree, wrapped so often. -/
def wrapN : Nat → S67 → S67
  | 0, e => e
  | n + 1, e => wrapT (wrapN n e)
abbrev sumT (o a b : Int) : S67 := ⟨13 + o, false, 0, ⟨#[]⟩, ⟨⟨#[]⟩, ⟨#[]⟩⟩, [leafN a, leafN b]⟩
theorem sum_first (o a b : Int) (h0 : 0 ≤ o) (h2 : o < 3) (ha : 0 ≤ a) (hb : 0 ≤ b) (ha2 : a ≤ 9223372036854775807) (hb2 : b ≤ 9223372036854775807) (k : Nat) : evE 1000 ⟨#[]⟩ ⟨#[]⟩ ⟨#[]⟩ ⟨#[]⟩ ⟨#[]⟩ ⟨#[]⟩ (k + 2) (sumT o a b) = if sOver o a b = true then some (zV, 17) else some (nuV (sWant o a b), 0) := by
  rw [← sum_num o a b h0 h2 ha hb ha2 hb2]
  exact sum_tree 1000 (13 + o) a b (by omega) (by omega) k
theorem sum_wrapped_err (o a b : Int) (h0 : 0 ≤ o) (h2 : o < 3) (ha : 0 ≤ a) (hb : 0 ≤ b) (ha2 : a ≤ 9223372036854775807) (hb2 : b ≤ 9223372036854775807) (ho : sOver o a b = true) : ∀ n : Nat, evE 1000 ⟨#[]⟩ ⟨#[]⟩ ⟨#[]⟩ ⟨#[]⟩ ⟨#[]⟩ ⟨#[]⟩ (3 * n + 2) (wrapN n (sumT o a b)) = some (zV, 17)
  | 0 => by rw [show 3 * 0 + 2 = 0 + 2 from rfl]; exact (sum_first o a b h0 h2 ha hb ha2 hb2 0).trans (if_pos ho)
  | n + 1 => by
    rw [show 3 * (n + 1) + 2 = (3 * n + 1) + 4 by omega]
    exact wrap_err 1000 _ zV 17 (by decide) (3 * n + 1) (sum_wrapped_err o a b h0 h2 ha hb ha2 hb2 ho n)
theorem sum_wrapped_ok (o a b : Int) (h0 : 0 ≤ o) (h2 : o < 3) (ha : 0 ≤ a) (hb : 0 ≤ b) (ha2 : a ≤ 9223372036854775807) (hb2 : b ≤ 9223372036854775807) (ho : sOver o a b = false) : ∀ n : Nat, evE 1000 ⟨#[]⟩ ⟨#[]⟩ ⟨#[]⟩ ⟨#[]⟩ ⟨#[]⟩ ⟨#[]⟩ (3 * n + 2) (wrapN n (sumT o a b)) = some (nuV (if n = 0 then sWant o a b else 3), 0)
  | 0 => by rw [show 3 * 0 + 2 = 0 + 2 from rfl]; exact (sum_first o a b h0 h2 ha hb ha2 hb2 0).trans (if_neg (by rw [ho]; decide))
  | n + 1 => by
    rw [show 3 * (n + 1) + 2 = (3 * n + 1) + 4 by omega, if_neg (by omega)]
    exact wrap_ok 1000 _ _ (3 * n + 1) (sum_wrapped_ok o a b h0 h2 ha hb ha2 hb2 ho n)
theorem TreeC.exprN {w : World} {g : Nat} {e : S67} {A : Option Addr} {c : Nat} (h : TreeC w g e A c) (q : Int) (k : Nat) (he : evE 1000 ⟨#[]⟩ ⟨#[]⟩ ⟨#[]⟩ ⟨#[]⟩ ⟨#[]⟩ ⟨#[]⟩ k e = some (nuV q, 0)) :
    Calls Try.prog 41 #[.slice none 0 0, .agg #[.string ⟨#[]⟩, .string ⟨#[]⟩, .string ⟨#[]⟩, .string ⟨#[]⟩, .string ⟨#[]⟩, .string ⟨#[]⟩], .agg #[.int .i64 e.f0, .bool e.f1, .int .i64 e.f2, .string e.f3, .string e.f4.f0, .string e.f4.f1, .slice A e.f5.length c]] w fun x w' => ∃ A6 c6, x = .returned (.tuple #[.agg #[.int .i64 2, .bool false, .int .i64 q, .string ⟨#[]⟩, .string ⟨#[]⟩, .string ⟨#[]⟩, .slice A6 0 c6], .int .i64 0]) ∧ Below w.heap.size w w' :=
  (h.expr (nuV q) 0 k he).mono (fun x w' hx => by obtain ⟨A6, c6, h1, _, _, hb⟩ := hx; exact ⟨A6, c6, h1, hb⟩)
theorem TreeC.exprE {w : World} {g : Nat} {e : S67} {A : Option Addr} {c : Nat} (h : TreeC w g e A c) (er : Int) (k : Nat) (he : evE 1000 ⟨#[]⟩ ⟨#[]⟩ ⟨#[]⟩ ⟨#[]⟩ ⟨#[]⟩ ⟨#[]⟩ k e = some (zV, er)) :
    Calls Try.prog 41 #[.slice none 0 0, .agg #[.string ⟨#[]⟩, .string ⟨#[]⟩, .string ⟨#[]⟩, .string ⟨#[]⟩, .string ⟨#[]⟩, .string ⟨#[]⟩], .agg #[.int .i64 e.f0, .bool e.f1, .int .i64 e.f2, .string e.f3, .string e.f4.f0, .string e.f4.f1, .slice A e.f5.length c]] w fun x w' => ∃ A6 c6, x = .returned (.tuple #[.agg #[.int .i64 0, .bool false, .int .i64 0, .string ⟨#[]⟩, .string ⟨#[]⟩, .string ⟨#[]⟩, .slice A6 0 c6], .int .i64 er]) ∧ Below w.heap.size w w' :=
  (h.expr zV er k he).mono (fun x w' hx => by obtain ⟨A6, c6, h1, _, _, hb⟩ := hx; exact ⟨A6, c6, h1, hb⟩)
theorem TreeC.drewN {w : World} {g : Nat} {e : S67} {A : Option Addr} {c : Nat} (h : TreeC w g e A c) (n : Nat) : TreeC (w.drewN n) g e A c := ⟨blk_drewN h.cells n, h.le, Kd.F_drewN h.foot n⟩
theorem TreeC.alloc {w : World} {g : Nat} {e : S67} {A : Option Addr} {c : Nat} (h : TreeC w g e A c) (o : Obj) : TreeC (w.alloc o) g e A c := ⟨blk_alloc h.cells _, h.le, Kd.F_alloc h.foot _⟩
theorem TreeC.wrapA {w : World} {g h1 : Nat} {e : S67} {A : Option Addr} {c : Nat} (h : TreeC w g e A c) (hn : h1 ≠ g) (hh : w.heap[h1]? = some (.cells #[.int .i64 2, .bool false, .int .i64 1, .string ⟨#[]⟩, .string ⟨#[]⟩, .string ⟨#[]⟩, .slice none 0 0, .int .i64 e.f0, .bool e.f1, .int .i64 e.f2, .string e.f3, .string e.f4.f0, .string e.f4.f1, .slice A e.f5.length c] 67 (0, 0))) :
    TreeC (set7 w g (.int .i64 6) (.bool false) (.int .i64 0) (.string ⟨#[]⟩) (.string ⟨#[]⟩) (.string ⟨#[]⟩) (.slice (some ⟨h1, 0, none⟩) 2 2)) g ⟨6, false, 0, ⟨#[]⟩, ⟨⟨#[]⟩, ⟨#[]⟩⟩, [leafN 1, e]⟩ (some ⟨h1, 0, none⟩) 2 :=
  ⟨set7_heap h.cells _ _ _ _ _ _ _, Nat.le_refl _, set7_F (row2F (ok := fun q => q ≠ g) (leafN 1) e (A0 := none) (c0 := 0) hn hh (Nat.le_refl _) (leafF _ _) h.le h.foot) _ _ _ _ _ _ _⟩
theorem TreeC.wrapB {w : World} {g h2 h3 : Nat} {e : S67} {A : Option Addr} {c : Nat} (h : TreeC w g ⟨6, false, 0, ⟨#[]⟩, ⟨⟨#[]⟩, ⟨#[]⟩⟩, [leafN 1, e]⟩ A c) (hn : h2 ≠ g) (hm : h3 ≠ g) (hh : w.heap[h2]? = some (.cells #[.int .i64 6, .bool false, .int .i64 0, .string ⟨#[]⟩, .string ⟨#[]⟩, .string ⟨#[]⟩, .slice A 2 c, .int .i64 2, .bool false, .int .i64 1, .string ⟨#[]⟩, .string ⟨#[]⟩, .string ⟨#[]⟩, .slice none 0 0] 67 (0, 0))) (hk : w.heap[h3]? = some (.cells #[.int .i64 9, .bool false, .int .i64 0, .string ⟨#[]⟩, .string ⟨#[]⟩, .string ⟨#[]⟩, .slice (some ⟨h2, 0, none⟩) 2 2, .int .i64 2, .bool false, .int .i64 3, .string ⟨#[]⟩, .string ⟨#[]⟩, .string ⟨#[]⟩, .slice none 0 0, .int .i64 2, .bool false, .int .i64 4, .string ⟨#[]⟩, .string ⟨#[]⟩, .string ⟨#[]⟩, .slice none 0 0] 67 (0, 0))) :
    TreeAt (set7 w g (.int .i64 25) (.bool false) (.int .i64 0) (.string ⟨#[]⟩) (.string ⟨#[]⟩) (.string ⟨#[]⟩) (.slice (some ⟨h3, 0, none⟩) 3 3)) g (wrapT e) :=
  ⟨some ⟨h3, 0, none⟩, 3, set7_heap h.cells _ _ _ _ _ _ _, Nat.le_refl _, set7_F (row3F (ok := fun q => q ≠ g) ⟨9, false, 0, ⟨#[]⟩, ⟨⟨#[]⟩, ⟨#[]⟩⟩, [⟨6, false, 0, ⟨#[]⟩, ⟨⟨#[]⟩, ⟨#[]⟩⟩, [leafN 1, e]⟩, leafN 1]⟩ (leafN 3) (leafN 4) (A0 := some ⟨h2, 0, none⟩) (c0 := 2) (A1 := none) (c1 := 0) (A2 := none) (c2 := 0) hm hk (Nat.le_refl _) (row2F (ok := fun q => q ≠ g) ⟨6, false, 0, ⟨#[]⟩, ⟨⟨#[]⟩, ⟨#[]⟩⟩, [leafN 1, e]⟩ (leafN 1) (A1 := none) (c1 := 0) hn hh h.le h.foot (Nat.le_refl _) (leafF _ _)) (Nat.le_refl _) (leafF _ _) (Nat.le_refl _) (leafF _ _)) _ _ _ _ _ _ _⟩
theorem set7_below {w0 w : World} {g : Nat} (hb : Below w0.heap.size w0 w) (hg : w0.heap.size ≤ g) (v0 v1 v2 v3 v4 v5 v6 : Value) : Below w0.heap.size w0 (set7 w g v0 v1 v2 v3 v4 v5 v6) :=
  below_set (below_set (below_set (below_set (below_set (below_set (below_set hb hg) hg) hg) hg) hg) hg) hg
theorem set7_far {w : World} {g q t : Nat} {cs : Array Value} (h : w.heap[q]? = some (.cells cs t (0, 0))) (hn : q ≠ g) (v0 v1 v2 v3 v4 v5 v6 : Value) : (set7 w g v0 v1 v2 v3 v4 v5 v6).heap[q]? = some (.cells cs t (0, 0)) :=
  blk_far (blk_far (blk_far (blk_far (blk_far (blk_far (blk_far h hn _) hn _) hn _) hn _) hn _) hn _) hn _
theorem same_nu (q : Int) (A1 : Option Addr) (c1 : Nat) (A2 : Option Addr) (c2 : Nat) (w : World) : Calls Try.prog 26 #[.agg #[.int .i64 2, .bool false, .int .i64 q, .string ⟨#[]⟩, .string ⟨#[]⟩, .string ⟨#[]⟩, .slice A1 0 c1], .agg #[.int .i64 2, .bool false, .int .i64 q, .string ⟨#[]⟩, .string ⟨#[]⟩, .string ⟨#[]⟩, .slice A2 0 c2]] w fun e w' => e = .returned (.bool true) ∧ Below w.heap.size w w' :=
  chancelref3_Same.calls 5 2 false q ⟨#[]⟩ ⟨#[]⟩ ⟨#[]⟩ A1 c1 [] 2 false q ⟨#[]⟩ ⟨#[]⟩ ⟨#[]⟩ A2 c2 [] true w ⟨rfl, Nat.zero_le _, fun h => absurd h (Nat.lt_irrefl 0)⟩ (Nat.zero_le _) ⟨rfl, Nat.zero_le _, fun h => absurd h (Nat.lt_irrefl 0)⟩ (Nat.zero_le _) (by simp [chancelref3_Same.f, chancelref3_Same.j0, chancelref3_Same.l0])
end Go.Proofs.Ytfmghijmcgkpiaa.GE
