import Derived.Test.YtfmghijmcgkpiaaGS0
import Derived.Test.YtfmghijmcgkpiaaE11
import Derived.Test.YtfmghijmcgkpiaaVc
import Derived.Test.YtfmghijmcgkpiaaVa
namespace Go.Proofs.Ytfmghijmcgkpiaa.GE
open Go.RowKit Go.Proofs.YtfmghijmcgkpiaaW.PrintWords Go.Proofs.YtfmghijmcgkpiaaW.PrintLast Go.Proofs.Ytfmghijmcgkpiaa.HandV Go.Proofs.YtfmghijmcgkpiaaW.PrintMore
open Go.Proofs.Ytfmghijmcgkpiaa.GS
attribute [local go_sem] max2_int min2_int max_two min_two max_three min_three max_four min_four   -- for this text's walks alone
set_option linter.unusedVariables false
set_option linter.unusedSimpArgs false
-- IMPORT .E11
-- IMPORT .Vc
-- IMPORT .Va
/-- A number or an error. -/
def resF : Option (Int × Int) → Option (S31 × Int)
  | some (c, e) => if e = 0 then some (nuV c, 0) else some (zV, e)
  | none => none
/-- What numbers answers of two numbers. -/
def numF (K : Nat) (op n m : Int) : Option (S31 × Int) :=
  if op = 13 then resF (num_Mul.f K n m) else if op = 14 then resF (num_Add.f n m) else if op = 15 then resF (num_Sub.f n m)
  else if op = 16 then some (trV (decide (n < m)), 0) else if op = 17 then some (trV (decide (n ≤ m)), 0) else if op = 18 then some (trV (decide (m < n)), 0) else if op = 19 then some (trV (decide (m ≤ n)), 0) else none
theorem numbers_ok (K : Nat) (op n m : Int) (r : S31) (er : Int) (h : numF K op n m = some (r, er)) (w : World) : r.f5 = [] ∧ Calls Try.prog 167 #[.int .i64 op, .iface 234 (.int .i64 n), .iface 234 (.int .i64 m)] w fun e w' => e = .returned (.tuple #[.agg #[.int .i64 r.f0, .bool r.f1, .int .i64 r.f2, .string r.f3, .string r.f4.f0, .string r.f4.f1, .slice none 0 0], .int .i64 er]) ∧ Below w.heap.size w w' := by
  simp only [numF] at h
  by_cases h_ : op = 13
  · rw [if_pos h_] at h
    subst h_
    cases hn : num_Mul.f K n m with
    | none => rw [hn] at h; exact absurd h (by simp [resF])
    | some re =>
      obtain ⟨rr, ee⟩ := re
      rw [hn] at h
      simp only [resF] at h
      by_cases he : ee = 0
      · subst he
        simp only [if_true, Option.some.injEq, Prod.mk.injEq] at h
        obtain ⟨rfl, rfl⟩ := h
        exact ⟨rfl, numbers_mul_ok K n m rr hn w⟩
      · rw [if_neg he] at h
        simp only [Option.some.injEq, Prod.mk.injEq] at h
        obtain ⟨rfl, rfl⟩ := h
        exact ⟨rfl, numbers_mul_err K n m rr _ he hn w⟩
  rw [if_neg h_] at h
  clear h_
  by_cases h_ : op = 14
  · rw [if_pos h_] at h
    subst h_
    cases hn : num_Add.f n m with
    | none => rw [hn] at h; exact absurd h (by simp [resF])
    | some re =>
      obtain ⟨rr, ee⟩ := re
      rw [hn] at h
      simp only [resF] at h
      by_cases he : ee = 0
      · subst he
        simp only [if_true, Option.some.injEq, Prod.mk.injEq] at h
        obtain ⟨rfl, rfl⟩ := h
        exact ⟨rfl, numbers_add_ok n m rr hn w⟩
      · rw [if_neg he] at h
        simp only [Option.some.injEq, Prod.mk.injEq] at h
        obtain ⟨rfl, rfl⟩ := h
        exact ⟨rfl, numbers_add_err n m rr _ he hn w⟩
  rw [if_neg h_] at h
  clear h_
  by_cases h_ : op = 15
  · rw [if_pos h_] at h
    subst h_
    cases hn : num_Sub.f n m with
    | none => rw [hn] at h; exact absurd h (by simp [resF])
    | some re =>
      obtain ⟨rr, ee⟩ := re
      rw [hn] at h
      simp only [resF] at h
      by_cases he : ee = 0
      · subst he
        simp only [if_true, Option.some.injEq, Prod.mk.injEq] at h
        obtain ⟨rfl, rfl⟩ := h
        exact ⟨rfl, numbers_sub_ok n m rr hn w⟩
      · rw [if_neg he] at h
        simp only [Option.some.injEq, Prod.mk.injEq] at h
        obtain ⟨rfl, rfl⟩ := h
        exact ⟨rfl, numbers_sub_err n m rr _ he hn w⟩
  rw [if_neg h_] at h
  clear h_
  by_cases h_ : op = 16
  · rw [if_pos h_] at h
    subst h_
    simp only [Option.some.injEq, Prod.mk.injEq] at h
    obtain ⟨rfl, rfl⟩ := h
    exact ⟨rfl, numbers_less n m w⟩
  rw [if_neg h_] at h
  clear h_
  by_cases h_ : op = 17
  · rw [if_pos h_] at h
    subst h_
    simp only [Option.some.injEq, Prod.mk.injEq] at h
    obtain ⟨rfl, rfl⟩ := h
    exact ⟨rfl, numbers_least n m w⟩
  rw [if_neg h_] at h
  clear h_
  by_cases h_ : op = 18
  · rw [if_pos h_] at h
    subst h_
    simp only [Option.some.injEq, Prod.mk.injEq] at h
    obtain ⟨rfl, rfl⟩ := h
    exact ⟨rfl, numbers_more n m w⟩
  rw [if_neg h_] at h
  clear h_
  by_cases h_ : op = 19
  · rw [if_pos h_] at h
    subst h_
    simp only [Option.some.injEq, Prod.mk.injEq] at h
    obtain ⟨rfl, rfl⟩ := h
    exact ⟨rfl, numbers_most n m w⟩
  rw [if_neg h_] at h
  clear h_
  exact absurd h (by simp)
/-- What double answers; none where no theorem speaks of it. -/
def doubleF (K : Nat) (op : Int) (x y : S31) : Option (S31 × Int) :=
  if op = 9 then (if x.f0 = 5 then (match value_Holds.f 5 x.f1 x.f2 x.f3 x.f4.f0 x.f4.f1 x.f5 y.f0 y.f1 y.f2 y.f3 y.f4.f0 y.f4.f1 y.f5 with | some t => some (trV t, 0) | none => none) else some (zV, 16))
  else if op = 20 then some (trV (cmpV x y == 0), 0) else if op = 21 then some (trV (!(cmpV x y == 0)), 0) else if op = 22 then none
  else if x.f0 = 2 ∧ y.f0 = 2 then numF K op x.f2 y.f2 else some (zV, 16)
theorem double_ok (K : Nat) (p0 p1 p2 p3 p4 p5 : ByteArray) (op : Int) (x y r : S31) (er : Int) (h : doubleF K op x y = some (r, er)) (A : Option Addr) (c : Nat) (A6 A8 : Option Addr) (c6 c8 : Nat) (w : World)
    (hl1 : x.f5.length ≤ c6) (hC1 : k31.C w A6 x.f5.length x.f5) (hl2 : y.f5.length ≤ c8) (hC2 : k31.C w A8 y.f5.length y.f5) :
    Calls Try.prog 139 #[.agg #[.slice A 0 c, .string p0, .string p1, .string p2, .string p3, .string p4, .string p5], .int .i64 op, .agg #[.int .i64 x.f0, .bool x.f1, .int .i64 x.f2, .string x.f3, .string x.f4.f0, .string x.f4.f1, .slice A6 x.f5.length c6], .agg #[.int .i64 y.f0, .bool y.f1, .int .i64 y.f2, .string y.f3, .string y.f4.f0, .string y.f4.f1, .slice A8 y.f5.length c8]] w (Gives w r er) := by
  simp only [doubleF] at h
  by_cases h9 : op = 9
  · rw [if_pos h9] at h
    subst h9
    by_cases h5 : x.f0 = 5
    · rw [if_pos h5] at h
      cases hh : value_Holds.f 5 x.f1 x.f2 x.f3 x.f4.f0 x.f4.f1 x.f5 y.f0 y.f1 y.f2 y.f3 y.f4.f0 y.f4.f1 y.f5 with
      | none => rw [hh] at h; exact absurd h (by simp)
      | some t =>
        rw [hh] at h
        simp only [Option.some.injEq, Prod.mk.injEq] at h
        obtain ⟨rfl, rfl⟩ := h
        rw [h5]
        exact gives_of rfl (double_holds A 0 c p0 p1 p2 p3 p4 p5 w _ _ _ _ _ _ _ _ _ _ _ _ _ t (fun W hW => value_Holds.calls_ 5 x.f1 x.f2 x.f3 x.f4.f0 x.f4.f1 A6 c6 x.f5 y.f0 y.f1 y.f2 y.f3 y.f4.f0 y.f4.f1 A8 c8 y.f5 t W (Kd.C_below hC1 hW) hl1 (Kd.C_below hC2 hW) hl2 hh))
    · rw [if_neg h5] at h
      simp only [Option.some.injEq, Prod.mk.injEq] at h
      obtain ⟨rfl, rfl⟩ := h
      exact gives_of rfl (double_holds_no A 0 c p0 p1 p2 p3 p4 p5 x.f0 h5 _ _ _ _ _ _ _ _ _ _ _ _ _ w)
  rw [if_neg h9] at h
  by_cases h20 : op = 20
  · rw [if_pos h20] at h
    subst h20
    simp only [Option.some.injEq, Prod.mk.injEq] at h
    obtain ⟨rfl, rfl⟩ := h
    exact gives_of rfl (double_same A 0 c p0 p1 p2 p3 p4 p5 w _ _ _ _ _ _ _ _ _ _ _ _ _ _ _ (fun W hW => same_any x y A6 A8 c6 c8 W hl1 (Kd.C_below hC1 hW) hl2 (Kd.C_below hC2 hW)))
  rw [if_neg h20] at h
  by_cases h21 : op = 21
  · rw [if_pos h21] at h
    subst h21
    simp only [Option.some.injEq, Prod.mk.injEq] at h
    obtain ⟨rfl, rfl⟩ := h
    exact gives_of rfl (double_other A 0 c p0 p1 p2 p3 p4 p5 w _ _ _ _ _ _ _ _ _ _ _ _ _ _ _ (fun W hW => same_any x y A6 A8 c6 c8 W hl1 (Kd.C_below hC1 hW) hl2 (Kd.C_below hC2 hW)))
  rw [if_neg h21] at h
  by_cases h22 : op = 22
  · rw [if_pos h22] at h
    exact absurd h (by simp)
  rw [if_neg h22] at h
  have hx : ∀ W, _ := of_any x.f0 x.f1 x.f2 x.f3 x.f4.f0 x.f4.f1 A6 x.f5.length c6
  have hy : ∀ W, _ := of_any y.f0 y.f1 y.f2 y.f3 y.f4.f0 y.f4.f1 A8 y.f5.length c8
  have hs : ∀ u ∈ ([.int .i64 r.f0, .bool r.f1, .int .i64 r.f2, .string r.f3, .string r.f4.f0, .string r.f4.f1, .slice none 0 0] : List Value), u.oneCell' = true := by
    intro u hu
    simp only [List.mem_cons, List.not_mem_nil, or_false] at hu
    rcases hu with rfl | rfl | rfl | rfl | rfl | rfl | rfl <;> rfl
  by_cases h2 : x.f0 = 2
  · by_cases h3 : y.f0 = 2
    · rw [if_pos ⟨h2, h3⟩] at h
      have h5 := (numbers_ok K op x.f2 y.f2 r er h w).1
      refine gives_of h5 (double_num A 0 c p0 p1 p2 p3 p4 p5 op h9 h20 h21 h22 _ _ _ _ _ _ _ _ _ _ _ _ _ _ _ _ _ _ _ _ _ (.iface 234 (.int .i64 x.f2)) (.iface 234 (.int .i64 y.f2)) er ?_ ?_ (fun W => (numbers_ok K op x.f2 y.f2 r er h W).2) hs w)
      · rw [h2]; exact fun W => of_2 _ _ _ _ _ _ _ _ W
      · rw [h3]; exact fun W => of_2 _ _ _ _ _ _ _ _ W
    · rw [if_neg (fun hh => h3 hh.2)] at h
      simp only [Option.some.injEq, Prod.mk.injEq] at h
      obtain ⟨rfl, rfl⟩ := h
      refine gives_of rfl (double_num A 0 c p0 p1 p2 p3 p4 p5 op h9 h20 h21 h22 _ _ _ _ _ _ _ _ _ _ _ _ _ _ _ _ _ _ _ _ _ (.iface 234 (.int .i64 x.f2)) _ 16 ?_ hy (fun W => numbers_type_b op x.f2 _ (notNum_of _ h3 _ _ _ _ _ _ _ _) W) hs w)
      rw [h2]; exact fun W => of_2 _ _ _ _ _ _ _ _ W
  · rw [if_neg (fun hh => h2 hh.1)] at h
    simp only [Option.some.injEq, Prod.mk.injEq] at h
    obtain ⟨rfl, rfl⟩ := h
    by_cases h3 : y.f0 = 2
    · refine gives_of rfl (double_num A 0 c p0 p1 p2 p3 p4 p5 op h9 h20 h21 h22 _ _ _ _ _ _ _ _ _ _ _ _ _ _ _ _ _ _ _ _ _ _ (.iface 234 (.int .i64 y.f2)) 16 hx ?_ (fun W => numbers_type_a op _ (notNum_of _ h2 _ _ _ _ _ _ _ _) y.f2 W) hs w)
      rw [h3]; exact fun W => of_2 _ _ _ _ _ _ _ _ W
    · exact gives_of rfl (double_num A 0 c p0 p1 p2 p3 p4 p5 op h9 h20 h21 h22 _ _ _ _ _ _ _ _ _ _ _ _ _ _ _ _ _ _ _ _ _ _ _ 16 hx hy (fun W => numbers_type_ab op _ (notNum_of _ h2 _ _ _ _ _ _ _ _) _ (notNum_of _ h3 _ _ _ _ _ _ _ _) W) hs w)
end Go.Proofs.Ytfmghijmcgkpiaa.GE
