import Derived.Test.YtelibndkkokadaaGreatGB0
import Derived.Test.YtelibndkkokadaaGreatT0
import Derived.Test.YtelibndkkokadaaGreatJz
import Derived.Test.YtelibndkkokadaaGreatJa
namespace Go.Proofs.YtelibndkkokadaaGreat.GP
open Go.RowKit Go.Proofs.YtelibndkkokadaaGreatW.PrintWords Go.Proofs.YtelibndkkokadaaGreatW.PrintLast Go.Proofs.YtelibndkkokadaaGreat.HandV Go.Proofs.YtelibndkkokadaaGreatW.PrintMore
open Go.Proofs.YtelibndkkokadaaGreat.GB
attribute [local go_sem] max2_int min2_int max_two min_two max_three min_three max_four min_four   -- for this text's walks alone
set_option linter.unusedVariables false
set_option linter.unusedSimpArgs false
-- IMPORT .T0
-- FN chancellaw3_within
-- FN chancellaw1_within
-- FN chancelref1_put
-- FN chancelref1_Is
-- FN chancelref1_Of
-- FN chancellaw1_Of
-- FN chancellaw3_id
-- FN chancellaw3_Uid
-- FN chancellaw3_Plain
theorem within_tot3 (a m : Int) (hm : 0 < m) (hm2 : m ≤ 1000000) : ∃ r, chancellaw3_within.f a m = some r ∧ 0 ≤ r ∧ r < m := by
  unfold chancellaw3_within.f
  have h1 := Int.tmod_lt_of_pos a hm
  have h2 : -m < Int.tmod a m := tmod_gt a m hm
  rw [if_neg (by omega)]
  split
  · exact ⟨_, rfl, by rw [wr_id (by omega) (by omega)]; omega, by rw [wr_id (by omega) (by omega)]; omega⟩
  · exact ⟨_, rfl, by omega, h1⟩
theorem within_tot1 (a m : Int) (hm : 0 < m) (hm2 : m ≤ 1000000) : ∃ r, chancellaw1_within.f a m = some r ∧ 0 ≤ r ∧ r < m := by
  unfold chancellaw1_within.f
  have h1 := Int.tmod_lt_of_pos a hm
  have h2 : -m < Int.tmod a m := tmod_gt a m hm
  rw [if_neg (by omega)]
  split
  · exact ⟨_, rfl, by rw [wr_id (by omega) (by omega)]; omega, by rw [wr_id (by omega) (by omega)]; omega⟩
  · exact ⟨_, rfl, by omega, h1⟩
theorem put_tot (l : List Int) (a : Int) (h : l.length ≤ 1000000) : ∃ r, chancelref1_put.f l a = some r ∧ r.length ≤ l.length + 4 := by
  unfold chancelref1_put.f
  split
  · rw [if_pos (by omega)]; exact ⟨_, rfl, by simp⟩
  · split
    · rw [Option.bind_some, if_pos (by simp; omega)]; exact ⟨_, rfl, by simp⟩
    · split
      · rw [Option.bind_some, if_pos (by simp; omega)]; exact ⟨_, rfl, by simp⟩
      · rw [Option.bind_some, if_pos (by simp; omega)]; exact ⟨_, rfl, by simp⟩
theorem is_tot (a : Int) : ∃ b, chancelref1_Is.f a = some b := by
  unfold chancelref1_Is.f
  split
  · split
    · split <;> exact ⟨_, rfl⟩
    · exact ⟨_, rfl⟩
  · exact ⟨_, rfl⟩
theorem ofl_tot (x0 : List Int) (hx : x0.length ≤ 100000) : ∀ (d i : Nat) (x4 : List Int), i + d = x0.length → x4.length ≤ 4 * i → Tot (fun k => chancelref1_Of.l0 k x0 x4 (i : Int)) (fun _ => True)
  | 0, i, x4, hi, hl => Tot.step (fun k => by rw [chancelref1_Of.l0]) (Tot.neg (by omega) (Tot.now trivial))
  | d + 1, i, x4, hi, hl => by
    refine Tot.step (fun k => by rw [chancelref1_Of.l0]) (Tot.pos (by omega) (Tot.pos (by omega) ?_))
    obtain ⟨b, hb⟩ := is_tot (rd x0 (i : Int))
    refine Tot.bind (Tot.const hb (P := fun _ => True) trivial) (fun t _ => Tot.ite (fun _ => ?_) (fun _ => Tot.now trivial))
    obtain ⟨r, hr, hrl⟩ := put_tot x4 (rd x0 (i : Int)) (by omega)
    refine Tot.bind (Tot.const hr (P := fun r => r.length ≤ x4.length + 4) hrl) (fun t ht => ?_)
    rw [wr_succ (by omega)]
    exact ofl_tot x0 hx d (i + 1) t (by omega) (by omega)
theorem of_ref_tot (x0 : List Int) (hx : x0.length ≤ 100000) : Tot (fun k => chancelref1_Of.f k x0) (fun _ => True) := by
  unfold chancelref1_Of.f
  exact ofl_tot x0 hx x0.length 0 [] (by omega) (Nat.zero_le _)
theorem of_l_tot (x0 : List Int) (x3 : List Int) (h3 : 0 < x3.length) (h3' : x3.length ≤ 1000) : ∀ (d i : Nat) (x4 : List Int), d + i = 40 → x4.length = i → Tot (fun k => chancellaw1_Of.l0 k x0 x3 x4 (i : Int)) (fun _ => True)
  | 0, i, x4, hi, hl => by
    refine Tot.step (fun k => by rw [chancellaw1_Of.l0]) (Tot.ite (fun _ => Tot.neg (by omega) ?_) (fun _ => ?_))
    · exact Tot.bind (of_ref_tot x4 (by omega)) (fun _ _ => Tot.now trivial)
    · exact Tot.bind (of_ref_tot x4 (by omega)) (fun _ _ => Tot.now trivial)
  | d + 1, i, x4, hi, hl => by
    refine Tot.step (fun k => by rw [chancellaw1_Of.l0]) (Tot.ite (fun _ => Tot.pos (by omega) (Tot.pos (by omega) ?_)) (fun _ => ?_))
    · obtain ⟨r, hr, h0, h1⟩ := within_tot1 (rd x0 (i : Int)) (x3.length : Int) (by omega) (by omega)
      refine Tot.bind (Tot.const hr (P := fun r => 0 ≤ r ∧ r < (x3.length : Int)) ⟨h0, h1⟩) (fun t ht => Tot.pos ht.1 (Tot.pos ht.2 (Tot.pos (by omega) ?_)))
      rw [wr_succ (by omega)]
      exact of_l_tot x0 x3 h3 h3' d (i + 1) _ (by omega) (by simp [hl])
    · exact Tot.bind (of_ref_tot x4 (by omega)) (fun _ _ => Tot.now trivial)
theorem of_law_tot (x0 : List Int) : Tot (fun k => chancellaw1_Of.f k x0) (fun _ => True) := by
  unfold chancellaw1_Of.f
  exact of_l_tot x0 _ (by decide) (by decide) 40 0 [] rfl rfl
theorem id_tot (l : List Int) : Tot (fun k => chancellaw3_id.f k l) (fun _ => True) := by
  unfold chancellaw3_id.f
  exact Tot.ite (fun h => Tot.pos (by omega) (Tot.bind (of_law_tot _) (fun _ _ => Tot.now trivial))) (fun _ => Tot.bind (of_law_tot _) (fun _ _ => Tot.now trivial))
theorem uid_tot (a n : Int) (s : List Int) (l : List S94) : Tot (fun k => chancellaw3_Uid.f k a n s l) (fun _ => True) := by
  have h1 := Int.tmod_lt_of_pos n (show (0 : Int) < 5 by decide)
  have h2 := tmod_gt n 5 (by decide)
  unfold chancellaw3_Uid.f
  refine Tot.ite (fun h => ?_) (fun h => ?_)
  · refine Tot.some_bind (Tot.pos ?_ (Tot.pos ?_ (Tot.bind (id_tot s) (fun _ _ => Tot.now trivial))))
    · rw [wr_id (by omega) (by omega)]; omega
    · rw [wr_id (by omega) (by omega)]; simp; omega
  · refine Tot.some_bind (Tot.pos (by omega) (Tot.pos (by simp; omega) (Tot.bind (id_tot s) (fun _ _ => Tot.now trivial))))
/-- A plain value of a kind. -/
theorem plain_tot (a n : Int) (s : List Int) (l : List S94) (kd : Int) (h1 : 1 ≤ kd) (h2 : kd ≤ 4) : Tot (fun k => chancellaw3_Plain.f k a n s l kd) (fun r => r.1 = kd ∧ r.2.2.2.2.2.2 = []) := by
  unfold chancellaw3_Plain.f
  refine Tot.ite (fun h => Tot.now ⟨h.symm, rfl⟩) (fun _ => Tot.ite (fun h => Tot.now ⟨h.symm, rfl⟩) (fun _ => Tot.ite (fun h => Tot.bind (id_tot s) (fun _ _ => Tot.now ⟨h.symm, rfl⟩)) (fun _ => Tot.bind (uid_tot a n s l) (fun _ _ => Tot.now ⟨?_, rfl⟩))))
  omega
end Go.Proofs.YtelibndkkokadaaGreat.GP
namespace Go.Proofs.YtelibndkkokadaaGreat.GP
open Go.RowKit Go.Proofs.YtelibndkkokadaaGreatW.PrintWords Go.Proofs.YtelibndkkokadaaGreatW.PrintLast Go.Proofs.YtelibndkkokadaaGreat.HandV Go.Proofs.YtelibndkkokadaaGreatW.PrintMore
open Go.Proofs.YtelibndkkokadaaGreat.GB
attribute [local go_sem] max2_int min2_int max_two min_two max_three min_three max_four min_four   -- for this text's walks alone
set_option linter.unusedVariables false
set_option linter.unusedSimpArgs false
-- IMPORT .P1r
-- IMPORT .A2
-- FN chancellaw5_within
-- FN chancellaw5_kind
-- FN chancellaw5_name
def Flat (x : S39) : Prop := x.f5 = []
/-- A value whose row is short, of such ats have none. -/
def Low (x : S39) : Prop := x.f5.length ≤ 8 ∧ ∀ y ∈ x.f5, Flat y
theorem within_tot5 (a m : Int) (hm : 0 < m) (hm2 : m ≤ 1000000) : ∃ r, chancellaw5_within.f a m = some r ∧ 0 ≤ r ∧ r < m := by
  unfold chancellaw5_within.f
  have h1 := Int.tmod_lt_of_pos a hm
  have h2 := tmod_gt a m hm
  rw [if_neg (by omega)]
  split
  · exact ⟨_, rfl, by rw [wr_id (by omega) (by omega)]; omega, by rw [wr_id (by omega) (by omega)]; omega⟩
  · exact ⟨_, rfl, by omega, h1⟩
theorem kind_tot (a : Int) : ∃ r, chancellaw5_kind.f a = some r ∧ r.size ≤ 1000000 := by
  unfold chancellaw5_kind.f
  obtain ⟨r, hr, h0, h1⟩ := within_tot5 a 4 (by decide) (by decide)
  rw [Option.bind_some, hr, Option.bind_some, if_pos h0, if_pos (by simp; omega)]
  refine ⟨_, rfl, ?_⟩
  have : r = 0 ∨ r = 1 ∨ r = 2 ∨ r = 3 := by omega
  rcases this with rfl | rfl | rfl | rfl <;> decide +kernel
theorem str_one (x : Int) : (strOfNums [x]).size ≤ 1000000 := by
  simp only [strOfNums]
  exact Nat.le_of_ble_eq_true rfl
theorem okU_of {a b : ByteArray} (h1 : a.size ≤ 1000000) (h2 : b.size ≤ 1000000) : GA.okU ⟨a, b⟩ = true := by simp [GA.okU, h1, h2]
theorem name_tot (a : Int) : ∃ r, chancellaw5_name.f a = some r := by
  unfold chancellaw5_name.f
  obtain ⟨r, hr, h0, h1⟩ := within_tot5 a 7 (by decide) (by decide)
  rw [Option.bind_some, hr, Option.bind_some, if_pos h0, if_pos (by simp; omega)]
  exact ⟨_, rfl⟩
/-- An entity such ats the law's. -/
def EntP (x : S32) : Prop := x.f1.length ≤ 3 ∧ x.f2.length ≤ 3 ∧ (∀ a ∈ x.f2, Low a.f1) ∧ GA.okU x.f0 = true ∧ ∀ p ∈ x.f1, GA.okU p = true
theorem smV_flat {x : S39} (h : Flat x) : GT.smV x = true := by
  obtain ⟨a, b, c, d, e, l⟩ := x
  have : l = [] := h
  subst this
  rfl
theorem smL_flat : ∀ (l : List S39), (∀ y ∈ l, Flat y) → GT.smL l = true
  | [], _ => rfl
  | x :: xs, h => by
    simp only [GT.smL, Bool.and_eq_true]
    exact ⟨smV_flat (h x (List.mem_cons_self ..)), smL_flat xs (fun y hy => h y (List.mem_cons_of_mem _ hy))⟩
theorem smV_low {x : S39} (h : Low x) : GT.smV x = true := by
  obtain ⟨a, b, c, d, e, l⟩ := x
  have h1 : l.length ≤ 8 := h.1
  simp only [GT.smV, Bool.and_eq_true, decide_eq_true_eq]
  exact ⟨by omega, smL_flat l h.2⟩
theorem smE_ent {x : S32} (h : EntP x) : GT.smE x = true := by
  simp only [GT.smE, Bool.and_eq_true, decide_eq_true_eq, List.all_eq_true]
  exact ⟨by have := h.1; omega, by have := h.2.1; omega, fun a ha => smV_low (h.2.2.1 a ha)⟩
end Go.Proofs.YtelibndkkokadaaGreat.GP
