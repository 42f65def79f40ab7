import Derived.Test.YtfmghijmcgkpiaaGO0
import Derived.Test.YtfmghijmcgkpiaaEd
import Derived.Test.YtfmghijmcgkpiaaGO5
import Derived.Test.YtfmghijmcgkpiaaGO6
import Derived.Test.YtfmghijmcgkpiaaGO4
import Derived.Test.YtfmghijmcgkpiaaGO7
import Derived.Test.YtfmghijmcgkpiaaGO8
import Derived.Test.YtfmghijmcgkpiaaGO9
import Derived.Test.YtfmghijmcgkpiaaGO2
import Derived.Test.YtfmghijmcgkpiaaGO12
import Derived.Test.YtfmghijmcgkpiaaGO10
import Derived.Test.YtfmghijmcgkpiaaGO11
namespace Go.Proofs.Ytfmghijmcgkpiaa.GP
open Go.RowKit Go.Proofs.YtfmghijmcgkpiaaW.PrintWords Go.Proofs.YtfmghijmcgkpiaaW.PrintLast Go.Proofs.Ytfmghijmcgkpiaa.HandV Go.Proofs.YtfmghijmcgkpiaaW.PrintMore
open Go.Proofs.Ytfmghijmcgkpiaa.GO
attribute [local go_sem] max2_int min2_int max_two min_two max_three min_three max_four min_four   -- for this text's walks alone
set_option linter.unusedVariables false
set_option linter.unusedSimpArgs false
-- FN chancelref3_LessUid
-- FN chancelref3_Less
-- FN chancelref3_Same
-- FN chancelref3_Set
-- IMPORT .Ed
-- FN chancellaw3_Good
-- FN chancellaw5_Entity
-- FN chancellaw8_known
-- FN chancellaw8_EntsOrder
-- FN ents_Put
-- FN ents_Find
-- FN ents_Same
/-- With enough rounds it answers, and of the answer P holds. -/
def Tot {α : Type} (g : Nat → Option α) (P : α → Prop) : Prop := ∃ r, Ev g r ∧ P r
namespace Tot
variable {α β : Type} {g f : Nat → Option α} {P Q : α → Prop} {R : β → Prop}
theorem now {r : α} (h : P r) : Tot (fun _ => some r) P := ⟨r, Ev.now r, h⟩
theorem const {x : Option α} {r : α} (hx : x = some r) (h : P r) : Tot (fun _ => x) P := ⟨r, ⟨0, fun _ _ => hx⟩, h⟩
theorem mono (h : Tot g P) (hp : ∀ r, P r → Q r) : Tot g Q := by obtain ⟨r, h1, h2⟩ := h; exact ⟨r, h1, hp r h2⟩
theorem bind {g : Nat → Option β} {f : Nat → β → Option α} (h : Tot g R) (k : ∀ a, R a → Tot (fun n => f n a) P) : Tot (fun n => (g n).bind (f n)) P := by
 obtain ⟨a, h1, h2⟩ := h
 obtain ⟨r, h3, h4⟩ := k a h2
 exact ⟨r, Ev.bind h1 h3, h4⟩
theorem step (h : ∀ k, g (k + 1) = f k) (t : Tot f P) : Tot g P := by obtain ⟨r, h1, h2⟩ := t; exact ⟨r, Ev.step h h1, h2⟩
theorem congr (h : ∀ k, g k = f k) (t : Tot f P) : Tot g P := by obtain ⟨r, h1, h2⟩ := t; exact ⟨r, Ev.congr h h1, h2⟩
theorem ite {c : Prop} [Decidable c] (h1 : c → Tot f P) (h2 : ¬ c → Tot g P) : Tot (fun k => if c then f k else g k) P := by
 by_cases h : c
 ·
  exact congr (fun k => if_pos h) (h1 h)
 ·
  exact congr (fun k => if_neg h) (h2 h)
theorem pos {c : Prop} [Decidable c] (h : c) (h1 : Tot f P) : Tot (fun k => if c then f k else g k) P := congr (fun k => if_pos h) h1
theorem neg {c : Prop} [Decidable c] (h : ¬ c) (h1 : Tot g P) : Tot (fun k => if c then f k else g k) P := congr (fun k => if_neg h) h1
theorem some_bind {x : β} {f : Nat → β → Option α} (h : Tot (fun n => f n x) P) : Tot (fun n => (some x).bind (f n)) P := h
end Tot
theorem wr_id {x : Int} (h1 : -9223372036854775808 ≤ x) (h2 : x ≤ 9223372036854775807) : wrap64 x = x := by unfold wrap64; omega
theorem wr_succ {n : Nat} (h : n < 9223372036854775807) : wrap64 ((n : Int) + 1) = ((n + 1 : Nat) : Int) := by unfold wrap64; omega
theorem tmod_gt (a m : Int) (hm : 0 < m) : -m < Int.tmod a m := by
 have h1 : (Int.tmod a m).natAbs = a.natAbs % m.natAbs := Int.natAbs_tmod a m
 have h2 := Nat.mod_lt a.natAbs (show 0 < m.natAbs by omega)
 omega
theorem within_tot3 (a m : Int) (hm : 0 < m) (hm2 : m ≤ 1000000) : ∃ r, chancellaw3_within.f a m = some r ∧ 0 ≤ r ∧ r < m := by
 unfold chancellaw3_within.f
 have h1 := Int.tmod_lt_of_pos a hm
 have h2 : -m < Int.tmod a m := tmod_gt a m hm
 rw [if_neg (by omega)]
 split
 ·
  exact ⟨_, rfl, by rw [wr_id (by omega) (by omega)]; omega, by rw [wr_id (by omega) (by omega)]; omega⟩
 ·
  exact ⟨_, rfl, by omega, h1⟩
theorem within_tot1 (a m : Int) (hm : 0 < m) (hm2 : m ≤ 1000000) : ∃ r, chancellaw1_within.f a m = some r ∧ 0 ≤ r ∧ r < m := by
 unfold chancellaw1_within.f
 have h1 := Int.tmod_lt_of_pos a hm
 have h2 : -m < Int.tmod a m := tmod_gt a m hm
 rw [if_neg (by omega)]
 split
 ·
  exact ⟨_, rfl, by rw [wr_id (by omega) (by omega)]; omega, by rw [wr_id (by omega) (by omega)]; omega⟩
 ·
  exact ⟨_, rfl, by omega, h1⟩
theorem put_tot (l : List Int) (a : Int) (h : l.length ≤ 1000000) : ∃ r, chancelref1_put.f l a = some r ∧ r.length ≤ l.length + 4 := by
 unfold chancelref1_put.f
 split
 ·
  rw [if_pos (by omega)]; exact ⟨_, rfl, by simp⟩
 ·
  split
  ·
   rw [Option.bind_some, if_pos (by simp; omega)]; exact ⟨_, rfl, by simp⟩
  ·
   split
   ·
    rw [Option.bind_some, if_pos (by simp; omega)]; exact ⟨_, rfl, by simp⟩
   ·
    rw [Option.bind_some, if_pos (by simp; omega)]; exact ⟨_, rfl, by simp⟩
theorem is_tot (a : Int) : ∃ b, chancelref1_Is.f a = some b := by
 unfold chancelref1_Is.f
 split
 ·
  split
  ·
   split <;> exact ⟨_, rfl⟩
  ·
   exact ⟨_, rfl⟩
 ·
  exact ⟨_, rfl⟩
theorem ofl_tot (x0 : List Int) (hx : x0.length ≤ 100000) : ∀ (d i : Nat) (x4 : List Int), i + d = x0.length → x4.length ≤ 4 * i → Tot (fun k => chancelref1_Of.l0 k x0 x4 (i : Int)) (fun _ => True)
 | 0, i, x4, hi, hl => Tot.step (fun k => by rw [chancelref1_Of.l0]) (Tot.neg (by omega) (Tot.now trivial))
 | d + 1, i, x4, hi, hl => by
  refine Tot.step (fun k => by rw [chancelref1_Of.l0]) (Tot.pos (by omega) (Tot.pos (by omega) ?_))
  obtain ⟨b, hb⟩ := is_tot (rd x0 (i : Int))
  refine Tot.bind (Tot.const hb (P := fun _ => True) trivial) (fun t _ => Tot.ite (fun _ => ?_) (fun _ => Tot.now trivial))
  obtain ⟨r, hr, hrl⟩ := put_tot x4 (rd x0 (i : Int)) (by omega)
  refine Tot.bind (Tot.const hr (P := fun r => r.length ≤ x4.length + 4) hrl) (fun t ht => ?_)
  rw [wr_succ (by omega)]
  exact ofl_tot x0 hx d (i + 1) t (by omega) (by omega)
theorem of_ref_tot (x0 : List Int) (hx : x0.length ≤ 100000) : Tot (fun k => chancelref1_Of.f k x0) (fun _ => True) := by
 unfold chancelref1_Of.f
 exact ofl_tot x0 hx x0.length 0 [] (by omega) (Nat.zero_le _)
theorem of_l_tot (x0 : List Int) (x3 : List Int) (h3 : 0 < x3.length) (h3' : x3.length ≤ 1000) : ∀ (d i : Nat) (x4 : List Int), d + i = 40 → x4.length = i → Tot (fun k => chancellaw1_Of.l0 k x0 x3 x4 (i : Int)) (fun _ => True)
 | 0, i, x4, hi, hl => by
  refine Tot.step (fun k => by rw [chancellaw1_Of.l0]) (Tot.ite (fun _ => Tot.neg (by omega) ?_) (fun _ => ?_))
  ·
   exact Tot.bind (of_ref_tot x4 (by omega)) (fun _ _ => Tot.now trivial)
  ·
   exact Tot.bind (of_ref_tot x4 (by omega)) (fun _ _ => Tot.now trivial)
 | d + 1, i, x4, hi, hl => by
  refine Tot.step (fun k => by rw [chancellaw1_Of.l0]) (Tot.ite (fun _ => Tot.pos (by omega) (Tot.pos (by omega) ?_)) (fun _ => ?_))
  ·
   obtain ⟨r, hr, h0, h1⟩ := within_tot1 (rd x0 (i : Int)) (x3.length : Int) (by omega) (by omega)
   refine Tot.bind (Tot.const hr (P := fun r => 0 ≤ r ∧ r < (x3.length : Int)) ⟨h0, h1⟩) (fun t ht => Tot.pos ht.1 (Tot.pos ht.2 (Tot.pos (by omega) ?_)))
   rw [wr_succ (by omega)]
   exact of_l_tot x0 x3 h3 h3' d (i + 1) _ (by omega) (by simp [hl])
  ·
   exact Tot.bind (of_ref_tot x4 (by omega)) (fun _ _ => Tot.now trivial)
theorem of_law_tot (x0 : List Int) : Tot (fun k => chancellaw1_Of.f k x0) (fun _ => True) := by
 unfold chancellaw1_Of.f
 exact of_l_tot x0 _ (by decide) (by decide) 40 0 [] rfl rfl
theorem id_tot (l : List Int) : Tot (fun k => chancellaw3_id.f k l) (fun _ => True) := by
 unfold chancellaw3_id.f
 exact Tot.ite (fun h => Tot.pos (by omega) (Tot.bind (of_law_tot _) (fun _ _ => Tot.now trivial))) (fun _ => Tot.bind (of_law_tot _) (fun _ _ => Tot.now trivial))
theorem uid_tot (a n : Int) (s : List Int) (l : List S25) : Tot (fun k => chancellaw3_Uid.f k a n s l) (fun _ => True) := by
 have h1 := Int.tmod_lt_of_pos n (show (0 : Int) < 5 by decide)
 have h2 := tmod_gt n 5 (by decide)
 unfold chancellaw3_Uid.f
 refine Tot.ite (fun h => ?_) (fun h => ?_)
 ·
  refine Tot.some_bind (Tot.pos ?_ (Tot.pos ?_ (Tot.bind (id_tot s) (fun _ _ => Tot.now trivial))))
  ·
   rw [wr_id (by omega) (by omega)]; omega
  ·
   rw [wr_id (by omega) (by omega)]; simp; omega
 ·
  refine Tot.some_bind (Tot.pos (by omega) (Tot.pos (by simp; omega) (Tot.bind (id_tot s) (fun _ _ => Tot.now trivial))))
/-- A plain value of a kind. -/
theorem plain_tot (a n : Int) (s : List Int) (l : List S25) (kd : Int) (h1 : 1 ≤ kd) (h2 : kd ≤ 4) : Tot (fun k => chancellaw3_Plain.f k a n s l kd) (fun r => r.1 = kd ∧ r.2.2.2.2.2.2 = []) := by
 unfold chancellaw3_Plain.f
 refine Tot.ite (fun h => Tot.now ⟨h.symm, rfl⟩) (fun _ => Tot.ite (fun h => Tot.now ⟨h.symm, rfl⟩) (fun _ => Tot.ite (fun h => Tot.bind (id_tot s) (fun _ _ => Tot.now ⟨h.symm, rfl⟩)) (fun _ => Tot.bind (uid_tot a n s l) (fun _ _ => Tot.now ⟨?_, rfl⟩))))
 omega
theorem lessUid_tot (a b c d : ByteArray) : ∃ r, chancelref3_LessUid.f a b c d = some r := by
 unfold chancelref3_LessUid.f
 split <;> exact ⟨_, rfl⟩
theorem less_plain_tot (a0 : Int) (a1 : Bool) (a2 : Int) (a3 a4 a5 : ByteArray) (b0 : Int) (b1 : Bool) (b2 : Int) (b3 b4 b5 : ByteArray) : Tot (fun k => chancelref3_Less.f k a0 a1 a2 a3 a4 a5 [] b0 b1 b2 b3 b4 b5 []) (fun _ => True) := by
 refine Tot.step (fun k => by rw [chancelref3_Less.f]) (Tot.ite (fun _ => Tot.ite (fun _ => Tot.ite (fun _ => Tot.now trivial) (fun _ => Tot.now trivial)) (fun _ => Tot.ite (fun _ => Tot.now trivial) (fun _ => Tot.ite (fun _ => Tot.now trivial) (fun _ => Tot.ite (fun _ => ?_) (fun _ => ?_))))) (fun _ => Tot.now trivial))
 ·
  obtain ⟨r, hr⟩ := lessUid_tot a4 a5 b4 b5
  exact Tot.bind (Tot.const hr (P := fun _ => True) trivial) (fun _ _ => Tot.now trivial)
 ·
  refine Tot.step (fun k => by rw [chancelref3_Less.l0]) (Tot.neg (by simp) ?_)
  exact Tot.step (fun k => by rw [chancelref3_Less.j1]) (Tot.neg (by simp) (Tot.now trivial))
theorem same_plain_tot (a0 : Int) (a1 : Bool) (a2 : Int) (a3 a4 a5 : ByteArray) (b0 : Int) (b1 : Bool) (b2 : Int) (b3 b4 b5 : ByteArray) : Tot (fun k => chancelref3_Same.f k a0 a1 a2 a3 a4 a5 [] b0 b1 b2 b3 b4 b5 []) (fun _ => True) := by
 have hj : ∀ b, Tot (fun k => chancelref3_Same.j0 k b a0 a1 a2 a3 a4 a5 [] b0 b1 b2 b3 b4 b5 []) (fun _ => True) := fun b => by
  refine Tot.step (fun k => by rw [chancelref3_Same.j0]) (Tot.ite (fun _ => Tot.now trivial) (fun _ => ?_))
  exact Tot.step (fun k => by rw [chancelref3_Same.l0]) (Tot.neg (by simp) (Tot.now trivial))
 refine Tot.step (fun k => by rw [chancelref3_Same.f]) (Tot.ite (fun _ => Tot.ite (fun _ => hj _) (fun _ => Tot.ite (fun _ => Tot.ite (fun _ => Tot.ite (fun _ => hj _) (fun _ => hj _)) (fun _ => hj _)) (fun _ => hj _))) (fun _ => hj _))
/-- A value that is no set of anything. -/
def Flat (x : S31) : Prop := x.f5 = []
theorem less_flat (x y : S31) (hx : Flat x) (hy : Flat y) : Tot (fun k => chancelref3_Less.f k x.f0 x.f1 x.f2 x.f3 x.f4.f0 x.f4.f1 x.f5 y.f0 y.f1 y.f2 y.f3 y.f4.f0 y.f4.f1 y.f5) (fun _ => True) := by
 unfold Flat at hx hy
 rw [hx, hy]
 exact less_plain_tot ..
theorem same_flat (x y : S31) (hx : Flat x) (hy : Flat y) : Tot (fun k => chancelref3_Same.f k x.f0 x.f1 x.f2 x.f3 x.f4.f0 x.f4.f1 x.f5 y.f0 y.f1 y.f2 y.f3 y.f4.f0 y.f4.f1 y.f5) (fun _ => True) := by
 unfold Flat at hx hy
 rw [hx, hy]
 exact same_plain_tot ..
theorem rd31_mem (xs : List S31) (i : Nat) (h : i < xs.length) : rd_T31 xs (i : Int) ∈ xs := by
 unfold rd_T31
 rw [Int.toNat_natCast, List.getD_eq_getElem?_getD, List.getElem?_eq_getElem h]
 exact List.getElem_mem h
/-- What Set's answer is good for. -/
def SetP (r : Int × Bool × Int × ByteArray × ByteArray × ByteArray × (List S31) × Int) : Prop := r.2.2.2.2.2.2.1.length ≤ 8 ∧ ∀ y ∈ r.2.2.2.2.2.2.1, Flat y
theorem set_l1_tot (x0 : List S31) (hx : ∀ x ∈ x0, Flat x) (hl : x0.length ≤ 1000) : ∀ (d i : Nat) (x5 : List S31), i + d = x0.length → x5.length ≤ i → (∀ y ∈ x5, Flat y) → Tot (fun k => chancelref3_Set.l1 k x0 x5 (i : Int)) SetP
 | 0, i, x5, hi, h5, hf => by
  refine Tot.step (fun k => by rw [chancelref3_Set.l1]) (Tot.neg (by omega) (Tot.ite (fun _ => Tot.now ⟨Nat.zero_le _, fun y hy => by cases hy⟩) (fun h => Tot.now ⟨?_, hf⟩)))
  show x5.length ≤ 8
  omega
 | d + 1, i, x5, hi, h5, hf => by
  refine Tot.step (fun k => by rw [chancelref3_Set.l1]) (Tot.pos (by omega) ?_)
  have hxi : Flat (rd_T31 x0 (i : Int)) := hx _ (rd31_mem x0 i (by omega))
  have hput : ∀ j, j ≤ x5.length → Tot (fun k => chancelref3_Set.l1 k x0 (([] ++ x5.take j) ++ [(⟨(rd_T31 x0 (i : Int)).f0, (rd_T31 x0 (i : Int)).f1, (rd_T31 x0 (i : Int)).f2, (rd_T31 x0 (i : Int)).f3, (⟨(rd_T31 x0 (i : Int)).f4.f0, (rd_T31 x0 (i : Int)).f4.f1⟩ : S28), (rd_T31 x0 (i : Int)).f5⟩ : S31)] ++ x5.drop j) (wrap64 ((i : Int) + 1))) SetP := fun j hj => by
   rw [wr_succ (by omega)]
   refine set_l1_tot x0 hx hl d (i + 1) _ (by omega) ?_ ?_
   ·
    simp only [List.length_append, List.length_take, List.length_drop, List.length_cons, List.length_nil]
    omega
   ·
    intro y hy
    simp only [List.nil_append, List.append_assoc, List.mem_append, List.mem_cons, List.not_mem_nil, or_false] at hy
    rcases hy with hy | hy | hy
    ·
     exact hf y (List.mem_of_mem_take hy)
    ·
     subst hy; exact hxi
    ·
     exact hf y (List.mem_of_mem_drop hy)
  have hl2 : ∀ (e j : Nat), j + e = x5.length → Tot (fun k => chancelref3_Set.l2 k x0 x5 (i : Int) (j : Int)) SetP := by
   intro e
   induction e with
   | zero =>
    intro j hj
    refine Tot.step (fun k => by rw [chancelref3_Set.l2]) (Tot.neg (by omega) (Tot.pos (by omega) (Tot.pos (by omega) ?_)))
    refine Tot.some_bind ?_
    refine Tot.pos (by simp; omega) ?_
    refine Tot.some_bind ?_
    refine Tot.pos (by omega) ?_
    refine Tot.pos (by omega) ?_
    refine Tot.pos (by simp; omega) ?_
    refine Tot.some_bind ?_
    refine Tot.some_bind ?_
    refine Tot.pos (by simp; omega) ?_
    exact hput (j : Int).toNat (by omega)
   | succ e ih =>
    intro j hj
    refine Tot.step (fun k => by rw [chancelref3_Set.l2]) (Tot.pos (by omega) (Tot.pos (by omega) (Tot.pos (by omega) (Tot.pos (by omega) ?_))))
    have hxj : Flat (rd_T31 x5 (j : Int)) := hf _ (rd31_mem x5 j (by omega))
    refine Tot.bind (less_flat _ _ hxj hxi) (fun t _ => Tot.ite (fun _ => ?_) (fun _ => ?_))
    ·
     rw [wr_succ (by omega)]
     exact ih (j + 1) (by omega)
    ·
     refine Tot.bind (same_flat _ _ hxj hxi) (fun t _ => Tot.ite (fun _ => ?_) (fun _ => ?_))
     ·
      rw [wr_succ (by omega)]
      exact set_l1_tot x0 hx hl d (i + 1) x5 (by omega) (by omega) hf
     ·
      refine Tot.pos (by omega) ?_
      refine Tot.some_bind ?_
      refine Tot.pos (by simp; omega) ?_
      refine Tot.some_bind ?_
      refine Tot.pos (by simp; omega) ?_
      refine Tot.some_bind ?_
      refine Tot.some_bind ?_
      refine Tot.pos (by simp; omega) ?_
      exact hput (j : Int).toNat (by omega)
  exact hl2 x5.length 0 (by omega)
theorem set_tot (x0 : List S31) (hx : ∀ x ∈ x0, Flat x) (hl : x0.length ≤ 1000) : Tot (fun k => chancelref3_Set.f k x0) SetP := by
 unfold chancelref3_Set.f
 have h0 : ∀ (d i : Nat), i + d = x0.length → Tot (fun k => chancelref3_Set.l0 k x0 (i : Int)) SetP := by
  intro d
  induction d with
  | zero =>
   intro i hi
   refine Tot.step (fun k => by rw [chancelref3_Set.l0]) (Tot.neg (by omega) ?_)
   exact set_l1_tot x0 hx hl x0.length 0 [] (by omega) (Nat.zero_le _) (fun y hy => by cases hy)
  | succ d ih =>
   intro i hi
   refine Tot.step (fun k => by rw [chancelref3_Set.l0]) (Tot.pos (by omega) (Tot.pos (by omega) (Tot.ite (fun _ => Tot.now ⟨Nat.zero_le _, fun y hy => by cases hy⟩) (fun _ => Tot.pos (by omega) (Tot.ite (fun _ => ?_) (fun _ => Tot.now ⟨Nat.zero_le _, fun y hy => by cases hy⟩))))))
   rw [wr_succ (by omega)]
   exact ih (i + 1) (by omega)
 exact h0 x0.length 0 (by omega)
/-- A value whose row is short, of such ats have none. -/
def Low (x : S31) : Prop := x.f5.length ≤ 8 ∧ ∀ y ∈ x.f5, Flat y
theorem Flat.low {x : S31} (h : Flat x) : Low x := ⟨by unfold Flat at h; rw [h]; simp, fun y hy => by unfold Flat at h; rw [h] at hy; cases hy⟩
abbrev tupV (r : Int × Bool × Int × ByteArray × ByteArray × ByteArray × (List S31)) : S31 := ⟨r.1, r.2.1, r.2.2.1, r.2.2.2.1, ⟨r.2.2.2.2.1, r.2.2.2.2.2.1⟩, r.2.2.2.2.2.2⟩
theorem good_tot (a n : Int) (s : List Int) (l : List S25) : Tot (fun k => chancellaw3_Good.f k a n s l) (fun r => Low (tupV r)) := by
 unfold chancellaw3_Good.f
 obtain ⟨r, hr, h0, h1⟩ := within_tot3 a 5 (by decide) (by decide)
 refine Tot.bind (Tot.const hr (P := fun r => 0 ≤ r ∧ r < 5) ⟨h0, h1⟩) (fun t ht => ?_)
 rw [wr_id (by omega) (by omega)]
 refine Tot.ite (fun h => ?_) (fun _ => ?_)
 ·
  exact Tot.bind (plain_tot a n s l (1 + t) (by omega) (by omega)) (fun b hb => Tot.now (Flat.low hb.2))
 ·
  have key : ∀ (d i : Nat) (x4 : List S31), i + d = 8 → x4.length = i → (∀ y ∈ x4, Flat y) → Tot (fun k => chancellaw3_Good.l0 k x4 (i : Int) a n s l) (fun r => Low (tupV r)) := by
   intro d
   induction d with
   | zero =>
    intro i x4 hi hl hf
    have hend : Tot (fun k => chancellaw3_Good.j1 k x4 (i : Int) false a n s l) (fun r => Low (tupV r)) := by
     refine Tot.step (fun k => by rw [chancellaw3_Good.j1]) (Tot.neg (by simp) ?_)
     exact Tot.bind (set_tot x4 hf (by omega)) (fun b hb => Tot.now hb)
    refine Tot.step (fun k => by rw [chancellaw3_Good.l0]) (Tot.ite (fun _ => ?_) (fun _ => hend))
    rw [decide_eq_false (by omega)]
    exact hend
   | succ d ih =>
    intro i x4 hi hl hf
    refine Tot.step (fun k => by rw [chancellaw3_Good.l0]) (Tot.ite (fun hlt => ?_) (fun _ => ?_))
    ·
     rw [decide_eq_true (by omega)]
     refine Tot.step (fun k => by rw [chancellaw3_Good.j1]) ?_
     refine Tot.pos rfl ?_
     refine Tot.pos (by omega) ?_
     refine Tot.pos hlt ?_
     obtain ⟨r2, hr2, g0, g1⟩ := within_tot3 (wrap64 (Int.tdiv a 5)) 4 (by decide) (by decide)
     refine Tot.bind (Tot.const hr2 (P := fun r => 0 ≤ r ∧ r < 4) ⟨g0, g1⟩) (fun t2 ht2 => ?_)
     rw [wr_id (by omega) (by omega)]
     refine Tot.bind (plain_tot _ _ _ _ (1 + t2) (by omega) (by omega)) (fun b hb => ?_)
     refine Tot.pos (by omega) ?_
     rw [wr_succ (by omega)]
     refine ih (i + 1) _ (by omega) (by simp [hl]) ?_
     intro y hy
     rcases List.mem_append.1 hy with hy | hy
     ·
      exact hf y hy
     ·
      simp only [List.mem_cons, List.not_mem_nil, or_false] at hy
      subst hy
      exact hb.2
    ·
     refine Tot.step (fun k => by rw [chancellaw3_Good.j1]) (Tot.neg (by simp) ?_)
     exact Tot.bind (set_tot x4 hf (by omega)) (fun b hb => Tot.now hb)
  exact key 8 0 [] rfl rfl (fun y hy => by cases hy)
theorem within_tot5 (a m : Int) (hm : 0 < m) (hm2 : m ≤ 1000000) : ∃ r, chancellaw5_within.f a m = some r ∧ 0 ≤ r ∧ r < m := by
 unfold chancellaw5_within.f
 have h1 := Int.tmod_lt_of_pos a hm
 have h2 := tmod_gt a m hm
 rw [if_neg (by omega)]
 split
 ·
  exact ⟨_, rfl, by rw [wr_id (by omega) (by omega)]; omega, by rw [wr_id (by omega) (by omega)]; omega⟩
 ·
  exact ⟨_, rfl, by omega, h1⟩
theorem kind_tot (a : Int) : ∃ r, chancellaw5_kind.f a = some r := by
 unfold chancellaw5_kind.f
 obtain ⟨r, hr, h0, h1⟩ := within_tot5 a 4 (by decide) (by decide)
 rw [Option.bind_some, hr, Option.bind_some, if_pos h0, if_pos (by simp; omega)]
 exact ⟨_, rfl⟩
theorem name_tot (a : Int) : ∃ r, chancellaw5_name.f a = some r := by
 unfold chancellaw5_name.f
 obtain ⟨r, hr, h0, h1⟩ := within_tot5 a 7 (by decide) (by decide)
 rw [Option.bind_some, hr, Option.bind_some, if_pos h0, if_pos (by simp; omega)]
 exact ⟨_, rfl⟩
/-- An entity such ats the law's. -/
def EntP (x : S46) : Prop := x.f1.length ≤ 3 ∧ x.f2.length ≤ 3 ∧ ∀ a ∈ x.f2, Low a.f1
abbrev tupE (r : ByteArray × ByteArray × (List S28) × (List S49)) : S46 := ⟨⟨r.1, r.2.1⟩, r.2.2.1, r.2.2.2⟩
theorem entity_tot (t n : Int) (ps ns : List Int) (vs : List S25) : Tot (fun k => chancellaw5_Entity.f k t n ps ns vs) (fun r => EntP (tupE r)) := by
 unfold chancellaw5_Entity.f
 obtain ⟨kd, hkd⟩ := kind_tot t
 refine Tot.bind (Tot.const hkd (P := fun _ => True) trivial) (fun t1 _ => ?_)
 obtain ⟨r, hr, h0, h1⟩ := within_tot5 n 5 (by decide) (by decide)
 refine Tot.bind (Tot.const hr (P := fun _ => True) trivial) (fun t2 _ => ?_)
 generalize strOfNums (([(wrap64 (97 + t2)) % 256] : List Int)) = u1
 have key2 : ∀ (d i : Nat) (us : List S28) (ats : List S49), i + d = 3 → ats.length = i → us.length ≤ 3 → (∀ a ∈ ats, Low a.f1) → Tot (fun k => chancellaw5_Entity.l1 k (i : Int) t n ps ns vs t1 u1 us ats) (fun r => EntP (tupE r)) := by
  intro d
  induction d with
  | zero =>
   intro i us ats hi hl hu hf
   have hend : Tot (fun k => chancellaw5_Entity.j3 k (i : Int) false t n ps ns vs t1 u1 us ats) (fun r => EntP (tupE r)) :=
    Tot.step (fun k => by rw [chancellaw5_Entity.j3]) (Tot.neg (by simp) (Tot.now ⟨hu, by show ats.length ≤ 3; omega, hf⟩))
   have hd : decide ((i : Int) < 3) = false := decide_eq_false (by omega)
   refine Tot.step (fun k => by rw [chancellaw5_Entity.l1]) (Tot.ite (fun _ => Tot.ite (fun _ => ?_) (fun _ => hend)) (fun _ => hend))
   rw [hd]
   exact hend
  | succ d ih =>
   intro i us ats hi hl hu hf
   have hend : Tot (fun k => chancellaw5_Entity.j3 k (i : Int) false t n ps ns vs t1 u1 us ats) (fun r => EntP (tupE r)) :=
    Tot.step (fun k => by rw [chancellaw5_Entity.j3]) (Tot.neg (by simp) (Tot.now ⟨hu, by show ats.length ≤ 3; omega, hf⟩))
   refine Tot.step (fun k => by rw [chancellaw5_Entity.l1]) (Tot.ite (fun hn => Tot.ite (fun hv => ?_) (fun _ => hend)) (fun _ => hend))
   rw [decide_eq_true (by omega)]
   refine Tot.step (fun k => by rw [chancellaw5_Entity.j3]) ?_
   refine Tot.pos rfl ?_
   refine Tot.pos (by omega) ?_
   refine Tot.pos hv ?_
   refine Tot.bind (good_tot _ _ _ _) (fun b hb => ?_)
   obtain ⟨nm, hnm⟩ := name_tot (rd ns (i : Int))
   have next : ∀ (nm : ByteArray) (v : S31), Low v → Tot (fun k => chancellaw5_Entity.l1 k (wrap64 ((i : Int) + 1)) t n ps ns vs t1 u1 us (ats ++ [⟨nm, v⟩])) (fun r => EntP (tupE r)) := fun nm v hv => by
    rw [wr_succ (by omega)]
    refine ih (i + 1) us _ (by omega) (by simp [hl]) hu ?_
    intro a ha
    rcases List.mem_append.1 ha with ha | ha
    ·
     exact hf a ha
    ·
     simp only [List.mem_cons, List.not_mem_nil, or_false] at ha
     subst ha
     exact hv
   refine Tot.ite (fun h3 => ?_) (fun _ => ?_)
   ·
    refine Tot.pos (by omega) ?_
    refine Tot.pos hn ?_
    refine Tot.bind (Tot.const hnm (P := fun _ => True) trivial) (fun nm _ => ?_)
    refine Tot.pos (by omega) ?_
    refine next nm _ ⟨?_, ?_⟩
    ·
     show (List.take (3 : Int).toNat b.2.2.2.2.2.2).length ≤ 8
     rw [List.length_take]
     have : (3 : Int).toNat = 3 := rfl
     omega
    ·
     intro y hy
     exact hb.2 y (List.mem_of_mem_take hy)
   ·
    refine Tot.pos hn ?_
    refine Tot.bind (Tot.const hnm (P := fun _ => True) trivial) (fun nm _ => ?_)
    refine Tot.pos (by omega) ?_
    exact next nm _ hb
 have key1 : ∀ (d i : Nat) (us : List S28), i + d = 3 → us.length = i → Tot (fun k => chancellaw5_Entity.l0 k (i : Int) t n ps ns vs t1 u1 us) (fun r => EntP (tupE r)) := by
  intro d
  induction d with
  | zero =>
   intro i us hi hl
   have hend : Tot (fun k => chancellaw5_Entity.j1 k (i : Int) false t n ps ns vs t1 u1 us) (fun r => EntP (tupE r)) := by
    refine Tot.step (fun k => by rw [chancellaw5_Entity.j1]) (Tot.neg (by simp) ?_)
    exact key2 3 0 us [] rfl rfl (by omega) (fun a ha => by cases ha)
   have hd : decide ((i : Int) < 3) = false := decide_eq_false (by omega)
   refine Tot.step (fun k => by rw [chancellaw5_Entity.l0]) (Tot.ite (fun _ => ?_) (fun _ => hend))
   rw [hd]
   exact hend
  | succ d ih =>
   intro i us hi hl
   refine Tot.step (fun k => by rw [chancellaw5_Entity.l0]) (Tot.ite (fun hn => ?_) (fun _ => ?_))
   ·
    rw [decide_eq_true (by omega)]
    refine Tot.step (fun k => by rw [chancellaw5_Entity.j1]) ?_
    refine Tot.pos rfl ?_
    refine Tot.pos (by omega) ?_
    refine Tot.pos hn ?_
    obtain ⟨kd2, hkd2⟩ := kind_tot (rd ps (i : Int))
    refine Tot.bind (Tot.const hkd2 (P := fun _ => True) trivial) (fun t3 _ => ?_)
    obtain ⟨r3, hr3, _, _⟩ := within_tot5 (wrap64 (Int.tdiv (rd ps (i : Int)) 4)) 5 (by decide) (by decide)
    refine Tot.bind (Tot.const hr3 (P := fun _ => True) trivial) (fun t4 _ => ?_)
    refine Tot.pos (by omega) ?_
    rw [wr_succ (by omega)]
    exact ih (i + 1) _ (by omega) (by simp [hl])
   ·
    refine Tot.step (fun k => by rw [chancellaw5_Entity.j1]) (Tot.neg (by simp) ?_)
    exact key2 3 0 us [] rfl rfl (by omega) (fun a ha => by cases ha)
 exact key1 3 0 [] rfl rfl
theorem smV_flat {x : S31} (h : Flat x) : GT.smV x = true := by
 obtain ⟨a, b, c, d, e, l⟩ := x
 have : l = [] := h
 subst this
 rfl
theorem smL_flat : ∀ (l : List S31), (∀ y ∈ l, Flat y) → GT.smL l = true
 | [], _ => rfl
 | x :: xs, h => by
  simp only [GT.smL, Bool.and_eq_true]
  exact ⟨smV_flat (h x (List.mem_cons_self ..)), smL_flat xs (fun y hy => h y (List.mem_cons_of_mem _ hy))⟩
theorem smV_low {x : S31} (h : Low x) : GT.smV x = true := by
 obtain ⟨a, b, c, d, e, l⟩ := x
 have h1 : l.length ≤ 8 := h.1
 simp only [GT.smV, Bool.and_eq_true, decide_eq_true_eq]
 exact ⟨by omega, smL_flat l h.2⟩
theorem smE_ent {x : S46} (h : EntP x) : GT.smE x = true := by
 simp only [GT.smE, Bool.and_eq_true, decide_eq_true_eq, List.all_eq_true]
 exact ⟨by have := h.1; omega, by have := h.2.1; omega, fun a ha => smV_low (h.2.2 a ha)⟩
theorem bl_irr : ∀ (x : List UInt8), Op.bytesLess x x = false
 | [] => rfl
 | a :: x => by simp only [Op.bytesLess, bl_irr x, Bool.and_false, Bool.or_false, decide_eq_false_iff_not]; exact UInt8.lt_irrefl a
theorem bl_cons {a b : UInt8} {x y : List UInt8} : Op.bytesLess (a :: x) (b :: y) = true ↔ a.toNat < b.toNat ∨ (a.toNat = b.toNat ∧ Op.bytesLess x y = true) := by
 simp only [Op.bytesLess, Bool.or_eq_true, decide_eq_true_eq, Bool.and_eq_true, beq_iff_eq, UInt8.lt_iff_toNat_lt, ← UInt8.toNat_inj]
theorem bl_trans : ∀ {x y z : List UInt8}, Op.bytesLess x y = true → Op.bytesLess y z = true → Op.bytesLess x z = true
 | _, [], _, h, _ => by simp [Op.bytesLess] at h
 | _, _ :: _, [], _, h => by simp [Op.bytesLess] at h
 | [], _ :: _, _ :: _, _, _ => by simp [Op.bytesLess]
 | a :: x, b :: y, c :: z, h1, h2 => by
  rw [bl_cons] at h1 h2 ⊢
  rcases h1 with h1 | ⟨h1, h1'⟩
  ·
   rcases h2 with h2 | ⟨h2, h2'⟩
   ·
    exact .inl (by omega)
   ·
    exact .inl (by omega)
  ·
   rcases h2 with h2 | ⟨h2, h2'⟩
   ·
    exact .inl (by omega)
   ·
    exact .inr ⟨by omega, bl_trans h1' h2'⟩
theorem bl_tri : ∀ (x y : List UInt8), Op.bytesLess x y = true ∨ x = y ∨ Op.bytesLess y x = true
 | [], [] => .inr (.inl rfl)
 | [], _ :: _ => .inl (by simp [Op.bytesLess])
 | _ :: _, [] => .inr (.inr (by simp [Op.bytesLess]))
 | a :: x, b :: y => by
  rw [bl_cons, bl_cons]
  rcases Nat.lt_trichotomy a.toNat b.toNat with h | h | h
  ·
   exact .inl (.inl h)
  ·
   rcases bl_tri x y with g | g | g
   ·
    exact .inl (.inr ⟨h, g⟩)
   ·
    exact .inr (.inl (by rw [g, UInt8.toNat_inj.1 h]))
   ·
    exact .inr (.inr (.inr ⟨h.symm, g⟩))
  ·
   exact .inr (.inr (.inl h))
/-- The words a uid stands by. -/
abbrev key (x : S46) : List UInt8 × List UInt8 := (x.f0.f0.toList, x.f0.f1.toList)
def kl (a b : List UInt8 × List UInt8) : Prop := Op.bytesLess a.1 b.1 = true ∨ (a.1 = b.1 ∧ Op.bytesLess a.2 b.2 = true)
theorem kl_irr (a : List UInt8 × List UInt8) : ¬ kl a a := by rintro (h | ⟨_, h⟩) <;> rw [bl_irr] at h <;> exact absurd h (by decide)
theorem kl_trans {a b c : List UInt8 × List UInt8} (h1 : kl a b) (h2 : kl b c) : kl a c := by
 rcases h1 with h1 | ⟨h1, h1'⟩
 ·
  rcases h2 with h2 | ⟨h2, h2'⟩
  ·
   exact .inl (bl_trans h1 h2)
  ·
   exact .inl (h2 ▸ h1)
 ·
  rcases h2 with h2 | ⟨h2, h2'⟩
  ·
   exact .inl (by rw [h1]; exact h2)
  ·
   exact .inr ⟨h1.trans h2, bl_trans h1' h2'⟩
theorem kl_tri (a b : List UInt8 × List UInt8) : kl a b ∨ a = b ∨ kl b a := by
 obtain ⟨a1, a2⟩ := a
 obtain ⟨b1, b2⟩ := b
 rcases bl_tri a1 b1 with h | h | h
 ·
  exact .inl (.inl h)
 ·
  subst h
  rcases bl_tri a2 b2 with g | g | g
  ·
   exact .inl (.inr ⟨rfl, g⟩)
  ·
   exact .inr (.inl (by rw [g]))
  ·
   exact .inr (.inr (.inr ⟨rfl, g⟩))
 ·
  exact .inr (.inr (.inl h))
theorem less_kl (a b c d : ByteArray) (h : kl (a.toList, b.toList) (c.toList, d.toList)) : chancelref3_LessUid.f a b c d = some true := by
 unfold chancelref3_LessUid.f
 rcases h with h | ⟨h, h'⟩
 ·
  split
  ·
   rename_i e
   simp only at h
   rw [e, bl_irr] at h
   exact absurd h (by decide)
  ·
   exact congrArg some h
 ·
  rw [if_pos h]
  exact congrArg some h'
theorem cmpU_kl (a b c d : ByteArray) : cmpU a b c d < 0 ↔ kl (a.toList, b.toList) (c.toList, d.toList) := by
 unfold cmpU orI cmpS kl
 by_cases h : Op.bytesLess a.toList c.toList = true
 ·
  simp [h]
 ·
  by_cases e : a.toList = c.toList
  ·
   rw [e, bl_irr]
   simp
   by_cases h2 : Op.bytesLess b.toList d.toList = true
   ·
    simp [h2]
   ·
    by_cases e2 : b.toList = d.toList
    ·
     simp [e2, bl_irr]
    ·
     simp [h2, e2]
  ·
   simp [h, e]
theorem search_spec (p : Nat → Bool) (n : Nat) (hm : ∀ i j, i ≤ j → j < n → p i = true → p j = true) : ∀ (k a b : Nat), a ≤ b → b ≤ n → b ≤ a + k → (∀ i, i < a → p i = false) → (b < n → p b = true) → searchF p k a b ≤ n ∧ (∀ i, i < searchF p k a b → p i = false) ∧ (∀ i, searchF p k a b ≤ i → i < n → p i = true)
 | 0, a, b, h1, h2, h3, h4, h5 => by
  have : a = b := by omega
  subst this
  exact ⟨h2, h4, fun i hi hn => hm a i hi hn (h5 (by simp only [searchF] at hi; omega))⟩
 | k + 1, a, b, h1, h2, h3, h4, h5 => by
  rw [searchF]
  by_cases hab : a < b
  ·
   rw [if_pos hab]
   cases hp : p ((a + b) / 2) with
   | true =>
    rw [if_pos rfl]
    exact search_spec p n hm k a ((a + b) / 2) (by omega) (by omega) (by omega) h4 (fun _ => hp)
   | false =>
    rw [if_neg (by decide)]
    refine search_spec p n hm k ((a + b) / 2 + 1) b (by omega) h2 (by omega) (fun i hi => ?_) h5
    cases hq : p i with
    | false => rfl
    | true => have := hm i ((a + b) / 2) (by omega) (by omega) hq; rw [hp] at this; exact absurd this (by decide)
  ·
   rw [if_neg hab]
   have : a = b := by omega
   subst this
   exact ⟨h2, h4, fun i hi hn => hm a i hi hn (h5 (by omega))⟩
abbrev Sorted (l : List S46) : Prop := l.Pairwise (fun x y => kl (key x) (key y))
theorem sorted_get {l : List S46} (h : Sorted l) {i j : Nat} {x y : S46} (hx : l[i]? = some x) (hy : l[j]? = some y) (hij : i < j) : kl (key x) (key y) := by
 obtain ⟨hi, rfl⟩ := List.getElem?_eq_some_iff.1 hx
 obtain ⟨hj, rfl⟩ := List.getElem?_eq_some_iff.1 hy
 exact (List.pairwise_iff_getElem.1 h) i j hi hj hij
theorem atP_some {l : List S46} {u0 u1 : ByteArray} {i : Nat} {x : S46} (hx : l[i]? = some x) : GT.atP l u0 u1 i = true ↔ ¬ kl (key x) (u0.toList, u1.toList) := by
 unfold GT.atP
 rw [hx]
 simp only [Bool.not_eq_true', decide_eq_false_iff_not]
 exact not_congr (cmpU_kl _ _ _ _)
theorem atI_spec (l : List S46) (hl : Sorted l) (u0 u1 : ByteArray) : GT.atI l u0 u1 ≤ l.length ∧ (∀ i x, i < GT.atI l u0 u1 → l[i]? = some x → kl (key x) (u0.toList, u1.toList)) ∧ (∀ i x, GT.atI l u0 u1 ≤ i → l[i]? = some x → ¬ kl (key x) (u0.toList, u1.toList)) := by
 have hm : ∀ i j, i ≤ j → j < l.length → GT.atP l u0 u1 i = true → GT.atP l u0 u1 j = true := fun i j hij hj hp => by
  have hxi : l[i]? = some l[i] := List.getElem?_eq_getElem (by omega)
  have hxj : l[j]? = some l[j] := List.getElem?_eq_getElem hj
  rw [atP_some hxi] at hp
  rw [atP_some hxj]
  intro hk
  rcases Nat.lt_or_eq_of_le hij with h | h
  ·
   exact hp (kl_trans (sorted_get hl hxi hxj h) hk)
  ·
   subst h; exact hp hk
 obtain ⟨g1, g2, g3⟩ := search_spec (GT.atP l u0 u1) l.length hm l.length 0 l.length (Nat.zero_le _) (Nat.le_refl _) (by omega) (fun i hi => absurd hi (Nat.not_lt_zero _)) (fun h => absurd h (Nat.lt_irrefl _))
 refine ⟨g1, fun i x hi hx => ?_, fun i x hi hx => ?_⟩
 ·
  have := g2 i hi
  by_cases hk : kl (key x) (u0.toList, u1.toList)
  ·
   exact hk
  ·
   rw [(atP_some hx).2 hk] at this; exact absurd this (by decide)
 ·
  exact (atP_some hx).1 (g3 i hi (List.getElem?_eq_some_iff.1 hx).1)
theorem at_split (l : List S46) (hl : Sorted l) (u0 u1 : ByteArray) : ∃ A B, l = A ++ B ∧ A.length = GT.atI l u0 u1 ∧ (∀ y ∈ A, kl (key y) (u0.toList, u1.toList)) ∧ (∀ y ∈ B, ¬ kl (key y) (u0.toList, u1.toList)) := by
 obtain ⟨g1, g2, g3⟩ := atI_spec l hl u0 u1
 refine ⟨l.take (GT.atI l u0 u1), l.drop (GT.atI l u0 u1), (List.take_append_drop _ _).symm, by rw [List.length_take]; omega, fun y hy => ?_, fun y hy => ?_⟩
 ·
  obtain ⟨i, hi, rfl⟩ := List.getElem_of_mem hy
  rw [List.length_take] at hi
  exact g2 i _ (by omega) (by rw [List.getElem_take]; exact List.getElem?_eq_getElem (by omega))
 ·
  obtain ⟨i, hi, rfl⟩ := List.getElem_of_mem hy
  rw [List.length_drop] at hi
  exact g3 (GT.atI l u0 u1 + i) _ (by omega) (by rw [List.getElem_drop]; exact List.getElem?_eq_getElem (by omega))
theorem atB_split {l A B : List S46} {u0 u1 : ByteArray} (h : l = A ++ B) (hA : A.length = GT.atI l u0 u1) : GT.atB l u0 u1 = true ↔ ∃ y B', B = y :: B' ∧ key y = (u0.toList, u1.toList) := by
 unfold GT.atB
 have e : l[GT.atI l u0 u1]? = B[0]? := by
  rw [← hA]
  conv => lhs; rw [h]
  rw [List.getElem?_append_right (Nat.le_refl _), Nat.sub_self]
 rw [e]
 cases B with
 | nil => simp
 | cons y B' =>
  simp only [List.getElem?_cons_zero, Bool.and_eq_true, beq_iff_eq]
  constructor
  ·
   rintro ⟨a, b⟩; exact ⟨y, B', rfl, Prod.ext a b⟩
  ·
   rintro ⟨y', B'', e1, e2⟩
   obtain ⟨rfl, rfl⟩ := List.cons.inj e1
   exact ⟨congrArg Prod.fst e2, congrArg Prod.snd e2⟩
theorem atB_iff (l : List S46) (hl : Sorted l) (u0 u1 : ByteArray) : GT.atB l u0 u1 = true ↔ ∃ y ∈ l, key y = (u0.toList, u1.toList) := by
 obtain ⟨A, B, h, hA, g1, g2⟩ := at_split l hl u0 u1
 rw [atB_split h hA]
 constructor
 ·
  rintro ⟨y, B', rfl, hy⟩
  exact ⟨y, by rw [h]; simp, hy⟩
 ·
  rintro ⟨y, hy, hk⟩
  rw [h] at hy hl
  rcases List.mem_append.1 hy with hy | hy
  ·
   exact absurd (g1 y hy) (by rw [hk]; exact kl_irr _)
  ·
   cases B with
   | nil => cases hy
   | cons z B' =>
    rcases List.mem_cons.1 hy with hy | hy
    ·
     subst hy; exact ⟨y, B', rfl, hk⟩
    ·
     have hz := (List.pairwise_cons.1 (List.pairwise_append.1 hl).2.1).1 y hy
     rw [hk] at hz
     exact absurd hz (g2 z (List.mem_cons_self ..))
theorem put_spec (l : List S46) (hl : Sorted l) (x : S46) : Sorted (GT.putF l x) ∧ (∀ y, y ∈ GT.putF l x ↔ y = x ∨ (y ∈ l ∧ key y ≠ key x)) ∧ (GT.putF l x).length ≤ l.length + 1 := by
 obtain ⟨A, B, h, hA, g1, g2⟩ := at_split l hl x.f0.f0 x.f0.f1
 have hB := atB_split h hA
 unfold GT.putF
 by_cases hb : GT.atB l x.f0.f0 x.f0.f1 = true
 ·
  rw [if_pos hb]
  obtain ⟨z, B', rfl, hz⟩ := hB.1 hb
  have hz : key z = key x := hz
  have e : l.set (GT.atI l x.f0.f0 x.f0.f1) x = A ++ x :: B' := by
   rw [← hA]
   conv => lhs; rw [h]
   rw [List.set_append_right _ _ (Nat.le_refl _), Nat.sub_self, List.set_cons_zero]
  rw [e]
  rw [h] at hl
  obtain ⟨p1, p2, p3⟩ := List.pairwise_append.1 hl
  obtain ⟨p4, p5⟩ := List.pairwise_cons.1 p2
  have q1 : ∀ y ∈ B', kl (key x) (key y) := fun y hy => by have := p4 y hy; rw [hz] at this; exact this
  have q2 : ∀ y ∈ A, kl (key y) (key x) := fun y hy => by have := p3 y hy z (List.mem_cons_self ..); rw [hz] at this; exact this
  refine ⟨List.pairwise_append.2 ⟨p1, List.pairwise_cons.2 ⟨q1, p5⟩, fun y hy y' hy' => ?_⟩, fun y => ?_, ?_⟩
  ·
   rcases List.mem_cons.1 hy' with e1 | e1
   ·
    subst e1; exact q2 y hy
   ·
    exact p3 y hy y' (List.mem_cons_of_mem _ e1)
  ·
   rw [h]
   simp only [List.mem_append, List.mem_cons]
   constructor
   ·
    rintro (hy | rfl | hy)
    ·
     exact .inr ⟨.inl hy, fun e1 => kl_irr (key x) (by have := q2 y hy; rw [e1] at this; exact this)⟩
    ·
     exact .inl rfl
    ·
     exact .inr ⟨.inr (.inr hy), fun e1 => kl_irr (key x) (by have := q1 y hy; rw [e1] at this; exact this)⟩
   ·
    rintro (rfl | ⟨hy | rfl | hy, hne⟩)
    ·
     exact .inr (.inl rfl)
    ·
     exact .inl hy
    ·
     exact absurd hz hne
    ·
     exact .inr (.inr hy)
  ·
   rw [h]; simp
 ·
  rw [if_neg hb]
  have e : l.take (GT.atI l x.f0.f0 x.f0.f1) ++ [x] ++ l.drop (GT.atI l x.f0.f0 x.f0.f1) = A ++ x :: B := by
   rw [← hA]
   conv => lhs; rw [h]
   simp
  rw [e]
  have q2 : ∀ y ∈ A, kl (key y) (key x) := g1
  have q1 : ∀ y ∈ B, kl (key x) (key y) := fun y hy => by
   rcases kl_tri (key y) (key x) with k1 | k1 | k1
   ·
    exact absurd k1 (g2 y hy)
   ·
    exact absurd ((atB_iff l hl x.f0.f0 x.f0.f1).2 ⟨y, by rw [h]; exact List.mem_append.2 (.inr hy), k1⟩) hb
   ·
    exact k1
  rw [h] at hl
  obtain ⟨p1, p2, p3⟩ := List.pairwise_append.1 hl
  refine ⟨List.pairwise_append.2 ⟨p1, List.pairwise_cons.2 ⟨q1, p2⟩, fun y hy y' hy' => ?_⟩, fun y => ?_, ?_⟩
  ·
   rcases List.mem_cons.1 hy' with e1 | e1
   ·
    subst e1; exact q2 y hy
   ·
    exact p3 y hy y' e1
  ·
   rw [h]
   simp only [List.mem_append, List.mem_cons]
   constructor
   ·
    rintro (hy | rfl | hy)
    ·
     exact .inr ⟨.inl hy, fun e1 => kl_irr (key x) (by have := q2 y hy; rw [e1] at this; exact this)⟩
    ·
     exact .inl rfl
    ·
     exact .inr ⟨.inr hy, fun e1 => kl_irr (key x) (by have := q1 y hy; rw [e1] at this; exact this)⟩
   ·
    rintro (rfl | ⟨hy | hy, hne⟩)
    ·
     exact .inr (.inl rfl)
    ·
     exact .inl hy
    ·
     exact .inr (.inr hy)
  ·
   rw [h]; simp; omega
theorem sorted_ext : ∀ (a b : List S46), Sorted a → Sorted b → (∀ y, y ∈ a ↔ y ∈ b) → a = b
 | [], [], _, _, _ => rfl
 | [], y :: b, _, _, h => absurd ((h y).2 (List.mem_cons_self ..)) (by simp)
 | x :: a, [], _, _, h => absurd ((h x).1 (List.mem_cons_self ..)) (by simp)
 | x :: a, y :: b, ha, hb, h => by
  obtain ⟨a1, a2⟩ := List.pairwise_cons.1 ha
  obtain ⟨b1, b2⟩ := List.pairwise_cons.1 hb
  have e : x = y := by
   rcases List.mem_cons.1 ((h x).1 (List.mem_cons_self ..)) with h1 | h1
   ·
    exact h1
   ·
    rcases List.mem_cons.1 ((h y).2 (List.mem_cons_self ..)) with h2 | h2
    ·
     exact h2.symm
    ·
     exact absurd (kl_trans (a1 y h2) (b1 x h1)) (kl_irr _)
  subst e
  refine congrArg (x :: ·) (sorted_ext a b a2 b2 (fun z => ⟨fun hz => ?_, fun hz => ?_⟩))
  ·
   rcases List.mem_cons.1 ((h z).1 (List.mem_cons_of_mem _ hz)) with h1 | h1
   ·
    subst h1; exact absurd (a1 z hz) (kl_irr _)
   ·
    exact h1
  ·
   rcases List.mem_cons.1 ((h z).2 (List.mem_cons_of_mem _ hz)) with h1 | h1
   ·
    subst h1; exact absurd (b1 z hz) (kl_irr _)
   ·
    exact h1
theorem sameV_refl : ∀ (n : Nat) (x : S31), SizeOf.sizeOf x < n → GT.sameV x x = true
 | 0, _, h => absurd h (Nat.not_lt_zero _)
 | n + 1, x, h => by
  have hl : ∀ (l : List S31), SizeOf.sizeOf l < n → GT.sameL l l = true := by
   intro l
   induction l with
   | nil => intro _; rfl
   | cons y ys ih =>
    intro hs
    have e : SizeOf.sizeOf (y :: ys) = 1 + SizeOf.sizeOf y + SizeOf.sizeOf ys := rfl
    simp only [GT.sameL, Bool.and_eq_true]
    exact ⟨sameV_refl n y (by omega), ih (by omega)⟩
  rw [GT.sameV_eq]
  have : SizeOf.sizeOf x.f5 < SizeOf.sizeOf x := by
   obtain ⟨a, b, c, d, e, l⟩ := x
   show SizeOf.sizeOf l < SizeOf.sizeOf (⟨a, b, c, d, e, l⟩ : S31)
   simp only [S31.mk.sizeOf_spec]
   omega
  rw [hl x.f5 (by omega)]
  simp
theorem sameUs_refl : ∀ (l : List S28), GT.sameUs l l = true
 | [] => rfl
 | x :: xs => by simp [GT.sameUs, GT.sameU, sameUs_refl xs]
theorem sameAs_refl : ∀ (l : List S49), GT.sameAs l l = true
 | [] => rfl
 | x :: xs => by simp [GT.sameAs, GT.sameA, sameAs_refl xs, sameV_refl _ x.f1 (Nat.lt_succ_self _)]
theorem sameEn_refl (x : S46) : GT.sameEn x x = true := by simp [GT.sameEn, sameUs_refl, sameAs_refl]
section
variable (x0 : List S42)
abbrev eG (i : Nat) (k : Nat) : Option (ByteArray × ByteArray × (List S28) × (List S49)) := chancellaw5_Entity.f k ((rd_T42 x0 (i : Int)).f0) ((rd_T42 x0 (i : Int)).f1) ((rd_T42 x0 (i : Int)).f2) ((rd_T42 x0 (i : Int)).f3) ((rd_T42 x0 (i : Int)).f4)
theorem eG_tot (i : Nat) : Tot (eG x0 i) (fun r => EntP (tupE r)) := entity_tot ..
/-- The entity at a place. -/
noncomputable def eR (i : Nat) : ByteArray × ByteArray × (List S28) × (List S49) := Classical.choose (eG_tot x0 i)
noncomputable def eE (i : Nat) : S46 := tupE (eR x0 i)
theorem eR_tot (i : Nat) : Tot (eG x0 i) (fun r => r = eR x0 i) := ⟨_, (Classical.choose_spec (eG_tot x0 i)).1, rfl⟩
theorem eE_p (i : Nat) : EntP (eE x0 i) := (Classical.choose_spec (eG_tot x0 i)).2
def InA (i : Nat) (y : S46) : Prop := ∃ j, j < i ∧ eE x0 j = y ∧ ∀ m, j < m → m < i → key (eE x0 m) ≠ key y
def InB (i n : Nat) (y : S46) : Prop := ∃ j, i ≤ j ∧ j < n ∧ eE x0 j = y ∧ ∀ m, j < m → m < n → key (eE x0 m) ≠ key y
theorem inA_next (i : Nat) (y : S46) : InA x0 (i + 1) y ↔ y = eE x0 i ∨ (InA x0 i y ∧ key y ≠ key (eE x0 i)) := by
 constructor
 ·
  rintro ⟨j, hj, rfl, hm⟩
  by_cases h : j = i
  ·
   subst h; exact .inl rfl
  ·
   exact .inr ⟨⟨j, by omega, rfl, fun m h1 h2 => hm m h1 (by omega)⟩, fun e => hm i (by omega) (by omega) e.symm⟩
 ·
  rintro (rfl | ⟨⟨j, hj, rfl, hm⟩, hne⟩)
  ·
   exact ⟨i, by omega, rfl, fun m h1 h2 => by omega⟩
  ·
   refine ⟨j, by omega, rfl, fun m h1 h2 => ?_⟩
   by_cases h : m = i
   ·
    subst h; exact fun e => hne e.symm
   ·
    exact hm m h1 (by omega)
theorem inB_has (i n : Nat) : ∀ (d m : Nat), n ≤ m + d → i ≤ m → m < n → ∃ y, InB x0 i n y ∧ key y = key (eE x0 m)
 | 0, m, h, _, h2 => absurd h2 (by omega)
 | d + 1, m, h, h1, h2 => by
  by_cases hex : ∃ m', m < m' ∧ m' < n ∧ key (eE x0 m') = key (eE x0 m)
  ·
   obtain ⟨m', g1, g2, g3⟩ := hex
   obtain ⟨y, y1, y2⟩ := inB_has i n d m' (by omega) (by omega) g2
   exact ⟨y, y1, y2.trans g3⟩
  ·
   exact ⟨eE x0 m, ⟨m, h1, h2, rfl, fun q q1 q2 q3 => hex ⟨q, q1, q2, q3⟩⟩, rfl⟩
theorem inB_found (i n : Nat) (b : List S46) (hb : ∀ y, y ∈ b ↔ InB x0 (i + 1) n y) (hf : ∃ y ∈ b, key y = key (eE x0 i)) (y : S46) : y ∈ b ↔ InB x0 i n y := by
 rw [hb]
 constructor
 ·
  rintro ⟨j, h1, h2⟩
  exact ⟨j, by omega, h2⟩
 ·
  rintro ⟨j, h1, h2, rfl, h3⟩
  by_cases h : j = i
  ·
   subst h
   obtain ⟨z, z1, z2⟩ := hf
   obtain ⟨j', k1, k2, rfl, _⟩ := (hb z).1 z1
   exact absurd z2 (h3 j' (by omega) k2)
  ·
   exact ⟨j, by omega, h2, rfl, h3⟩
theorem inB_new (i n : Nat) (hi : i < n) (b : List S46) (hb : ∀ y, y ∈ b ↔ InB x0 (i + 1) n y) (hf : ¬ ∃ y ∈ b, key y = key (eE x0 i)) (y : S46) : (y = eE x0 i ∨ (y ∈ b ∧ key y ≠ key (eE x0 i))) ↔ InB x0 i n y := by
 constructor
 ·
  rintro (rfl | ⟨hy, _⟩)
  ·
   refine ⟨i, Nat.le_refl _, hi, rfl, fun m h1 h2 e => hf ?_⟩
   obtain ⟨y, y1, y2⟩ := inB_has x0 (i + 1) n n m (by omega) (by omega) h2
   exact ⟨y, (hb y).2 y1, y2.trans e⟩
  ·
   obtain ⟨j, h1, h2⟩ := (hb y).1 hy
   exact ⟨j, by omega, h2⟩
 ·
  rintro ⟨j, h1, h2, rfl, h3⟩
  by_cases h : j = i
  ·
   subst h; exact .inl rfl
  ·
   have hj : eE x0 j ∈ b := (hb _).2 ⟨j, by omega, h2, rfl, h3⟩
   exact .inr ⟨hj, fun e => hf ⟨_, hj, e⟩⟩
theorem put_f (l : List S46) (h : l.length ≤ 999) (hs : ∀ x ∈ l, EntP x) (r : ByteArray × ByteArray × (List S28) × (List S49)) (hr : EntP (tupE r)) : ents_Put.f l r.1 r.2.1 r.2.2.1 r.2.2.2 = some (GT.putF l (tupE r)) := by
 unfold ents_Put.f
 rw [if_pos ⟨h, List.all_eq_true.2 (fun x hx => smE_ent (hs x hx)), smE_ent hr⟩]
theorem find_f (l : List S46) (h : l.length ≤ 999) (hs : ∀ x ∈ l, EntP x) (hl : Sorted l) (u0 u1 : ByteArray) : ∃ r, ents_Find.f l u0 u1 = some r ∧ (r.2.2.2.2 = true ↔ ∃ y ∈ l, key y = (u0.toList, u1.toList)) := by
 unfold ents_Find.f ents_at.f
 rw [if_pos (by omega), Option.bind_some]
 rw [← atB_iff l hl u0 u1]
 simp only
 cases hb : GT.atB l u0 u1 with
 | false => exact ⟨_, by rw [if_neg (by decide)], by simp⟩
 | true =>
  have hlt := GT.atB_lt hb
  rw [if_pos rfl, if_pos (by omega), if_pos (by omega)]
  unfold ents_twin.f
  have hm : rd_T46 l ((GT.atI l u0 u1 : Nat) : Int) ∈ l := by
   unfold rd_T46
   rw [Int.toNat_natCast, List.getD_eq_getElem?_getD, List.getElem?_eq_getElem hlt]
   exact List.getElem_mem hlt
  rw [if_pos (smE_ent (hs _ hm)), Option.bind_some]
  exact ⟨_, rfl, by simp⟩
theorem l2_tot (a : List S46) (ha : Sorted a) (hs : ∀ x ∈ a, EntP x) (hl : a.length ≤ 999) : ∀ (d i : Nat), i + d = a.length → Tot (fun k => chancellaw8_EntsOrder.l2 k a a (i : Int)) (fun r => r = true)
 | 0, i, hi => Tot.step (fun k => by rw [chancellaw8_EntsOrder.l2]) (Tot.neg (by omega) (Tot.now rfl))
 | d + 1, i, hi => by
  refine Tot.step (fun k => by rw [chancellaw8_EntsOrder.l2]) ?_
  refine Tot.pos (by omega) ?_
  refine Tot.pos (by omega) ?_
  refine Tot.pos (by omega) ?_
  have hxi : a[i]? = some a[i] := List.getElem?_eq_getElem (by omega)
  have hri : rd_T46 a (i : Int) = a[i] := by
   unfold rd_T46
   rw [Int.toNat_natCast, List.getD_eq_getElem?_getD, hxi]
   rfl
  have hsame : ents_Same.f (rd_T46 a (i : Int)).f0.f0 (rd_T46 a (i : Int)).f0.f1 (rd_T46 a (i : Int)).f1 (rd_T46 a (i : Int)).f2 (rd_T46 a (i : Int)).f0.f0 (rd_T46 a (i : Int)).f0.f1 (rd_T46 a (i : Int)).f1 (rd_T46 a (i : Int)).f2 = some true := by
   unfold ents_Same.f
   rw [if_pos (by have := (hs _ (List.getElem_mem (show i < a.length by omega))).1; rw [hri]; omega)]
   exact congrArg some (sameEn_refl _)
  refine Tot.bind (Tot.const hsame (P := fun r => r = true) rfl) (fun t ht => ?_)
  refine Tot.pos ht ?_
  have hnext : Tot (fun k => chancellaw8_EntsOrder.l2 k a a (wrap64 ((i : Int) + 1))) (fun r => r = true) := by
   rw [wr_succ (by omega)]
   exact l2_tot a ha hs hl d (i + 1) (by omega)
  refine Tot.ite (fun h => ?_) (fun _ => hnext)
  have hw : wrap64 ((i : Int) - 1) = ((i - 1 : Nat) : Int) := by unfold wrap64; omega
  rw [hw]
  refine Tot.pos (by omega) ?_
  refine Tot.pos (by omega) ?_
  have hxj : a[i - 1]? = some a[i - 1] := List.getElem?_eq_getElem (by omega)
  have hrj : rd_T46 a ((i - 1 : Nat) : Int) = a[i - 1] := by
   unfold rd_T46
   rw [Int.toNat_natCast, List.getD_eq_getElem?_getD, hxj]
   rfl
  have hless := less_kl a[i - 1].f0.f0 a[i - 1].f0.f1 a[i].f0.f0 a[i].f0.f1 (sorted_get ha hxj hxi (by omega))
  rw [← hri, ← hrj] at hless
  refine Tot.bind (Tot.const hless (P := fun r => r = true) rfl) (fun t ht => ?_)
  exact Tot.pos ht hnext
theorem l1_tot (hn : x0.length ≤ 12) (a : List S46) (ha : Sorted a) (hA : ∀ y, y ∈ a ↔ InA x0 x0.length y) (hal : a.length ≤ 12) : ∀ (i : Nat) (b : List S46), i ≤ x0.length → Sorted b → (∀ y, y ∈ b ↔ InB x0 i x0.length y) → b.length + i ≤ 12 → Tot (fun k => chancellaw8_EntsOrder.l1 k x0 a b ((i : Int) - 1)) (fun r => r = true)
 | 0, b, hi, hb, hB, hl => by
  refine Tot.step (fun k => by rw [chancellaw8_EntsOrder.l1]) (Tot.neg (by omega) ?_)
  have e : a = b := sorted_ext a b ha hb (fun y => by
   rw [hA, hB]
   exact ⟨fun ⟨j, h1, h2⟩ => ⟨j, Nat.zero_le _, h1, h2⟩, fun ⟨j, _, h1, h2⟩ => ⟨j, h1, h2⟩⟩)
  subst e
  refine Tot.pos rfl ?_
  exact l2_tot a ha (fun x hx => by obtain ⟨j, _, rfl, _⟩ := (hA x).1 hx; exact eE_p x0 j) (by omega) a.length 0 (by omega)
 | i + 1, b, hi, hb, hB, hl => by
  have hw : ((i + 1 : Nat) : Int) - 1 = (i : Int) := by omega
  have hw2 : wrap64 ((i : Int) - 1) = (i : Int) - 1 := by unfold wrap64; omega
  rw [hw]
  have hbs : ∀ x ∈ b, EntP x := fun x hx => by obtain ⟨j, _, _, rfl, _⟩ := (hB x).1 hx; exact eE_p x0 j
  refine Tot.step (fun k => by rw [chancellaw8_EntsOrder.l1]) ?_
  refine Tot.pos (by omega) ?_
  refine Tot.pos (by omega) ?_
  refine Tot.pos (by omega) ?_
  refine Tot.bind (eR_tot x0 i) (fun t ht => ?_)
  subst ht
  obtain ⟨r, hr, hr2⟩ := find_f b (by omega) hbs hb (eR x0 i).1 (eR x0 i).2.1
  refine Tot.bind (Tot.const hr (P := fun q => q = r) rfl) (fun t ht => ?_)
  subst ht
  rw [hw2]
  refine Tot.ite (fun h => ?_) (fun h => ?_)
  ·
   exact l1_tot hn a ha hA hal i b (by omega) hb (inB_found x0 i _ b hB (hr2.1 h)) (by omega)
  ·
   refine Tot.bind (Tot.const (put_f b (by omega) hbs (eR x0 i) (eE_p x0 i)) (P := fun q => q = GT.putF b (eE x0 i)) rfl) (fun t ht => ?_)
   subst ht
   obtain ⟨s1, s2, s3⟩ := put_spec b hb (eE x0 i)
   exact l1_tot hn a ha hA hal i _ (by omega) s1 (fun y => (s2 y).trans (inB_new x0 i _ (by omega) b hB (fun g => h (hr2.2 g)) y)) (by omega)
theorem l0_tot (hn : x0.length ≤ 12) : ∀ (d i : Nat) (a : List S46), i + d = x0.length → Sorted a → (∀ y, y ∈ a ↔ InA x0 i y) → a.length ≤ i → Tot (fun k => chancellaw8_EntsOrder.l0 k x0 a (i : Int)) (fun r => r = true)
 | 0, i, a, hi, ha, hA, hl => by
  have hw : wrap64 ((x0.length : Int) - 1) = (x0.length : Int) - 1 := by unfold wrap64; omega
  refine Tot.step (fun k => by rw [chancellaw8_EntsOrder.l0]) (Tot.neg (by omega) ?_)
  rw [hw]
  have e : i = x0.length := by omega
  subst e
  exact l1_tot x0 hn a ha hA (by omega) x0.length [] (Nat.le_refl _) List.Pairwise.nil (fun y => ⟨fun h => (by cases h), fun ⟨j, h1, h2, _⟩ => absurd h2 (by omega)⟩) (by simpa using hn)
 | d + 1, i, a, hi, ha, hA, hl => by
  have has : ∀ x ∈ a, EntP x := fun x hx => by obtain ⟨j, _, rfl, _⟩ := (hA x).1 hx; exact eE_p x0 j
  refine Tot.step (fun k => by rw [chancellaw8_EntsOrder.l0]) ?_
  refine Tot.pos (by omega) ?_
  refine Tot.pos (by omega) ?_
  refine Tot.bind (eR_tot x0 i) (fun t ht => ?_)
  subst ht
  refine Tot.bind (Tot.const (put_f a (by omega) has (eR x0 i) (eE_p x0 i)) (P := fun q => q = GT.putF a (eE x0 i)) rfl) (fun t ht => ?_)
  subst ht
  rw [wr_succ (by omega)]
  obtain ⟨s1, s2, s3⟩ := put_spec a ha (eE x0 i)
  exact l0_tot hn d (i + 1) _ (by omega) s1 (fun y => by rw [s2, hA]; exact (inA_next x0 i y).symm) (by omega)
end
/-- The law answers true. -/
theorem entsOrder_true (l0 : List S42) : ∃ k, chancellaw8_EntsOrder.f k l0 = some true := by
 have h : Tot (fun k => chancellaw8_EntsOrder.f k l0) (fun r => r = true) := by
  unfold chancellaw8_EntsOrder.f chancellaw8_known.f
  refine Tot.some_bind ?_
  refine Tot.pos rfl ?_
  refine Tot.ite (fun _ => Tot.now rfl) (fun h => ?_)
  exact l0_tot l0 (by omega) l0.length 0 [] (by omega) List.Pairwise.nil (fun y => ⟨fun h => (by cases h), fun ⟨j, h1, _⟩ => absurd h1 (by omega)⟩) (Nat.zero_le _)
 obtain ⟨r, h1, rfl⟩ := h
 exact h1.rounds
end Go.Proofs.Ytfmghijmcgkpiaa.GP
