import Derived.Test.YtelibndkkokadaaGB0
import Derived.Test.YtelibndkkokadaaEd
import Derived.Test.YtelibndkkokadaaJa
import Derived.Test.YtelibndkkokadaaShelfU
import Derived.StillTailTactics
import Derived.Deep.LoopGhost
namespace Go.Proofs.Ytelibndkkokadaa.GP
open Go.RowKit Go.Proofs.YtelibndkkokadaaW.PrintWords Go.Proofs.YtelibndkkokadaaW.PrintLast Go.Proofs.Ytelibndkkokadaa.HandV Go.Proofs.YtelibndkkokadaaW.PrintMore
open Go.Proofs.Ytelibndkkokadaa.GB
attribute [local go_sem] max2_int min2_int max_two min_two max_three min_three max_four min_four   -- for this text's walks alone
set_option linter.unusedVariables false
set_option linter.unusedSimpArgs false
-- IMPORT .Ed
theorem bl_irr : ∀ (x : List UInt8), Op.bytesLess x x = false
  | [] => rfl
  | a :: x => by simp only [Op.bytesLess, bl_irr x, Bool.and_false, Bool.or_false, decide_eq_false_iff_not]; exact UInt8.lt_irrefl a
theorem bl_cons {a b : UInt8} {x y : List UInt8} : Op.bytesLess (a :: x) (b :: y) = true ↔ a.toNat < b.toNat ∨ (a.toNat = b.toNat ∧ Op.bytesLess x y = true) := by
  simp only [Op.bytesLess, Bool.or_eq_true, decide_eq_true_eq, Bool.and_eq_true, beq_iff_eq, UInt8.lt_iff_toNat_lt, ← UInt8.toNat_inj]
theorem bl_trans : ∀ {x y z : List UInt8}, Op.bytesLess x y = true → Op.bytesLess y z = true → Op.bytesLess x z = true
  | _, [], _, h, _ => by simp [Op.bytesLess] at h
  | _, _ :: _, [], _, h => by simp [Op.bytesLess] at h
  | [], _ :: _, _ :: _, _, _ => by simp [Op.bytesLess]
  | a :: x, b :: y, c :: z, h1, h2 => by
    rw [bl_cons] at h1 h2 ⊢
    rcases h1 with h1 | ⟨h1, h1'⟩
    · rcases h2 with h2 | ⟨h2, h2'⟩
      · exact .inl (by omega)
      · exact .inl (by omega)
    · rcases h2 with h2 | ⟨h2, h2'⟩
      · exact .inl (by omega)
      · exact .inr ⟨by omega, bl_trans h1' h2'⟩
theorem bl_tri : ∀ (x y : List UInt8), Op.bytesLess x y = true ∨ x = y ∨ Op.bytesLess y x = true
  | [], [] => .inr (.inl rfl)
  | [], _ :: _ => .inl (by simp [Op.bytesLess])
  | _ :: _, [] => .inr (.inr (by simp [Op.bytesLess]))
  | a :: x, b :: y => by
    rw [bl_cons, bl_cons]
    rcases Nat.lt_trichotomy a.toNat b.toNat with h | h | h
    · exact .inl (.inl h)
    · rcases bl_tri x y with g | g | g
      · exact .inl (.inr ⟨h, g⟩)
      · exact .inr (.inl (by rw [g, UInt8.toNat_inj.1 h]))
      · exact .inr (.inr (.inr ⟨h.symm, g⟩))
    · exact .inr (.inr (.inl h))
/-- The words a uid stands by. -/
abbrev key (x : S38) : List UInt8 × List UInt8 := (x.f0.f0.toList, x.f0.f1.toList)
def kl (a b : List UInt8 × List UInt8) : Prop := Op.bytesLess a.1 b.1 = true ∨ (a.1 = b.1 ∧ Op.bytesLess a.2 b.2 = true)
theorem kl_irr (a : List UInt8 × List UInt8) : ¬ kl a a := by rintro (h | ⟨_, h⟩) <;> rw [bl_irr] at h <;> exact absurd h (by decide)
theorem kl_trans {a b c : List UInt8 × List UInt8} (h1 : kl a b) (h2 : kl b c) : kl a c := by
  rcases h1 with h1 | ⟨h1, h1'⟩
  · rcases h2 with h2 | ⟨h2, h2'⟩
    · exact .inl (bl_trans h1 h2)
    · exact .inl (h2 ▸ h1)
  · rcases h2 with h2 | ⟨h2, h2'⟩
    · exact .inl (by rw [h1]; exact h2)
    · exact .inr ⟨h1.trans h2, bl_trans h1' h2'⟩
theorem kl_tri (a b : List UInt8 × List UInt8) : kl a b ∨ a = b ∨ kl b a := by
  obtain ⟨a1, a2⟩ := a
  obtain ⟨b1, b2⟩ := b
  rcases bl_tri a1 b1 with h | h | h
  · exact .inl (.inl h)
  · subst h
    rcases bl_tri a2 b2 with g | g | g
    · exact .inl (.inr ⟨rfl, g⟩)
    · exact .inr (.inl (by rw [g]))
    · exact .inr (.inr (.inr ⟨rfl, g⟩))
  · exact .inr (.inr (.inl h))
theorem cmpU_kl (a b c d : ByteArray) : cmpU a b c d < 0 ↔ kl (a.toList, b.toList) (c.toList, d.toList) := by
  unfold cmpU orI cmpS kl
  by_cases h : Op.bytesLess a.toList c.toList = true
  · simp [h]
  · by_cases e : a.toList = c.toList
    · rw [e, bl_irr]
      simp
      by_cases h2 : Op.bytesLess b.toList d.toList = true
      · simp [h2]
      · by_cases e2 : b.toList = d.toList
        · simp [e2, bl_irr]
        · simp [h2, e2]
    · simp [h, e]
theorem search_spec (p : Nat → Bool) (n : Nat) (hm : ∀ i j, i ≤ j → j < n → p i = true → p j = true) : ∀ (k a b : Nat), a ≤ b → b ≤ n → b ≤ a + k → (∀ i, i < a → p i = false) → (b < n → p b = true) → searchF p k a b ≤ n ∧ (∀ i, i < searchF p k a b → p i = false) ∧ (∀ i, searchF p k a b ≤ i → i < n → p i = true)
  | 0, a, b, h1, h2, h3, h4, h5 => by
    have : a = b := by omega
    subst this
    exact ⟨h2, h4, fun i hi hn => hm a i hi hn (h5 (by simp only [searchF] at hi; omega))⟩
  | k + 1, a, b, h1, h2, h3, h4, h5 => by
    rw [searchF]
    by_cases hab : a < b
    · rw [if_pos hab]
      cases hp : p ((a + b) / 2) with
      | true =>
        rw [if_pos rfl]
        exact search_spec p n hm k a ((a + b) / 2) (by omega) (by omega) (by omega) h4 (fun _ => hp)
      | false =>
        rw [if_neg (by decide)]
        refine search_spec p n hm k ((a + b) / 2 + 1) b (by omega) h2 (by omega) (fun i hi => ?_) h5
        cases hq : p i with
        | false => rfl
        | true => have := hm i ((a + b) / 2) (by omega) (by omega) hq; rw [hp] at this; exact absurd this (by decide)
    · rw [if_neg hab]
      have : a = b := by omega
      subst this
      exact ⟨h2, h4, fun i hi hn => hm a i hi hn (h5 (by omega))⟩
abbrev Sorted (l : List S38) : Prop := l.Pairwise (fun x y => kl (key x) (key y))
theorem sorted_get {l : List S38} (h : Sorted l) {i j : Nat} {x y : S38} (hx : l[i]? = some x) (hy : l[j]? = some y) (hij : i < j) : kl (key x) (key y) := by
  obtain ⟨hi, rfl⟩ := List.getElem?_eq_some_iff.1 hx
  obtain ⟨hj, rfl⟩ := List.getElem?_eq_some_iff.1 hy
  exact (List.pairwise_iff_getElem.1 h) i j hi hj hij
theorem atP_some {l : List S38} {u0 u1 : ByteArray} {i : Nat} {x : S38} (hx : l[i]? = some x) : GT.atP l u0 u1 i = true ↔ ¬ kl (key x) (u0.toList, u1.toList) := by
  unfold GT.atP
  rw [hx]
  simp only [Bool.not_eq_true', decide_eq_false_iff_not]
  exact not_congr (cmpU_kl _ _ _ _)
theorem atI_spec (l : List S38) (hl : Sorted l) (u0 u1 : ByteArray) : GT.atI l u0 u1 ≤ l.length ∧ (∀ i x, i < GT.atI l u0 u1 → l[i]? = some x → kl (key x) (u0.toList, u1.toList)) ∧ (∀ i x, GT.atI l u0 u1 ≤ i → l[i]? = some x → ¬ kl (key x) (u0.toList, u1.toList)) := by
  have hm : ∀ i j, i ≤ j → j < l.length → GT.atP l u0 u1 i = true → GT.atP l u0 u1 j = true := fun i j hij hj hp => by
    have hxi : l[i]? = some l[i] := List.getElem?_eq_getElem (by omega)
    have hxj : l[j]? = some l[j] := List.getElem?_eq_getElem hj
    rw [atP_some hxi] at hp
    rw [atP_some hxj]
    intro hk
    rcases Nat.lt_or_eq_of_le hij with h | h
    · exact hp (kl_trans (sorted_get hl hxi hxj h) hk)
    · subst h; exact hp hk
  obtain ⟨g1, g2, g3⟩ := search_spec (GT.atP l u0 u1) l.length hm l.length 0 l.length (Nat.zero_le _) (Nat.le_refl _) (by omega) (fun i hi => absurd hi (Nat.not_lt_zero _)) (fun h => absurd h (Nat.lt_irrefl _))
  refine ⟨g1, fun i x hi hx => ?_, fun i x hi hx => ?_⟩
  · have := g2 i hi
    by_cases hk : kl (key x) (u0.toList, u1.toList)
    · exact hk
    · rw [(atP_some hx).2 hk] at this; exact absurd this (by decide)
  · exact (atP_some hx).1 (g3 i hi (List.getElem?_eq_some_iff.1 hx).1)
theorem at_split (l : List S38) (hl : Sorted l) (u0 u1 : ByteArray) : ∃ A B, l = A ++ B ∧ A.length = GT.atI l u0 u1 ∧ (∀ y ∈ A, kl (key y) (u0.toList, u1.toList)) ∧ (∀ y ∈ B, ¬ kl (key y) (u0.toList, u1.toList)) := by
  obtain ⟨g1, g2, g3⟩ := atI_spec l hl u0 u1
  refine ⟨l.take (GT.atI l u0 u1), l.drop (GT.atI l u0 u1), (List.take_append_drop _ _).symm, by rw [List.length_take]; omega, fun y hy => ?_, fun y hy => ?_⟩
  · obtain ⟨i, hi, rfl⟩ := List.getElem_of_mem hy
    rw [List.length_take] at hi
    exact g2 i _ (by omega) (by rw [List.getElem_take]; exact List.getElem?_eq_getElem (by omega))
  · obtain ⟨i, hi, rfl⟩ := List.getElem_of_mem hy
    rw [List.length_drop] at hi
    exact g3 (GT.atI l u0 u1 + i) _ (by omega) (by rw [List.getElem_drop]; exact List.getElem?_eq_getElem (by omega))
theorem atB_split {l A B : List S38} {u0 u1 : ByteArray} (h : l = A ++ B) (hA : A.length = GT.atI l u0 u1) : GT.atB l u0 u1 = true ↔ ∃ y B', B = y :: B' ∧ key y = (u0.toList, u1.toList) := by
  unfold GT.atB
  have e : l[GT.atI l u0 u1]? = B[0]? := by
    rw [← hA]
    conv => lhs; rw [h]
    rw [List.getElem?_append_right (Nat.le_refl _), Nat.sub_self]
  rw [e]
  cases B with
  | nil => simp
  | cons y B' =>
    simp only [List.getElem?_cons_zero, Bool.and_eq_true, beq_iff_eq]
    constructor
    · rintro ⟨a, b⟩; exact ⟨y, B', rfl, Prod.ext a b⟩
    · rintro ⟨y', B'', e1, e2⟩
      obtain ⟨rfl, rfl⟩ := List.cons.inj e1
      exact ⟨congrArg Prod.fst e2, congrArg Prod.snd e2⟩
theorem atB_iff (l : List S38) (hl : Sorted l) (u0 u1 : ByteArray) : GT.atB l u0 u1 = true ↔ ∃ y ∈ l, key y = (u0.toList, u1.toList) := by
  obtain ⟨A, B, h, hA, g1, g2⟩ := at_split l hl u0 u1
  rw [atB_split h hA]
  constructor
  · rintro ⟨y, B', rfl, hy⟩
    exact ⟨y, by rw [h]; simp, hy⟩
  · rintro ⟨y, hy, hk⟩
    rw [h] at hy hl
    rcases List.mem_append.1 hy with hy | hy
    · exact absurd (g1 y hy) (by rw [hk]; exact kl_irr _)
    · cases B with
      | nil => cases hy
      | cons z B' =>
        rcases List.mem_cons.1 hy with hy | hy
        · subst hy; exact ⟨y, B', rfl, hk⟩
        · have hz := (List.pairwise_cons.1 (List.pairwise_append.1 hl).2.1).1 y hy
          rw [hk] at hz
          exact absurd hz (g2 z (List.mem_cons_self ..))
theorem put_spec (l : List S38) (hl : Sorted l) (x : S38) : Sorted (GT.putF l x) ∧ (∀ y, y ∈ GT.putF l x ↔ y = x ∨ (y ∈ l ∧ key y ≠ key x)) ∧ (GT.putF l x).length ≤ l.length + 1 := by
  obtain ⟨A, B, h, hA, g1, g2⟩ := at_split l hl x.f0.f0 x.f0.f1
  have hB := atB_split h hA
  unfold GT.putF
  by_cases hb : GT.atB l x.f0.f0 x.f0.f1 = true
  · rw [if_pos hb]
    obtain ⟨z, B', rfl, hz⟩ := hB.1 hb
    have hz : key z = key x := hz
    have e : l.set (GT.atI l x.f0.f0 x.f0.f1) x = A ++ x :: B' := by
      rw [← hA]
      conv => lhs; rw [h]
      rw [List.set_append_right _ _ (Nat.le_refl _), Nat.sub_self, List.set_cons_zero]
    rw [e]
    rw [h] at hl
    obtain ⟨p1, p2, p3⟩ := List.pairwise_append.1 hl
    obtain ⟨p4, p5⟩ := List.pairwise_cons.1 p2
    have q1 : ∀ y ∈ B', kl (key x) (key y) := fun y hy => by have := p4 y hy; rw [hz] at this; exact this
    have q2 : ∀ y ∈ A, kl (key y) (key x) := fun y hy => by have := p3 y hy z (List.mem_cons_self ..); rw [hz] at this; exact this
    refine ⟨List.pairwise_append.2 ⟨p1, List.pairwise_cons.2 ⟨q1, p5⟩, fun y hy y' hy' => ?_⟩, fun y => ?_, ?_⟩
    · rcases List.mem_cons.1 hy' with e1 | e1
      · subst e1; exact q2 y hy
      · exact p3 y hy y' (List.mem_cons_of_mem _ e1)
    · rw [h]
      simp only [List.mem_append, List.mem_cons]
      constructor
      · rintro (hy | rfl | hy)
        · exact .inr ⟨.inl hy, fun e1 => kl_irr (key x) (by have := q2 y hy; rw [e1] at this; exact this)⟩
        · exact .inl rfl
        · exact .inr ⟨.inr (.inr hy), fun e1 => kl_irr (key x) (by have := q1 y hy; rw [e1] at this; exact this)⟩
      · rintro (rfl | ⟨hy | rfl | hy, hne⟩)
        · exact .inr (.inl rfl)
        · exact .inl hy
        · exact absurd hz hne
        · exact .inr (.inr hy)
    · rw [h]; simp
  · rw [if_neg hb]
    have e : l.take (GT.atI l x.f0.f0 x.f0.f1) ++ [x] ++ l.drop (GT.atI l x.f0.f0 x.f0.f1) = A ++ x :: B := by
      rw [← hA]
      conv => lhs; rw [h]
      simp
    rw [e]
    have q2 : ∀ y ∈ A, kl (key y) (key x) := g1
    have q1 : ∀ y ∈ B, kl (key x) (key y) := fun y hy => by
      rcases kl_tri (key y) (key x) with k1 | k1 | k1
      · exact absurd k1 (g2 y hy)
      · exact absurd ((atB_iff l hl x.f0.f0 x.f0.f1).2 ⟨y, by rw [h]; exact List.mem_append.2 (.inr hy), k1⟩) hb
      · exact k1
    rw [h] at hl
    obtain ⟨p1, p2, p3⟩ := List.pairwise_append.1 hl
    refine ⟨List.pairwise_append.2 ⟨p1, List.pairwise_cons.2 ⟨q1, p2⟩, fun y hy y' hy' => ?_⟩, fun y => ?_, ?_⟩
    · rcases List.mem_cons.1 hy' with e1 | e1
      · subst e1; exact q2 y hy
      · exact p3 y hy y' e1
    · rw [h]
      simp only [List.mem_append, List.mem_cons]
      constructor
      · rintro (hy | rfl | hy)
        · exact .inr ⟨.inl hy, fun e1 => kl_irr (key x) (by have := q2 y hy; rw [e1] at this; exact this)⟩
        · exact .inl rfl
        · exact .inr ⟨.inr hy, fun e1 => kl_irr (key x) (by have := q1 y hy; rw [e1] at this; exact this)⟩
      · rintro (rfl | ⟨hy | hy, hne⟩)
        · exact .inr (.inl rfl)
        · exact .inl hy
        · exact .inr (.inr hy)
    · rw [h]; simp; omega
theorem sorted_ext : ∀ (a b : List S38), Sorted a → Sorted b → (∀ y, y ∈ a ↔ y ∈ b) → a = b
  | [], [], _, _, _ => rfl
  | [], y :: b, _, _, h => absurd ((h y).2 (List.mem_cons_self ..)) (by simp)
  | x :: a, [], _, _, h => absurd ((h x).1 (List.mem_cons_self ..)) (by simp)
  | x :: a, y :: b, ha, hb, h => by
    obtain ⟨a1, a2⟩ := List.pairwise_cons.1 ha
    obtain ⟨b1, b2⟩ := List.pairwise_cons.1 hb
    have e : x = y := by
      rcases List.mem_cons.1 ((h x).1 (List.mem_cons_self ..)) with h1 | h1
      · exact h1
      · rcases List.mem_cons.1 ((h y).2 (List.mem_cons_self ..)) with h2 | h2
        · exact h2.symm
        · exact absurd (kl_trans (a1 y h2) (b1 x h1)) (kl_irr _)
    subst e
    refine congrArg (x :: ·) (sorted_ext a b a2 b2 (fun z => ⟨fun hz => ?_, fun hz => ?_⟩))
    · rcases List.mem_cons.1 ((h z).1 (List.mem_cons_of_mem _ hz)) with h1 | h1
      · subst h1; exact absurd (a1 z hz) (kl_irr _)
      · exact h1
    · rcases List.mem_cons.1 ((h z).2 (List.mem_cons_of_mem _ hz)) with h1 | h1
      · subst h1; exact absurd (b1 z hz) (kl_irr _)
      · exact h1
end Go.Proofs.Ytelibndkkokadaa.GP
namespace Go.Proofs.Ytelibndkkokadaa.GA
open Go.RowKit Go.Proofs.YtelibndkkokadaaW.PrintWords Go.Proofs.YtelibndkkokadaaW.PrintLast Go.Proofs.Ytelibndkkokadaa.HandV Go.Proofs.YtelibndkkokadaaW.PrintMore
open Go.Proofs.Ytelibndkkokadaa.GB
attribute [local go_sem] max2_int min2_int max_two min_two max_three min_three max_four min_four   -- for this text's walks alone
set_option linter.unusedVariables false
set_option linter.unusedSimpArgs false
-- IMPORT .A5
-- IMPORT .ShelfU
-- IMPORT .O1
-- IMPORT Derived.StillTailTactics
open Go.Lib Go.Sort
/-- Draws and new blocks alone. -/
def Gr (w w' : World) : Prop := ∃ q os, w' = grow (w.drewN q) os
theorem gr_refl (w : World) : Gr w w := ⟨0, #[], by rw [grow_empty]; rfl⟩
theorem gr_alloc {w w' : World} (h : Gr w w') (o : Obj) : Gr w (w'.alloc o) := by
  obtain ⟨q, os, rfl⟩ := h
  exact ⟨q, os ++ #[o], by rw [alloc_eq_grow, grow_grow]⟩
theorem gr_drew {w w' : World} (h : Gr w w') : Gr w w'.drew := by
  obtain ⟨q, os, rfl⟩ := h
  exact ⟨q + 1, os, rfl⟩
theorem gr_trans {a b c : World} (h : Gr a b) (k : Gr b c) : Gr a c := by
  obtain ⟨q, os, rfl⟩ := h
  obtain ⟨q2, os2, rfl⟩ := k
  refine ⟨q + q2, os ++ os2, ?_⟩
  show grow (grow ((a.drewN q).drewN q2) os) os2 = _
  rw [grow_grow]
  congr 1
  simp [World.drewN, Nat.add_assoc]
set_option maxRecDepth 100000 in
set_option maxHeartbeats 8000000 in
/-- uid.compare. -/
theorem compare_uidG (t i t2 i2 : ByteArray) (w : World) : Calls Try.prog 78 #[.agg #[.string t, .string i], .iface 125 (.agg #[.string t2, .string i2])] w fun e w' => e = .returned (.int .i64 (cmpU t i t2 i2)) ∧ Gr w w' := by
  have hta := ta_uid (.agg #[.string t2, .string i2])
  go_enter Try.func78, Try.ntmps78
  go_wp2
  have hb : Gr w ((w.alloc (Obj.cells #[Value.string t, Value.string i] 125)).alloc (Obj.cells #[Value.string t2, Value.string i2] 125)) := gr_alloc (gr_alloc (gr_refl _) _) _
  have c0 : ((w.alloc (Obj.cells #[Value.string t, Value.string i] 125)).alloc (Obj.cells #[Value.string t2, Value.string i2] 125)).cell? ⟨w.heap.size, 0, none⟩ = some (.string t) := by go_simp
  have c1 : ((w.alloc (Obj.cells #[Value.string t, Value.string i] 125)).alloc (Obj.cells #[Value.string t2, Value.string i2] 125)).cell? ⟨w.heap.size, 1, none⟩ = some (.string i) := by go_simp
  have c2 : ((w.alloc (Obj.cells #[Value.string t, Value.string i] 125)).alloc (Obj.cells #[Value.string t2, Value.string i2] 125)).cell? ⟨w.heap.size + 1, 0, none⟩ = some (.string t2) := by go_simp
  have c3 : ((w.alloc (Obj.cells #[Value.string t, Value.string i] 125)).alloc (Obj.cells #[Value.string t2, Value.string i2] 125)).cell? ⟨w.heap.size + 1, 1, none⟩ = some (.string i2) := by go_simp
  have HB := Aside0.mk hb
  clear hb hta
  generalize (w.alloc (Obj.cells #[Value.string t, Value.string i] 125)).alloc (Obj.cells #[Value.string t2, Value.string i2] 125) = W at c0 c1 c2 c3 HB
  have k1 : ∀ s u V, Calls Try.prog 109 #[.string s, .string u] V fun e w' => e = .returned (.int .i64 (cmpS s u)) ∧ w' = V := fun s u V => (cmp_string s u V).mono fun e w' h => ⟨h.1, h.2.symm⟩
  have HBD : Aside0 (Gr w W.drew) := ⟨gr_drew HB.out⟩
  refine wp_region_still_tail 10 (by kernel_rfl) (by kernel_rfl) ?_
  simp only [List.take_succ_cons, List.take_zero, List.drop_succ_cons, List.drop_zero]
  change wpStill Try.prog _ W.drew _ _ _
  replace c0 : W.drew.cell? ⟨w.heap.size, 0, none⟩ = some (.string t) := c0
  replace c1 : W.drew.cell? ⟨w.heap.size, 1, none⟩ = some (.string i) := c1
  replace c2 : W.drew.cell? ⟨w.heap.size + 1, 0, none⟩ = some (.string t2) := c2
  replace c3 : W.drew.cell? ⟨w.heap.size + 1, 1, none⟩ = some (.string i2) := c3
  generalize W.drew = V at c0 c1 c2 c3 HBD ⊢
  repeat (first | still_step | still_call (k1 _ _ _))
  refine wpStill_nil ?_
  go_wp2_with (go_at_call 108; refine (or_two (cmpS t t2) (cmpS i i2) _ _ _ (by go_simp) (by go_simp)).mono ?_; rintro e w' ⟨rfl, rfl⟩)
  go_ret
  exact ⟨rfl, by repeat (first | exact HB.out | exact HBD.out | apply gr_drew | apply gr_alloc)⟩
set_option maxRecDepth 100000 in
set_option maxHeartbeats 4000000 in
theorem lessUidG (t i t2 i2 : ByteArray) (w : World) :
    Calls Try.prog 51 #[.agg #[.string t, .string i], .agg #[.string t2, .string i2]] w fun e w' => e = .returned (.bool (decide (cmpU t i t2 i2 < 0))) ∧ Gr w w' := by
  have hc := fun W => compare_uidG t i t2 i2 W
  generalize cmpU t i t2 i2 = c at hc ⊢
  have HC := Aside0.mk hc
  clear hc
  go_enter Try.func51, Try.ntmps51
  go_wp2_with (go_at_call 78; refine (HC.out _).mono ?_; rintro e w' ⟨rfl, hb⟩; have HB : Aside0 (Gr w w') := ⟨gr_trans (gr_alloc (gr_alloc (gr_refl _) _) _) hb⟩; clear hb)
  go_ret
  exact ⟨rfl, HB.out⟩
/-- How the closure tells two. -/
def cfU (x y : U) : Int := if cmpU x.f0 x.f1 y.f0 y.f1 < 0 then -1 else 1
set_option maxRecDepth 100000 in
set_option maxHeartbeats 4000000 in
theorem closureU (x y : U) (w : World) : Calls Try.prog 50 #[.agg #[.string x.f0, .string x.f1], .agg #[.string y.f0, .string y.f1]] w fun e w' => e = .returned (.int .i64 (cfU x y)) ∧ ∃ q os, w' = grow (w.drewN q) os := by
  have HC := Aside0.mk (lessUidG x.f0 x.f1 y.f0 y.f1)
  unfold cfU
  by_cases h : cmpU x.f0 x.f1 y.f0 y.f1 < 0
  · rw [if_pos h]
    have hd : decide (cmpU x.f0 x.f1 y.f0 y.f1 < 0) = true := decide_eq_true h
    rw [hd] at HC
    clear h hd
    go_enter Try.func50, Try.ntmps50
    go_wp2_with (go_at_call 51; refine (HC.out _).mono ?_; rintro e w' ⟨rfl, hb⟩; have HB : Aside0 (Gr w w') := ⟨gr_trans (gr_alloc (gr_alloc (gr_refl _) _) _) hb⟩; clear hb)
    go_ret
    exact ⟨rfl, HB.out⟩
  · rw [if_neg h]
    have hd : decide (cmpU x.f0 x.f1 y.f0 y.f1 < 0) = false := decide_eq_false h
    rw [hd] at HC
    clear h hd
    go_enter Try.func50, Try.ntmps50
    go_wp2_with (go_at_call 51; refine (HC.out _).mono ?_; rintro e w' ⟨rfl, hb⟩; have HB : Aside0 (Gr w w') := ⟨gr_trans (gr_alloc (gr_alloc (gr_refl _) _) _) hb⟩; clear hb)
    go_ret
    exact ⟨rfl, HB.out⟩
def encU (x : U) : List Value := [.string x.f0, .string x.f1]
instance : Inhabited U := ⟨⟨⟨#[]⟩, ⟨#[]⟩⟩⟩
theorem cmpLaysU (blk off size : Nat) (w : World) : Go.Proofs.CmpLays Try.prog 50 #[] encU 2 cfU blk off size w := fun _ _ _ _ x y => closureU x y _
/-! the order of uids -/
abbrev ku (x : U) : List UInt8 × List UInt8 := (x.f0.toList, x.f1.toList)
def ltU (x y : U) : Bool := decide (cmpU x.f0 x.f1 y.f0 y.f1 < 0)
theorem ltU_kl (x y : U) : ltU x y = true ↔ GP.kl (ku x) (ku y) := by unfold ltU; rw [decide_eq_true_eq]; exact GP.cmpU_kl _ _ _ _
theorem ltOfU (x y : U) : ltOf cfU x y = ltU x y := by
  unfold ltOf cfU ltU
  by_cases h : cmpU x.f0 x.f1 y.f0 y.f1 < 0 <;> simp [h]
theorem ku_inj {x y : U} (h : ku x = ku y) : x = y := by
  injection h with h1 h2
  have e1 : x.f0 = y.f0 := ByteArray.ext (Array.toList_inj.1 (by rw [← ByteArray.toList_eq, ← ByteArray.toList_eq]; exact h1))
  have e2 : x.f1 = y.f1 := ByteArray.ext (Array.toList_inj.1 (by rw [← ByteArray.toList_eq, ← ByteArray.toList_eq]; exact h2))
  obtain ⟨a, b⟩ := x
  obtain ⟨c, d⟩ := y
  cases e1; cases e2; rfl
theorem ltU_irr (x : U) : ltU x x = false := by
  cases h : ltU x x
  · rfl
  · exact absurd ((ltU_kl x x).1 h) (GP.kl_irr _)
theorem ltU_trans {x y z : U} (h : ltU x y = true) (k : ltU y z = true) : ltU x z = true := (ltU_kl x z).2 (GP.kl_trans ((ltU_kl x y).1 h) ((ltU_kl y z).1 k))
theorem ltU_tri (x y : U) (h : ltU x y = false) (k : ltU y x = false) : x = y := by
  rcases GP.kl_tri (ku x) (ku y) with h1 | h1 | h1
  · rw [(ltU_kl x y).2 h1] at h; cases h
  · exact ku_inj h1
  · rw [(ltU_kl y x).2 h1] at k; cases k
theorem swoU : SWO (ltOf cfU) where
  irrefl x := by rw [ltOfU]; exact ltU_irr x
  trans x y z h1 h2 := by rw [ltOfU] at *; exact ltU_trans h1 h2
  ntrans x y z h1 h2 := by
    rw [ltOfU] at *
    cases h : ltU x z
    · rfl
    · exfalso
      by_cases h3 : ltU y x = true
      · rw [ltU_trans h3 h] at h2; cases h2
      · have : x = y := ltU_tri x y h1 (by simpa using h3)
        subst this
        rw [h] at h2; cases h2
/-- The uids of a set, in their order. -/
def sortU (l : List U) : List U := l.mergeSort fun x y => !ltU y x
theorem sortU_perm (l : List U) : (sortU l).Perm l := List.mergeSort_perm _ _
theorem sortU_sorted (l : List U) : (sortU l).Pairwise (fun x y => ltU y x = false) := by
  have := List.pairwise_mergeSort (le := fun x y => !ltU y x) (fun a b c h1 h2 => by
    simp only [Bool.not_eq_true'] at *
    cases h : ltU c a
    · rfl
    · exfalso
      by_cases h3 : ltU a b = true
      · rw [ltU_trans h h3] at h2; cases h2
      · have : a = b := ltU_tri a b (by simpa using h3) h1
        subst this
        rw [h] at h2; cases h2) (fun a b => by
    cases h : ltU b a
    · rfl
    · cases h2 : ltU a b
      · rfl
      · have := ltU_trans h h2
        rw [ltU_irr] at this; cases this) l
  exact this.imp (fun h => by simpa using h)
theorem sortU_strict {l : List U} (h : l.Nodup) : (sortU l).Pairwise (fun x y => ltU x y = true) := by
  have h1 := sortU_sorted l
  have h2 : (sortU l).Nodup := (sortU_perm l).nodup_iff.2 h
  refine (h1.and h2).imp (fun {x y} hh => ?_)
  cases h3 : ltU x y
  · exact absurd (ltU_tri x y h3 hh.1) hh.2
  · rfl
theorem strict_ext : ∀ (a b : List U), a.Pairwise (fun x y => ltU x y = true) → b.Pairwise (fun x y => ltU x y = true) → (∀ y, y ∈ a ↔ y ∈ b) → a = b
  | [], [], _, _, _ => rfl
  | [], y :: b, _, _, h => by have := (h y).2 (List.mem_cons_self ..); cases this
  | x :: a, [], _, _, h => by have := (h x).1 (List.mem_cons_self ..); cases this
  | x :: a, y :: b, ha, hb, h => by
    obtain ⟨hx, ha'⟩ := List.pairwise_cons.1 ha
    obtain ⟨hy, hb'⟩ := List.pairwise_cons.1 hb
    have hxy : x = y := by
      rcases List.mem_cons.1 ((h x).1 (List.mem_cons_self ..)) with h1 | h1
      · exact h1
      · rcases List.mem_cons.1 ((h y).2 (List.mem_cons_self ..)) with h2 | h2
        · exact h2.symm
        · have := ltU_trans (hy x h1) (hx y h2)
          rw [ltU_irr] at this; cases this
    subst hxy
    rw [strict_ext a b ha' hb' (fun z => ?_)]
    constructor
    · intro hz
      rcases List.mem_cons.1 ((h z).1 (List.mem_cons_of_mem _ hz)) with h1 | h1
      · subst h1
        have := hx z hz
        rw [ltU_irr] at this; cases this
      · exact h1
    · intro hz
      rcases List.mem_cons.1 ((h z).2 (List.mem_cons_of_mem _ hz)) with h1 | h1
      · subst h1
        have := hy z hz
        rw [ltU_irr] at this; cases this
      · exact h1
theorem sortU_of_perm {a b : List U} (h : a.Perm b) (hb : b.Nodup) : sortU a = sortU b :=
  strict_ext _ _ (sortU_strict (h.nodup_iff.2 hb)) (sortU_strict hb) (fun y => by rw [(sortU_perm a).mem_iff, (sortU_perm b).mem_iff, h.mem_iff])
end Go.Proofs.Ytelibndkkokadaa.GA
namespace Go.Proofs.Ytelibndkkokadaa.GA
open Go.RowKit Go.Proofs.YtelibndkkokadaaW.PrintWords Go.Proofs.YtelibndkkokadaaW.PrintLast Go.Proofs.Ytelibndkkokadaa.HandV Go.Proofs.YtelibndkkokadaaW.PrintMore
open Go.Proofs.Ytelibndkkokadaa.GB
attribute [local go_sem] max2_int min2_int max_two min_two max_three min_three max_four min_four   -- for this text's walks alone
set_option linter.unusedVariables false
set_option linter.unusedSimpArgs false
-- IMPORT .A6
-- IMPORT Derived.Deep.LoopGhost
open Go.Lib Go.Sort Go.Maps
/-- The set of uids is gone through. -/
theorem next_set (w : World) {ops : Array Oper} {rest : List Oper} {o : Oper} {a : Act} {Q : Exit → Act → World → Prop} (hg : o.guard = none) (it : Operand) (hop : o.op = Op.next it false) (b r n : Nat) (M : List U) (hM : ∀ x ∈ M, okU x = true) (left : Lit → Bool) (cnt : Nat) (hl : ∀ kl, left kl = true → Maps.has (setD M) kl = true)
    (hit : a.eval it = .pointer (some ⟨r, 0, none⟩)) (h : w.ranges Try.prog 28 (plainElem Try.prog 4) b r n (setD M) left cnt)
    (hDone : (∀ kl, left kl = false) → wpList Try.prog ops Q rest (a.put o.dst (.tuple #[.bool false])) w)
    (hMore : ∀ (u : U) (w' : World) (cnt' : Nat), u ∈ M → left (kb u) = true → w'.ranges Try.prog 28 (plainElem Try.prog 4) b r n (setD M) (fun z => left z && !z.sameKey (kb u)) cnt' → cnt' < cnt → w.grownBy w' (some r) → w'.heap.size = w.heap.size →
      (Instr.entry (.pointer (some ⟨r, 0, none⟩))).run Try.prog w' = .ok (.tuple #[.agg #[.string u.f0, .string u.f1], .bool true]) w' → wpList Try.prog ops Q rest (a.put o.dst (.tuple #[.bool true, .agg #[.string u.f0, .string u.f1], .bool true])) w') :
    wpList Try.prog ops Q (o :: rest) a w := by
  refine wpList_plain hg fun K' hK' => ?_
  unfold Oper.wp
  rcases h.next lawU o.type with ⟨h0, hl0, hrun⟩ | ⟨key, v, kl, y, w', cnt', hkey, hlk, hv, hat, hrun, hrg, hlt, hgr, hsz, hen⟩
  · simp [execOp, hop, hit, hrun, Result.andThen]
    exact hK' _ _ (hDone hl0)
  · obtain ⟨u, hu, rfl⟩ := setD_key M hM kl (hl kl hlk)
    have hk : key = .agg #[.string u.f0, .string u.f1] := lawU.inj hkey (keyU u (hM u hu))
    subst hk
    obtain ⟨c, rfl, hc⟩ := plainB hv
    have h1 := hat (.lit (.bool false))
    rw [setD_at M hM u (hM u hu), if_pos hu, hc] at h1
    have hc1 : c = true := (Lit.bool.inj (DataW.lit.inj h1)).symm
    subst hc1
    simp [execOp, hop, hit, hrun, Result.andThen]
    exact hK' _ _ (hMore u w' cnt' hu hlk hrg hlt hgr hsz hen)
/-! a row of uids, sorted in its place -/
theorem get_encU (xs : List U) (t : Nat) (h : t < xs.length * 2) : (flatK encU 2 xs.toArray)[t]! = ((uc xs)[t]?).getD default := by
  rw [get_flatK _ _ _ t (by simpa using h)]
  have hj : t / 2 < xs.length := by omega
  have h1 := uc_chunk xs (t / 2) _ (List.getElem?_eq_getElem hj)
  have h2 : (((uc xs).drop (t / 2 * 2)).take 2)[t % 2]? = (uc xs)[t]? := by
    rw [List.getElem?_take_of_lt (Nat.mod_lt _ (by omega)), List.getElem?_drop, show t / 2 * 2 + t % 2 = t by omega]
  rw [← h2, h1]
  have h3 : xs.toArray[t / 2]! = xs[t / 2] := by rw [getElem!_pos xs.toArray (t / 2) (by simpa using hj)]; simp
  rw [h3]
  rcases Nat.mod_two_eq_zero_or_one t with h4 | h4 <;> rw [h4] <;> rfl
theorem holds_row {w : World} {base : Nat} {ok : Nat → Prop} {g n cap : Nat} {xs : List U} (h : Kd.N k28 28 w base ok (.slice (some ⟨g, 0, none⟩) n cap) xs) (hp : 0 < xs.length) : HoldsK encU 2 w g 0 xs.toArray := by
  obtain ⟨hlen, ⟨_, h0⟩ | ⟨g', cap', cur, he, hb, hh, hnc, hcm, hcs, htk⟩⟩ := own_uc h
  · omega
  injection he with he1 he2 he3
  injection he1 with he1
  injection he1 with he1 _ _
  subst he1
  intro t ht
  have ht : t < xs.length * 2 := by simpa using ht
  refine ⟨?_, blk_frozen hh _⟩
  rw [Nat.zero_add, get_encU xs t ht, blk_cell hh]
  have h1 : cur.toList[t]? = (uc xs)[t]? := by rw [← htk, List.getElem?_take_of_lt ht]
  have hl : t < (uc xs).length := by rw [uc_len]; exact ht
  rw [List.getElem?_eq_getElem hl] at h1 ⊢
  rw [← Array.getElem?_toList, h1]
  rfl
theorem sort_below {w : World} {B g n : Nat} (hg : B ≤ g) (hB : B ≤ w.heap.size) (d : Array U) (os : Array Obj) : Below B w (sortWorldK encU 2 w g 0 n d os) := by
  refine ⟨rfl, rfl, rfl, ?_, fun k hk => ?_⟩
  · show w.heap.size ≤ ((w.heap.modify g _) ++ os).size
    simp
  · show ((w.heap.modify g _) ++ os)[k]? = w.heap[k]?
    rw [Array.getElem?_append_left (by simp; omega), Array.getElem?_modify, if_neg (by omega)]
theorem row_V {w : World} {base base' : Nat} {ok : Nat → Prop} {g cap : Nat} {xs : List U} (h : HoldsK encU 2 w g 0 xs.toArray) (hok : ok g) (hg : g < w.heap.size) (hc : xs.length ≤ cap) (hm : xs.length ≤ 1000000) : Kd.V k28 28 w base ok (.slice (some ⟨g, 0, none⟩) xs.length cap) xs := by
  refine ⟨_, cap, rfl, hc, fun W' hW => ⟨rfl, by omega, fun hp => ⟨⟨g, 0, none⟩, rfl, fun j x hj => ?_⟩⟩⟩
  refine ⟨[.string x.f0, .string x.f1], rfl, k28_mk W' x, fun i u hu => ?_⟩
  have hi : i < 2 := (List.getElem?_eq_some_iff.1 hu).1
  have hjl : j < xs.length := (List.getElem?_eq_some_iff.1 hj).1
  have h1 := (h (j * 2 + i) (by simp; omega)).1
  rw [Nat.zero_add, get_encU xs _ (by omega)] at h1
  have h2 := uc_chunk xs j x hj
  have h3 : (((uc xs).drop (j * 2)).take 2)[i]? = (uc xs)[j * 2 + i]? := by rw [List.getElem?_take_of_lt hi, List.getElem?_drop]
  rw [h2, hu] at h3
  rw [← h3] at h1
  show W'.cell? ((⟨g, 0, none⟩ : Addr).add (j * 2 + i)) = some u
  rw [add_plain]
  have h4 := hW g hok hg
  have h5 : W'.cell? ⟨g, j * 2 + i, none⟩ = w.cell? ⟨g, j * 2 + i, none⟩ := by simp only [World.cell?, h4]
  rw [h5, h1]
  rfl
theorem sortU_eq (l : List U) : (l.toArray.toList.mergeSort fun x y => !(ltOf cfU) y x) = sortU l := by
  unfold sortU
  congr 1
  funext x y
  rw [ltOfU]
theorem stepF_len {l : List En} (h : okL l = true) (u : U) : (stepF l u).length ≤ 1000 := by
  rcases stepF_in l u with h0 | h0
  · rw [h0]; simp
  · obtain ⟨e, he, h1⟩ := List.mem_map.1 h0
    injection h1 with h1 h2
    rw [← h2]
    exact (okL_mem h he).2.2.2
theorem climbF_len {l : List En} {fr : List U} (hl : okL l = true) (hf : fr.length ≤ 1000) : (climbF l fr).length ≤ 1000000 := by
  have h : ∀ (n : Nat) (L M : List U), (climbR (stepF l) n L M).length ≤ M.length + n := by
    intro n
    induction n with
    | zero => intro L M; exact Nat.le_refl _
    | succ n ih =>
      intro L M
      unfold climbR
      cases L.getLast? with
      | none => simp
      | some u =>
        dsimp only
        by_cases hu : u ∈ M
        · rw [if_pos hu]; have := ih L.dropLast M; omega
        · rw [if_neg hu]; have := ih (L.dropLast ++ stepF l u) (u :: M); simp at this; omega
  have h1 := h (most l fr) fr []
  have h2 := most_le hl hf
  unfold climbF
  simp at h1
  omega
/-- All above one, in order. -/
def aboveF (l : List En) (u : U) : List U := sortU (climbF l (stepF l u))
end Go.Proofs.Ytelibndkkokadaa.GA
namespace Go.Proofs.Ytelibndkkokadaa.GA
open Go.RowKit Go.Proofs.YtelibndkkokadaaW.PrintWords Go.Proofs.YtelibndkkokadaaW.PrintLast Go.Proofs.Ytelibndkkokadaa.HandV Go.Proofs.YtelibndkkokadaaW.PrintMore
open Go.Proofs.Ytelibndkkokadaa.GB
attribute [local go_sem] max2_int min2_int max_two min_two max_three min_three max_four min_four   -- for this text's walks alone
set_option linter.unusedVariables false
set_option linter.unusedSimpArgs false
-- IMPORT .A7
open Go.Lib Go.Sort Go.Maps
/-- What stands at the head of a round of the loop over the set. -/
def Rg (M : List U) (w wr : World) (b r n : Nat) (v : Value) (g : Nat) : Prop :=
  ∃ left cnt out, wr.ranges Try.prog 28 (plainElem Try.prog 4) b r n (setD M) left cnt ∧ Kd.N k28 28 wr w.heap.size (fun q => r < q) v out ∧ Below w.heap.size w wr ∧ r < wr.heap.size ∧ out.Nodup ∧ (∀ x ∈ out, x ∈ M) ∧ (∀ x ∈ M, x ∈ out ∨ left (kb x) = true) ∧ (∀ x ∈ out, left (kb x) = false) ∧ (∀ kl, left kl = true → Maps.has (setD M) kl = true) ∧ cnt ≤ g ∧ out.length ≤ M.length
theorem ends_out {M out : List U} (hM : M.Nodup) (ho : out.Nodup) (h1 : ∀ x ∈ out, x ∈ M) (h2 : ∀ x ∈ M, x ∈ out) : out.Perm M := by
  rw [List.perm_ext_iff_of_nodup ho hM]
  exact fun a => ⟨h1 a, h2 a⟩
theorem sub_len : ∀ (out M : List U), out.Nodup → (∀ x ∈ out, x ∈ M) → out.length ≤ M.length
  | [], _, _, _ => Nat.zero_le _
  | x :: out, M, ho, h1 => by
    obtain ⟨hx, ho'⟩ := List.nodup_cons.1 ho
    have hm := h1 x (List.mem_cons_self ..)
    have := sub_len out (M.erase x) ho' (fun y hy => (List.mem_erase_of_ne (fun e => hx (by rw [← e]; exact hy))).2 (h1 y (List.mem_cons_of_mem _ hy)))
    rw [List.length_erase_of_mem hm] at this
    have h2 : 0 < M.length := List.length_pos_of_mem hm
    simp only [List.length_cons]
    omega
/-- slices.SortFunc at a row of the call's own. -/
theorem sort_row (wr : World) (g cap : Nat) (out : List U) (hp : 0 < out.length) (hm : out.length ≤ 1000000) (hH : HoldsK encU 2 wr g 0 out.toArray) (hg : g < wr.heap.size) :
    Calls Try.prog 49 #[.slice (some ⟨g, 0, none⟩) out.length cap, .func (.func 50) #[] #[]] wr fun e w' => e = .returned (.tuple #[]) ∧ (∃ n os, w' = sortWorldK encU 2 wr g 0 n (sortU out).toArray os) ∧ HoldsK encU 2 w' g 0 (sortU out).toArray := by
  have eg : ∀ args w, (callFunc 50 args).run Try.prog w = .ok (.enter 50 args) w := enters_of Try.func50 (by kernel_rfl) rfl
  have h := AnyQ.slices_SortFunc_total Try.sortU 2 Try.isAgg28 Try.sizeOf28 encU (fun _ => rfl) (fun x v hv => by simp [encU] at hv; rcases hv with rfl | rfl <;> rfl) cfU swoU 50 #[] g 0 cap out.toArray wr eg (cmpLaysU g 0 _ wr) hH hg (by simp; omega) (fun x y h1 h2 => by rw [ltOfU] at h1 h2; exact ltU_tri x y h1 h2)
  rw [sortU_eq] at h
  have hsz : out.toArray.size = out.length := by simp
  rw [hsz] at h
  refine h.mono ?_
  rintro e w' ⟨rfl, n, os, rfl⟩
  exact ⟨rfl, ⟨n, os, rfl⟩, holdsK_sortWorldK_c encU 2 wr g 0 out.toArray _ n os hH hg (by simp [(sortU_perm out).length_eq])⟩
theorem sort_none (wr : World) (p : Option Addr) (cap : Nat) (fv : Value) : Calls Try.prog 49 #[.slice p 0 cap, fv] wr fun e w' => e = .returned (.tuple #[]) ∧ w' = wr :=
  AnyF.slices_SortFunc_none Try.sortU p cap fv wr
set_option maxRecDepth 100000 in
set_option maxHeartbeats 8000000 in
theorem above_calls0 (l : List En) (hl : okL l = true) (u : U) (A : Option Addr) (c : Nat) (w : World) (hc : l.length ≤ c) (hC : k38.C w A l.length l) :
    Calls Try.prog 19 #[.slice A l.length c, .agg #[.string u.f0, .string u.f1]] w fun e w' => ∃ v, e = .returned v ∧ Kd.V k28 28 w' w.heap.size (fun q => w.heap.size ≤ q) v (aboveF l u) ∧ Below w.heap.size w w' := by
  have HC := Aside0.mk hC
  have Hc := Aside0.mk hc
  have HFI := Aside0.mk (find_calls l hl u A c)
  have HK := Aside0.mk (climb_calls l hl (stepF l u) (stepF_ok hl u) (stepF_len hl u) A c)
  have HND : Aside0 (climbF l (stepF l u)).Nodup := ⟨climbR_nodup _ _ _ _ (by simp)⟩
  have HLN : Aside0 ((climbF l (stepF l u)).length ≤ 1000000) := ⟨climbF_len hl (stepF_len hl u)⟩
  unfold aboveF
  generalize climbF l (stepF l u) = R at HK HND HLN ⊢
  clear hC hc hl
  go_enter Try.func19, Try.ntmps19
  go_wp2_with (first | (go_at_call 35; refine (HFI.out _ Hc.out (Kd.C_below HC.out (by repeat (first | exact Below.refl _ _ | apply below_alloc)))).mono ?_; rintro e w2 ⟨r1, r2, r4, v2, v3, rfl, hv2, hv3, hb⟩; obtain ⟨B2, d2, rfl⟩ := Kd.V_slice hv2; obtain ⟨B3, d3, rfl⟩ := Kd.V_slice hv3; have HV2 := Aside0.mk (Kd.V_at hv2); have HB2 : Aside0 (Below w.heap.size w w2) := ⟨below_step (by repeat (first | exact Below.refl _ _ | apply below_alloc)) hb⟩; clear hv2 hv3 hb) | (go_at_call 47; refine (HK.out B2 d2 _ Hc.out (Kd.C_below HC.out (by repeat (first | exact HB2.out | apply below_alloc))) HV2.out.2.1 (HV2.out.2.2 _ (fun k _ hk => by rw [Below.heap_alloc _ _ _ hk]))).mono ?_; rintro e w3 ⟨b, n, rfl, hbb, hn, hO, hok, hb⟩; have HO := Aside0.mk hO; have Hok := Aside0.mk hok; have Hbb := Aside0.mk hbb; have HB3 : Aside0 (Below w.heap.size w w3) := ⟨below_step (by repeat (first | exact HB2.out | apply below_alloc)) hb⟩; have HSW : Aside0 (w.heap.size ≤ w3.heap.size) := ⟨by have := hb.size; have := HB2.out.size; simp at *; omega⟩; clear hO hok hbb hb) | (at_range; refine wpList_range_own _ rfl _ 87 rfl 28 4 lawU Try.underlying87 _ b n (setD R) rfl HO.out ?_; intro w4 hrg hg4 hs4; have HRG := Aside0.mk hrg; have HB4 : Aside0 (Below w.heap.size w w4) := ⟨HB3.out.grown hg4 HB3.out.size (fun j hj => by cases hj)⟩; have HRB : Aside0 (b < w3.heap.size) := ⟨HO.out.lt⟩; have HS4 := Aside0.mk hs4; clear hrg hg4 hs4))
  go_frame
  go_loopg [7] (Maps.size (setD R)) (fun g v wr => Rg R w wr b w3.heap.size n v g)
  case atStart => exact ⟨_, _, [], HRG.out, Kd.N_nil _ _ _ _ _, HB4.out, by have := HS4.out; omega, by simp, by simp, fun x hx => .inr (by rw [setD_has R Hok.out x (Hok.out x hx)]; simpa using hx), by simp, fun _ h => h, Nat.le_refl _, by simp⟩
  case round =>
    obtain ⟨left, cnt, out, hrg, hN, hB, hr, hnd, hsub, hcov, hout, hleft, hcnt, hol⟩ := hrel
    clear HRG HB4 HS4 HO HB3 HFI HK HV2 HB2
    obtain ⟨A7, c7, rfl⟩ := Kd.N_slice hN
    have HRG := Aside0.mk hrg
    have HN := Aside0.mk hN
    have HB := Aside0.mk hB
    have Hr := Aside0.mk hr
    have Hnd := Aside0.mk hnd
    have Hsub := Aside0.mk hsub
    have Hcov := Aside0.mk hcov
    have Hout := Aside0.mk hout
    have Hleft := Aside0.mk hleft
    have Hcnt := Aside0.mk hcnt
    clear hrg hN hB hr hnd hsub hcov hout hleft hcnt hol
    go_wp2_with (first | (at_next; refine next_set _ rfl _ rfl b w3.heap.size n R Hok.out left cnt Hleft.out rfl HRG.out ?_ ?_))
    · intro hd
      have hcv : ∀ x ∈ R, x ∈ out := fun x hx => (Hcov.out x hx).elim id (fun h => by rw [hd] at h; cases h)
      have hperm := ends_out HND.out Hnd.out Hsub.out hcv
      have Hs : Aside0 (sortU out = sortU R) := ⟨sortU_of_perm hperm HND.out⟩
      have Hlen : Aside0 (out.length ≤ 1000000) := ⟨by rw [hperm.length_eq]; exact HLN.out⟩
      clear hperm hcv hd
      rcases Nat.eq_zero_or_pos out.length with h0 | h0
      · have he : out = [] := List.eq_nil_of_length_eq_zero h0
        subst he
        clear h0
        have HSN := Aside0.mk (fun W => sort_none W A7 c7 (.func (.func 50) #[] #[]))
        go_wp2_with (first | (go_at_call 49; refine (HSN.out _).mono ?_; rintro e w' ⟨rfl, rfl⟩))
        go_ret
        have hR : sortU R = [] := by rw [← Hs.out]; simp [sortU]
        refine ⟨_, rfl, ?_, HB.out⟩
        rw [hR]
        exact GT.V_empty _ _ _ _ _ _ _
      · obtain ⟨g0, cap0, he0, hgb, hgl, _⟩ := Kd.N_form HN.out h0
        obtain ⟨rfl, rfl⟩ : A7 = some ⟨g0, 0, none⟩ ∧ c7 = cap0 := by injection he0 with e1 e2 e3; exact ⟨e1, e3⟩
        have HSR := Aside0.mk (sort_row wr g0 c7 out h0 Hlen.out (holds_row HN.out h0) hgl)
        have Hgb := Aside0.mk hgb
        have Hcc := Aside0.mk (Kd.N_reads' HN.out).2.1
        clear he0 hgb h0
        go_wp2_with (first | (go_at_call 49; refine HSR.out.mono ?_; rintro e w6 ⟨rfl, ⟨n6, os6, hw6⟩, hH6⟩; have HW6 := Aside0.mk hw6; have HH6 := Aside0.mk hH6; clear hw6 hH6))
        go_ret
        have hB6 : Below w.heap.size wr w6 := by rw [HW6.out]; exact sort_below Hgb.out HB.out.size _ _
        have hs6 : wr.heap.size ≤ w6.heap.size := hB6.size
        refine ⟨_, rfl, ?_, HB.out.trans hB6⟩
        have hl6 : (sortU R).length = out.length := by rw [← Hs.out]; exact (sortU_perm out).length_eq
        have hV := row_V (base := w.heap.size) (base' := w.heap.size) (ok := fun q => w.heap.size ≤ q) (cap := c7) (by rw [← Hs.out]; exact HH6.out) Hgb.out (by omega) (by rw [hl6]; exact Hcc.out) (by rw [hl6]; exact Hlen.out) (xs := sortU R)
        rw [hl6] at hV
        exact hV
    · intro x w5 cnt5 hxm hxl hrg5 hlt5 hg5 hs5 hen5
      have HN5 : Aside0 (Kd.N k28 28 w5 w.heap.size (fun q => w3.heap.size < q) (.slice A7 out.length c7) out) := ⟨Kd.N_step HN.out (fun q hq hlt => hg5.block q hlt (by simp; omega))⟩
      have HB5 : Aside0 (Below w.heap.size w w5) := ⟨HB.out.grown hg5 HB.out.size (fun j hj => by cases hj; exact HSW.out)⟩
      have HG5 := Aside0.mk hrg5
      have Hr5 : Aside0 (w3.heap.size < w5.heap.size) := ⟨by have := Hr.out; omega⟩
      have Hxm := Aside0.mk hxm
      have Hxl := Aside0.mk hxl
      have Hlt := Aside0.mk hlt5
      have hnx : x ∉ out := fun h => by have := Hout.out x h; rw [this] at hxl; cases hxl
      have Hnx := Aside0.mk hnx
      have Hol : Aside0 ((out.length + 1) * 32 ≤ 140737488355328) := ⟨by have := sub_len out R Hnd.out Hsub.out; have := HLN.out; omega⟩
      have HNE : Aside0 (some b ≠ (Value.slice A7 out.length c7).ownBlock ∧ some w3.heap.size ≠ (Value.slice A7 out.length c7).ownBlock) := ⟨fun e => by have := HN5.out.1 b e.symm; have := HRB.out; omega, fun e => by have := HN5.out.1 _ e.symm; omega⟩
      clear hrg5 hxm hxl hlt5 hg5 hs5 hnx HRG HN HB Hr
      go_wp2_with (first | (at_builtin; refine Kd.N_append k28 (w0 := w) w.heap.size rfl (.tmp 24) (.tmp 26) 30 28 (.agg #[(.string ⟨#[]⟩), (.string ⟨#[]⟩)]) 32 rfl Try.underlying30 info28 rfl (by decide) (by omega) (.slice A7 out.length c7) out x [.string x.f0, .string x.f1] (fun q => w3.heap.size < q) (fun _ => False) rfl ?aX ?aK (fun _ h => h.elim) ?aF ?aO ?aB ?aS ?aL ?_; (case aX => show (Value.slice (some ⟨w5.heap.size + 1, 0, none⟩) 1 1) = _; simp); (case aK => exact k28_mkF _ _ x); (case aF => intro q hq; have := Hr5.out; simp at hq; omega); (case aO => exact Kd.N_alloc HN5.out _); (case aB => exact below_alloc HB5.out _); (case aS => have := HB5.out.size; simp; omega); (case aL => have := Hol.out; omega); intro v1 w7 hN7 hB7 hg7 hat7; have HN7 := Aside0.mk hN7; have HB7 := Aside0.mk hB7; have HG7 : Aside0 (w7.ranges Try.prog 28 (plainElem Try.prog 4) b w3.heap.size n (setD R) (fun z => left z && !z.sameKey (kb x)) cnt5) := ⟨(HG5.out.alloc _).kept hg7 HNE.out.1 HNE.out.2⟩; have HR7 : Aside0 (w3.heap.size < w7.heap.size) := ⟨by have := hg7.size; have := Hr5.out; simp at *; omega⟩; clear hN7 hB7 hg7 hat7))
      go_roundg cnt5
      case rel =>
        refine ⟨_, cnt5, out ++ [x], HG7.out, HN7.out, HB7.out, HR7.out, ?_, ?_, ?_, ?_, ?_, Nat.le_refl _, ?_⟩
        · rw [List.nodup_append]
          exact ⟨Hnd.out, by simp, fun a ha b hb e => by simp at hb; subst hb; subst e; exact Hnx.out ha⟩
        · intro y hy
          rcases List.mem_append.1 hy with hy | hy
          · exact Hsub.out y hy
          · simp at hy; subst hy; exact Hxm.out
        · intro y hy
          by_cases hyx : y = x
          · exact .inl (by simp [hyx])
          · rcases Hcov.out y hy with h | h
            · exact .inl (by simp [h])
            · refine .inr ?_
              rw [h, Maps.sameKey_ne (fun e => hyx (kb_inj (Hok.out y hy) (Hok.out x Hxm.out) e))]
              rfl
        · intro y hy
          rcases List.mem_append.1 hy with hy | hy
          · rw [Hout.out y hy]; rfl
          · simp at hy; subst hy
            rw [WideAt.sameKey_self (kb_key y (Hok.out y Hxm.out))]; simp
        · intro kl hkl
          exact Hleft.out kl (by simp at hkl; exact hkl.1)
        · rw [List.length_append]
          have := sub_len (out ++ [x]) R (by rw [List.nodup_append]; exact ⟨Hnd.out, by simp, fun a ha b hb e => by simp at hb; subst hb; subst e; exact Hnx.out ha⟩) (fun y hy => by rcases List.mem_append.1 hy with hy | hy; exact Hsub.out y hy; simp at hy; subst hy; exact Hxm.out)
          simpa using this
      case measure => have := Hlt.out; have := Hcnt.out; omega
end Go.Proofs.Ytelibndkkokadaa.GA
namespace Go.Proofs.Ytelibndkkokadaa.GA
open Go.RowKit Go.Proofs.YtelibndkkokadaaW.PrintWords Go.Proofs.YtelibndkkokadaaW.PrintLast Go.Proofs.Ytelibndkkokadaa.HandV Go.Proofs.YtelibndkkokadaaW.PrintMore
open Go.Proofs.Ytelibndkkokadaa.GB
attribute [local go_sem] max2_int min2_int max_two min_two max_three min_three max_four min_four   -- for this text's walks alone
set_option linter.unusedVariables false
set_option linter.unusedSimpArgs false
-- IMPORT .A8
theorem find_row (l : List En) (hl : okL l = true) (en : En) (he : l[GT.atI l en.f0.f0 en.f0.f1]? = some en) (hb : GT.atB l en.f0.f0 en.f0.f1 = true) (A : Option Addr) (c : Nat) (w : World) (hc : l.length ≤ c) (hC : k38.C w A l.length l) :
    Calls Try.prog 35 #[.slice A l.length c, .agg #[.string en.f0.f0, .string en.f0.f1]] w fun e w' => ∃ (v2 v3 : Value), e = .returned (.tuple #[.agg #[.string en.f0.f0, .string en.f0.f1, v2, v3], .bool true]) ∧ Kd.V k28 28 w' w.heap.size (fun q => w.heap.size ≤ q) v2 en.f1 ∧ Kd.V k58 58 w' w.heap.size (fun q => w.heap.size ≤ q) v3 en.f2 ∧ Below w.heap.size w w' := by
  have h1 := okL_len hl
  have hat : ents_at.f l en.f0.f0 en.f0.f1 = some (((GT.atI l en.f0.f0 en.f0.f1 : Nat) : Int), true) := by unfold ents_at.f; rw [if_pos (by omega), hb]
  have hlt : GT.atI l en.f0.f0 en.f0.f1 < l.length := GT.atB_lt hb
  have hrd : rd_T38 l ((GT.atI l en.f0.f0 en.f0.f1 : Nat) : Int) = en := by
    unfold rd_T38
    rw [Int.toNat_natCast, List.getD_eq_getElem?_getD, he]; rfl
  have h : ents_Find.f l en.f0.f0 en.f0.f1 = some (en.f0.f0, en.f0.f1, en.f1, en.f2, true) := by
    unfold ents_Find.f
    rw [hat, Option.bind_some, if_pos rfl, if_pos (by omega), if_pos (by omega), hrd]
    unfold ents_twin.f
    rw [if_pos (okL_mem hl (List.mem_of_getElem? he)).2.2.1]
    rfl
  exact (ents_Find.calls A c l en.f0.f0 en.f0.f1 _ _ _ _ _ w hC hc h).mono fun e w' ⟨v2, v3, he, h2, h3, hb⟩ => ⟨v2, v3, he, h2, h3, hb⟩
/-- The entities, one of them without its parents. -/
def restF (l : List En) (u : U) : List En := if GT.atB l u.f0 u.f1 = true then GT.putF l ⟨u, [], match l[GT.atI l u.f0 u.f1]? with | some e => e.f2 | none => []⟩ else l
def circleF (l : List En) (u : U) (ps : List U) : Bool := decide (u ∈ climbF (restF l u) ps)
theorem smE_bare {u : U} {x : En} (h : GT.smE x = true) : GT.smE ⟨u, [], x.f2⟩ = true := by
  simp only [GT.smE, Bool.and_eq_true, decide_eq_true_eq] at h ⊢
  exact ⟨by simp, h.2⟩
theorem okL_put {l : List En} (hl : okL l = true) (en : En) (he : l[GT.atI l en.f0.f0 en.f0.f1]? = some en) (hb : GT.atB l en.f0.f0 en.f0.f1 = true) : okL (GT.putF l ⟨en.f0, [], en.f2⟩) = true := by
  have h1 := okL_len hl
  have h2 := okL_mem hl (List.mem_of_getElem? he)
  unfold GT.putF
  rw [if_pos hb]
  simp only [okL, Bool.and_eq_true, decide_eq_true_eq, List.all_eq_true, List.length_set]
  refine ⟨h1, fun x hx => ?_⟩
  rcases List.mem_or_eq_of_mem_set hx with hx | rfl
  · have h3 := okL_mem hl hx
    simp only [okE, Bool.and_eq_true, decide_eq_true_eq, List.all_eq_true]
    exact ⟨h3.1, h3.2.1, h3.2.2.1, h3.2.2.2⟩
  · simp only [okE, Bool.and_eq_true, decide_eq_true_eq, List.all_eq_true]
    exact ⟨h2.1, by simp, smE_bare h2.2.2.1, by simp⟩
set_option maxRecDepth 100000 in
set_option maxHeartbeats 8000000 in
theorem circle_none (l : List En) (hl : okL l = true) (u : U) (hu : okU u = true) (ps : List U) (hps : ∀ x ∈ ps, okU x = true) (hpl : ps.length ≤ 1000) (hb0 : GT.atB l u.f0 u.f1 = false) (A : Option Addr) (c : Nat) (A2 : Option Addr) (c2 : Nat) (w : World) (hc : l.length ≤ c) (hC : k38.C w A l.length l) (hc2 : ps.length ≤ c2) (hC2 : k28.C w A2 ps.length ps) :
    Calls Try.prog 23 #[.slice A l.length c, .agg #[.string u.f0, .string u.f1], .slice A2 ps.length c2] w fun e w' => e = .returned (.bool (circleF l u ps)) ∧ Below w.heap.size w w' := by
  have HC := Aside0.mk hC
  have Hc := Aside0.mk hc
  have HC2 := Aside0.mk hC2
  have Hu := Aside0.mk hu
  have HFI := Aside0.mk (find_calls l hl u A c)
  rw [hb0] at HFI
  have hr : restF l u = l := by unfold restF; rw [hb0]; rfl
  have HK : Aside0 (∀ (A : Option Addr) (c : Nat) (w : World), (l.length ≤ c ∧ k38.C w A l.length l) → k28.C w A2 ps.length ps → Calls Try.prog 47 #[.slice A l.length c, .slice A2 ps.length c2] w fun e w' => ∃ b n, e = .returned (.map (some b)) ∧ w.heap.size ≤ b ∧ n ≤ 1000000 ∧ w'.ownsMap Try.prog 28 (plainElem Try.prog 4) b n (setD (climbF l ps)) ∧ (∀ x ∈ climbF l ps, okU x = true) ∧ Below w.heap.size w w') := ⟨fun A c w h1 h2 => climb_calls l hl ps hps hpl A c A2 c2 w h1.1 h1.2 hc2 h2⟩
  unfold circleF
  rw [hr]
  generalize climbF l ps = R at HK ⊢
  clear hC hc hl hu hb0 hr hps hpl hC2 hc2
  go_enter Try.func23, Try.ntmps23
  go_wp2_with (first | (go_at_call 35; refine (HFI.out _ Hc.out (Kd.C_below HC.out (by repeat (first | exact Below.refl _ _ | apply below_alloc)))).mono ?_; rintro e w2 ⟨r1, r2, r4, v2, v3, rfl, hv2, hv3, hb⟩; obtain ⟨B2, d2, rfl⟩ := Kd.V_slice hv2; obtain ⟨B3, d3, rfl⟩ := Kd.V_slice hv3; have HB2 : Aside0 (Below w.heap.size w w2) := ⟨below_step (by repeat (first | exact Below.refl _ _ | apply below_alloc)) hb⟩; have HX : Aside0 (w2.heap[w.heap.size]? = some (.cells #[.string u.f0, .string u.f1] 28 (0, 0))) := ⟨(hb.block _ (by simp)).trans (blk_new _ _)⟩; clear hv2 hv3 hb))
  have x0 : (w2.alloc (Obj.cells #[.string r1, .string r2, .slice B2 (stepF l u).length d2, .slice B3 r4.length d3] 38)).cell? ⟨w.heap.size, 0, none⟩ = some (.string u.f0) := GT.hcellT ((Below.heap_alloc _ _ _ (GT.lt_of_heapT HX.out)).trans HX.out) 0 _ rfl
  have x1 : (w2.alloc (Obj.cells #[.string r1, .string r2, .slice B2 (stepF l u).length d2, .slice B3 r4.length d3] 38)).cell? ⟨w.heap.size, 1, none⟩ = some (.string u.f1) := GT.hcellT ((Below.heap_alloc _ _ _ (GT.lt_of_heapT HX.out)).trans HX.out) 1 _ rfl
  have HB : Aside0 (Below w.heap.size w (w2.alloc (Obj.cells #[.string r1, .string r2, .slice B2 (stepF l u).length d2, .slice B3 r4.length d3] 38))) := ⟨below_alloc HB2.out _⟩
  clear HB2 HX HFI
  generalize w2.alloc (Obj.cells #[.string r1, .string r2, .slice B2 (stepF l u).length d2, .slice B3 r4.length d3] 38) = V at x0 x1 HB ⊢

  have HYa : Aside0 (∀ W, Below V.heap.size V W → W.cell? ⟨w.heap.size, 0, none⟩ = some (.string u.f0)) := ⟨fun W hW => (hW.cell (World.block_lt_of_cell? _ _ x0)).trans x0⟩
  have HYb : Aside0 (∀ W, Below V.heap.size V W → W.cell? ⟨w.heap.size, 1, none⟩ = some (.string u.f1)) := ⟨fun W hW => (hW.cell (World.block_lt_of_cell? _ _ x1)).trans x1⟩
  have HK1 : Aside0 (∀ W, Below V.heap.size V W → Calls Try.prog 47 #[.slice A l.length c, .slice A2 ps.length c2] W fun e w' => ∃ b n, e = .returned (.map (some b)) ∧ w'.ownsMap Try.prog 28 (plainElem Try.prog 4) b n (setD R) ∧ (∀ x ∈ R, okU x = true) ∧ Below V.heap.size V w') := ⟨fun W hW => (HK.out A c W ⟨Hc.out, Kd.C_below HC.out (below_step HB.out hW)⟩ (Kd.C_below HC2.out (below_step HB.out hW))).mono fun e w' ⟨b, n, he, _, _, hO, hok, hb⟩ => ⟨b, n, he, hO, hok, below_step hW hb⟩⟩
  have HBB : Aside0 (∀ W, Below V.heap.size V W → Below w.heap.size w W) := ⟨fun W hW => below_step HB.out hW⟩
  go_region_with (first | (go_at_call 47; refine (HK1.out _ ?hA).mono ?_; (case hA => repeat (first | exact Below.refl _ _ | apply below_alloc | apply below_drew1)); rintro e w1 ⟨b, n, rfl, hO, hok, hB⟩; have HB1 := Aside0.mk (HBB.out w1 hB); have y2 := HYa.out w1 hB; have y3 := HYb.out w1 hB; have y4 := look_run hO hok u Hu.out; clear hO hok hB))
  all_goals (go_wp2; go_ret; exact ⟨rfl, HB1.out⟩)

set_option maxRecDepth 100000 in
set_option maxHeartbeats 8000000 in
theorem circle_some (l : List En) (hl : okL l = true) (en : En) (hen : l[GT.atI l en.f0.f0 en.f0.f1]? = some en) (ps : List U) (hps : ∀ x ∈ ps, okU x = true) (hpl : ps.length ≤ 1000) (hb0 : GT.atB l en.f0.f0 en.f0.f1 = true) (A : Option Addr) (c : Nat) (A2 : Option Addr) (c2 : Nat) (w : World) (hc : l.length ≤ c) (hC : k38.C w A l.length l) (hc2 : ps.length ≤ c2) (hC2 : k28.C w A2 ps.length ps) :
    Calls Try.prog 23 #[.slice A l.length c, .agg #[.string en.f0.f0, .string en.f0.f1], .slice A2 ps.length c2] w fun e w' => e = .returned (.bool (circleF l en.f0 ps)) ∧ Below w.heap.size w w' := by
  have HC := Aside0.mk hC
  have Hc := Aside0.mk hc
  have HC2 := Aside0.mk hC2
  have hmem := okL_mem hl (List.mem_of_getElem? hen)
  have Hu := Aside0.mk hmem.1
  have HFI := Aside0.mk (find_row l hl en hen hb0 A c)
  have hr : restF l en.f0 = GT.putF l ⟨en.f0, [], en.f2⟩ := by unfold restF; rw [if_pos hb0, hen]
  have HP := Aside0.mk (GT.put_calls l (by have := okL_len hl; omega) (fun x hx => (okL_mem hl hx).2.2.1) ⟨en.f0, [], en.f2⟩ (smE_bare hmem.2.2.1) A c none 0)
  have hl2 := okL_put hl en hen hb0
  unfold circleF
  rw [hr]
  generalize GT.putF l ⟨en.f0, [], en.f2⟩ = l2 at HP hl2 ⊢
  have HK : Aside0 (∀ (A : Option Addr) (c : Nat) (w : World), (l2.length ≤ c ∧ k38.C w A l2.length l2) → k28.C w A2 ps.length ps → Calls Try.prog 47 #[.slice A l2.length c, .slice A2 ps.length c2] w fun e w' => ∃ b n, e = .returned (.map (some b)) ∧ w.heap.size ≤ b ∧ n ≤ 1000000 ∧ w'.ownsMap Try.prog 28 (plainElem Try.prog 4) b n (setD (climbF l2 ps)) ∧ (∀ x ∈ climbF l2 ps, okU x = true) ∧ Below w.heap.size w w') := ⟨fun A c w h1 h2 => climb_calls l2 hl2 ps hps hpl A c A2 c2 w h1.1 h1.2 hc2 h2⟩
  generalize climbF l2 ps = R at HK ⊢
  clear hC hc hl hb0 hr hps hpl hC2 hc2 hmem hen hl2
  go_enter Try.func23, Try.ntmps23
  go_wp2_with (first | (go_at_call 35; refine (HFI.out _ Hc.out (Kd.C_below HC.out (by repeat (first | exact Below.refl _ _ | apply below_alloc)))).mono ?_; rintro e w2 ⟨v2, v3, rfl, hv2, hv3, hb⟩; obtain ⟨B2, d2, rfl⟩ := Kd.V_slice hv2; obtain ⟨B3, d3, rfl⟩ := Kd.V_slice hv3; have HV3 := Aside0.mk (Kd.V_at hv3); have HB2 : Aside0 (Below w.heap.size w w2) := ⟨below_step (by repeat (first | exact Below.refl _ _ | apply below_alloc)) hb⟩; have HX : Aside0 (w2.heap[w.heap.size]? = some (.cells #[.string en.f0.f0, .string en.f0.f1] 28 (0, 0))) := ⟨(hb.block _ (by simp)).trans (blk_new _ _)⟩; clear hv2 hv3 hb) | (go_at_call 33; refine (HP.out B3 d3 _ Hc.out (Kd.C_below HC.out ?hB) (Nat.le_refl 0) ⟨rfl, by simp, fun h => absurd h (by simp)⟩ HV3.out.2.1 (HV3.out.2.2 _ ?hF)).mono ?_; (case hB => exact below_alloc HB2.out _); (case hF => intro k _ hk; exact Below.heap_alloc _ _ _ hk); rintro e w3 ⟨v3, rfl, hv, hb⟩; obtain ⟨A5, c5, rfl⟩ := Kd.V_slice hv; have HV5 := Aside0.mk (Kd.V_at hv); have HB3 : Aside0 (Below w.heap.size w w3) := ⟨below_step (below_alloc HB2.out _) hb⟩; have HX3 : Aside0 (w3.heap[w.heap.size]? = some (.cells #[.string en.f0.f0, .string en.f0.f1] 28 (0, 0))) := ⟨(hb.block _ (by have := GT.lt_of_heapT HX.out; simp; omega)).trans ((Below.heap_alloc _ _ _ (GT.lt_of_heapT HX.out)).trans HX.out)⟩; clear hv hb))
  have x0 : w3.cell? ⟨w.heap.size, 0, none⟩ = some (.string en.f0.f0) := GT.hcellT HX3.out 0 _ rfl
  have x1 : w3.cell? ⟨w.heap.size, 1, none⟩ = some (.string en.f0.f1) := GT.hcellT HX3.out 1 _ rfl
  have HB : Aside0 (Below w.heap.size w w3) := HB3
  have HC5 : Aside0 (l2.length ≤ c5 ∧ ∀ W, Below w3.heap.size w3 W → k38.C W A5 l2.length l2) := ⟨HV5.out.2.1, fun W hW => HV5.out.2.2 W (fun k _ hk => hW.block k hk)⟩
  clear HB2 HX HFI HV3 HP HB3 HX3 HV5
  generalize w3 = V at x0 x1 HB HC5 ⊢

  have HYa : Aside0 (∀ W, Below V.heap.size V W → W.cell? ⟨w.heap.size, 0, none⟩ = some (.string en.f0.f0)) := ⟨fun W hW => (hW.cell (World.block_lt_of_cell? _ _ x0)).trans x0⟩
  have HYb : Aside0 (∀ W, Below V.heap.size V W → W.cell? ⟨w.heap.size, 1, none⟩ = some (.string en.f0.f1)) := ⟨fun W hW => (hW.cell (World.block_lt_of_cell? _ _ x1)).trans x1⟩
  have HK1 : Aside0 (∀ W, Below V.heap.size V W → Calls Try.prog 47 #[.slice A5 l2.length c5, .slice A2 ps.length c2] W fun e w' => ∃ b n, e = .returned (.map (some b)) ∧ w'.ownsMap Try.prog 28 (plainElem Try.prog 4) b n (setD R) ∧ (∀ x ∈ R, okU x = true) ∧ Below V.heap.size V w') := ⟨fun W hW => (HK.out A5 c5 W ⟨HC5.out.1, HC5.out.2 W hW⟩ (Kd.C_below HC2.out (below_step HB.out hW))).mono fun e w' ⟨b, n, he, _, _, hO, hok, hb⟩ => ⟨b, n, he, hO, hok, below_step hW hb⟩⟩
  have HBB : Aside0 (∀ W, Below V.heap.size V W → Below w.heap.size w W) := ⟨fun W hW => below_step HB.out hW⟩
  go_region_with (first | (go_at_call 47; refine (HK1.out _ ?hA).mono ?_; (case hA => repeat (first | exact Below.refl _ _ | apply below_alloc | apply below_drew1)); rintro e w1 ⟨b, n, rfl, hO, hok, hB⟩; have HB1 := Aside0.mk (HBB.out w1 hB); have y2 := HYa.out w1 hB; have y3 := HYb.out w1 hB; have y4 := look_run hO hok en.f0 Hu.out; clear hO hok hB))
  all_goals (go_wp2; go_ret; exact ⟨rfl, HB1.out⟩)

/-- above.Circle. -/
theorem circle_calls (l : List En) (hl : okL l = true) (u : U) (hu : okU u = true) (ps : List U) (hps : ∀ x ∈ ps, okU x = true) (hpl : ps.length ≤ 1000) (A : Option Addr) (c : Nat) (A2 : Option Addr) (c2 : Nat) (w : World) (hc : l.length ≤ c) (hC : k38.C w A l.length l) (hc2 : ps.length ≤ c2) (hC2 : k28.C w A2 ps.length ps) :
    Calls Try.prog 23 #[.slice A l.length c, .agg #[.string u.f0, .string u.f1], .slice A2 ps.length c2] w fun e w' => e = .returned (.bool (circleF l u ps)) ∧ Below w.heap.size w w' := by
  cases hb : GT.atB l u.f0 u.f1 with
  | false => exact circle_none l hl u hu ps hps hpl hb A c A2 c2 w hc hC hc2 hC2
  | true =>
    obtain ⟨en, he, rfl⟩ := atB_some hb
    exact circle_some l hl en he ps hps hpl hb A c A2 c2 w hc hC hc2 hC2
end Go.Proofs.Ytelibndkkokadaa.GA
