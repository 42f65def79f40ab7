import Derived.Test.YtelibndkkokadaaGB0
import Derived.Test.YtelibndkkokadaaA1
import Derived.Test.YtelibndkkokadaaEd
import Derived.Maps.RangeWalk
import Derived.DeepKeys4
namespace Go.Proofs.Ytelibndkkokadaa.GA
open Go.RowKit Go.Proofs.YtelibndkkokadaaW.PrintWords Go.Proofs.YtelibndkkokadaaW.PrintLast Go.Proofs.Ytelibndkkokadaa.HandV Go.Proofs.YtelibndkkokadaaW.PrintMore
open Go.Proofs.Ytelibndkkokadaa.GB
attribute [local go_sem] max2_int min2_int max_two min_two max_three min_three max_four min_four   -- for this text's walks alone
set_option linter.unusedVariables false
set_option linter.unusedSimpArgs false
-- IMPORT .A1
-- IMPORT .Ed
-- IMPORT Derived.Maps.RangeWalk
-- IMPORT Derived.DeepKeys4
open Go.Maps
abbrev U := S28
abbrev En := S38
instance decU : DecidableEq U := fun a b => decidable_of_iff (a.f0 = b.f0 ∧ a.f1 = b.f1) ⟨fun h => by cases a; cases b; obtain ⟨h1, h2⟩ := h; cases h1; cases h2; rfl, fun h => by cases h; exact ⟨rfl, rfl⟩⟩
def okU (u : U) : Bool := decide (u.f0.size ≤ 1000000) && decide (u.f1.size ≤ 1000000)
def okE (e : En) : Bool := okU e.f0 && (e.f1.all okU && (GT.smE e && decide (e.f1.length ≤ 1000)))
def okL (l : List En) : Bool := decide (l.length ≤ 998) && l.all okE
/-- The parents of one, if it is there. -/
def stepF (l : List En) (u : U) : List U := if GT.atB l u.f0 u.f1 = true then (match l[GT.atI l u.f0 u.f1]? with | some e => e.f1 | none => []) else []
def pairs (l : List En) : List (U × List U) := l.map fun e => (e.f0, e.f1)
theorem atB_some {l : List En} {u : U} (h : GT.atB l u.f0 u.f1 = true) : ∃ e, l[GT.atI l u.f0 u.f1]? = some e ∧ e.f0 = u := by
  unfold GT.atB at h
  cases hx : l[GT.atI l u.f0 u.f1]? with
  | none => rw [hx] at h; cases h
  | some x =>
    rw [hx] at h
    simp only [Bool.and_eq_true, beq_iff_eq] at h
    refine ⟨x, rfl, ?_⟩
    have h1 : x.f0.f0 = u.f0 := ByteArray.ext (Array.toList_inj.1 (by rw [← ByteArray.toList_eq, ← ByteArray.toList_eq]; exact h.1))
    have h2 : x.f0.f1 = u.f1 := ByteArray.ext (Array.toList_inj.1 (by rw [← ByteArray.toList_eq, ← ByteArray.toList_eq]; exact h.2))
    obtain ⟨⟨a, b⟩, _, _⟩ := x
    obtain ⟨c, d⟩ := u
    cases h1; cases h2; rfl
theorem stepF_in (l : List En) (u : U) : stepF l u = [] ∨ (u, stepF l u) ∈ pairs l := by
  unfold stepF
  by_cases h : GT.atB l u.f0 u.f1 = true
  · rw [if_pos h]
    obtain ⟨e, he, rfl⟩ := atB_some h
    rw [he]
    exact .inr (List.mem_map.2 ⟨e, List.mem_of_getElem? he, rfl⟩)
  · rw [if_neg h]; exact .inl rfl
def most (l : List En) (fr : List U) : Nat := fr.length + wt (pairs l) []
/-- All that is met on the way up. -/
def climbF (l : List En) (fr : List U) : List U := climbR (stepF l) (most l fr) fr []
theorem climbF_mem (l : List En) (fr : List U) (x : U) : x ∈ climbF l fr ↔ ∃ s ∈ fr, Up (stepF l) s x := climbR_mem (stepF_in l) _ fr (Nat.le_refl _) x
theorem okL_mem {l : List En} (h : okL l = true) {e : En} (he : e ∈ l) : okU e.f0 = true ∧ (∀ p ∈ e.f1, okU p = true) ∧ GT.smE e = true ∧ e.f1.length ≤ 1000 := by
  simp only [okL, okE, Bool.and_eq_true, decide_eq_true_eq, List.all_eq_true] at h
  obtain ⟨h1, h2, h3, h4⟩ := h.2 e he
  exact ⟨h1, h2, h3, h4⟩
theorem okL_len {l : List En} (h : okL l = true) : l.length ≤ 998 := by
  simp only [okL, Bool.and_eq_true, decide_eq_true_eq] at h; exact h.1
theorem stepF_ok {l : List En} (h : okL l = true) (u : U) : ∀ p ∈ stepF l u, okU p = true := by
  intro p hp
  rcases stepF_in l u with h0 | h0
  · rw [h0] at hp; cases hp
  · obtain ⟨e, he, h1⟩ := List.mem_map.1 h0
    injection h1 with h1 h2
    rw [← h2] at hp
    exact (okL_mem h he).2.1 p hp
theorem wt_bound (l : List En) (h : ∀ e ∈ l, e.f1.length ≤ 1000) : wt (pairs l) [] ≤ 1000 * l.length := by
  induction l with
  | nil => exact Nat.le_refl _
  | cons e l ih =>
    have h1 := ih (fun x hx => h x (List.mem_cons_of_mem _ hx))
    have h2 := h e (List.mem_cons_self ..)
    simp only [pairs, wt, List.map_cons, List.sum_cons, List.length_cons] at h1 ⊢
    rw [if_neg (by simp)]
    omega
theorem most_le {l : List En} (h : okL l = true) {fr : List U} (hf : fr.length ≤ 1000) : most l fr ≤ 1000000 := by
  have h1 := wt_bound l (fun e he => (okL_mem h he).2.2.2)
  have h2 := okL_len h
  unfold most
  omega
/-! the set that is met, as a map -/
theorem lawU : Keyed Try.prog 28 := Keyed.of_law (deep_law_laid (m := 2) (by kernel_rfl) (by omega) (of_decide_eq_true (by kernel_rfl)) (by kernel_rfl) (by rw [Try.underlying28]))
def kb (u : U) : Lit := .string (keyBytes [.string u.f0.data.toList, .string u.f1.data.toList])
theorem deepU : Try.prog.keyType 28 = true := by kernel_rfl
theorem szU : Try.prog.types.size = (351 - 100) := by kernel_rfl
theorem cells9 : Try.prog.cellsOf 9 = 1 := by kernel_rfl
theorem cellsU : Try.prog.cellsOf 28 = 2 := by kernel_rfl
theorem keyU (u : U) (h : okU u = true) : keyOf Try.prog 28 (.agg #[.string u.f0, .string u.f1]) = some (kb u) := by
  simp only [okU, Bool.and_eq_true, decide_eq_true_eq] at h
  have h0 : u.f0.size ≤ maxLen := by unfold maxLen; omega
  have h1 : u.f1.size ≤ maxLen := by unfold maxLen; omega
  have hf : (Value.agg #[.string u.f0, .string u.f1]).formed Try.prog 28 = true := by simp [Value.formed, Try.underlying28, cellsU]
  have hk0 : ∀ d, Try.prog.keyLits (d + 2) 28 [Value.string u.f0, .string u.f1] = some [.string u.f0.data.toList, .string u.f1.data.toList] := by
    intro d
    simp [Program.keyLits, Try.underlying28, Try.underlying9, cellsU, cells9, h0, h1]
  have hk : Try.prog.keyLits (Try.prog.types.size + 1) 28 [Value.string u.f0, .string u.f1] = some [.string u.f0.data.toList, .string u.f1.data.toList] := by
    rw [show Try.prog.types.size + 1 = (Try.prog.types.size - 1) + 2 by rw [szU]]
    exact hk0 _
  simp only [keyOf, Try.underlying28]
  rw [deepU, hf]
  simp only [Bool.and_self, if_true, Value.cells]
  rw [hk]
  rfl
theorem kb_inj {u v : U} (hu : okU u = true) (hv : okU v = true) (h : kb u = kb v) : u = v := by
  have := lawU.inj (keyU u hu) (h ▸ keyU v hv)
  injection this with this
  have h2 := congrArg Array.toList this
  injection h2 with h3 h4
  injection h3 with h3
  injection h4 with h4 _
  injection h4 with h4
  obtain ⟨a, b⟩ := u
  obtain ⟨c, d⟩ := v
  cases h3; cases h4; rfl
theorem kb_key (u : U) (hu : okU u = true) : WideAt.IsKeyLit (kb u) := lawU.key (keyU u hu)
def setD (M : List U) : DataW Unit := M.foldr (fun u D => D.put (kb u) (.lit (.bool true))) (.map [])
theorem setD_isMap (M : List U) : IsMap (setD M) := by
  induction M with
  | nil => exact isMap_empty
  | cons u M ih => exact ih.put _ _
theorem setD_at (M : List U) (hM : ∀ x ∈ M, okU x = true) (u : U) (hu : okU u = true) (z : DataW Unit) : (setD M).atKey (kb u) z = if u ∈ M then .lit (.bool true) else z := by
  induction M with
  | nil => rfl
  | cons v M ih =>
    have ih := ih (fun x hx => hM x (List.mem_cons_of_mem _ hx))
    show ((setD M).put (kb v) _).atKey (kb u) z = _
    by_cases h : u = v
    · subst h
      rw [atKey_put_same (setD_isMap M) (kb_key u hu), if_pos (List.mem_cons_self ..)]
    · rw [atKey_put_other (fun e => h (kb_inj hu (hM v (List.mem_cons_self ..)) e)), ih]
      simp [h]
theorem setD_has (M : List U) (hM : ∀ x ∈ M, okU x = true) (u : U) (hu : okU u = true) : Maps.has (setD M) (kb u) = decide (u ∈ M) := by
  induction M with
  | nil => rfl
  | cons v M ih =>
    have ih := ih (fun x hx => hM x (List.mem_cons_of_mem _ hx))
    show Maps.has ((setD M).put (kb v) _) (kb u) = _
    by_cases h : u = v
    · subst h
      rw [has_put_same (setD_isMap M) (kb_key u hu)]
      simp
    · rw [has_put_other (fun e => h (kb_inj hu (hM v (List.mem_cons_self ..)) e)), ih]
      simp [h]
/-- What has a key is one of those. -/
theorem setD_key (M : List U) (hM : ∀ x ∈ M, okU x = true) (kl : Lit) (h : Maps.has (setD M) kl = true) : ∃ u ∈ M, kb u = kl := by
  induction M with
  | nil => cases h
  | cons v M ih =>
    by_cases hk : kl = kb v
    · exact ⟨v, List.mem_cons_self .., hk.symm⟩
    · have : Maps.has ((setD M).put (kb v) (.lit (.bool true))) kl = true := h
      rw [has_put_other hk] at this
      obtain ⟨u, hu, e⟩ := ih (fun x hx => hM x (List.mem_cons_of_mem _ hx)) this
      exact ⟨u, List.mem_cons_of_mem _ hu, e⟩
theorem zeroB (w : World) : (zeroValue 4).run Try.prog w = .ok (.bool false) w := by kernel_rfl
theorem plainB0 {P : Program} {e : TypeId} (he : P.underlying e = some .bool) {v : Value} {z : DataW Unit × List MemPlace} (h : plainElem P e v = some z) : ∃ b, v = .bool b ∧ z = (.lit (.bool b), []) := by
  unfold plainElem at h
  rw [he] at h
  cases v <;> simp at h
  exact ⟨_, rfl, h.symm⟩
theorem plainB {v : Value} {z : DataW Unit × List MemPlace} (h : plainElem Try.prog 4 v = some z) : ∃ b, v = .bool b ∧ z = (.lit (.bool b), []) := plainB0 Try.underlying4 h
theorem look_run {w : World} {b n : Nat} {M : List U} (hown : w.ownsMap Try.prog 28 (plainElem Try.prog 4) b n (setD M)) (hM : ∀ x ∈ M, okU x = true) (u : U) (hu : okU u = true) :
    (Instr.lookup 87 (.map (some b)) (.agg #[.string u.f0, .string u.f1]) false).run Try.prog w = .ok (.bool (decide (u ∈ M))) w := by
  obtain ⟨v, ps, hrun, hv⟩ := hown.lookup lawU Try.underlying87 (zeroB w) (zd := .lit (.bool false)) (zp := []) (plainElem_bool Try.underlying4 false) (keyU u hu)
  obtain ⟨c, rfl, hc⟩ := plainB hv
  have hc1 := congrArg Prod.fst hc
  rw [setD_at M hM u hu] at hc1
  have hcd : c = decide (u ∈ M) := by
    by_cases h : u ∈ M
    · rw [if_pos h] at hc1
      rw [← Lit.bool.inj (DataW.lit.inj hc1)]; simp [h]
    · rw [if_neg h] at hc1
      rw [← Lit.bool.inj (DataW.lit.inj hc1)]; simp [h]
  rw [← hcd]
  exact hrun
/-- The look-up of a uid in the set. -/
theorem look_set (w : World) {ops : Array Oper} {rest : List Oper} {o : Oper} {a : Act} {Q : Exit → Act → World → Prop} (hg : o.guard = none) (m x : Operand) (hop : o.op = Op.lookup 87 m x false) (b n : Nat) (M : List U) (hM : ∀ x ∈ M, okU x = true)
    (hm : a.eval m = .map (some b)) (hown : w.ownsMap Try.prog 28 (plainElem Try.prog 4) b n (setD M)) (u : U) (hu : okU u = true) (hx : a.eval x = .agg #[.string u.f0, .string u.f1])
    (hK : wpList Try.prog ops Q rest (a.put o.dst (.bool (decide (u ∈ M)))) w) : wpList Try.prog ops Q (o :: rest) a w := by
  refine wpList_plain hg fun K' hK' => ?_
  have hrun := look_run hown hM u hu
  unfold Oper.wp
  simp [execOp, hop, hm, hx, hrun, Result.andThen]
  exact hK' _ _ hK
theorem put_set (w : World) {ops : Array Oper} {rest : List Oper} {o : Oper} {a : Act} {Q : Exit → Act → World → Prop} (hg : o.guard = none) (m x v : Operand) (hop : o.op = Op.mapUpdate 87 m x v) (b n : Nat) (M : List U)
    (hm : a.eval m = .map (some b)) (hown : w.ownsMap Try.prog 28 (plainElem Try.prog 4) b n (setD M)) (hn : n ≤ 2000000) (u : U) (hu : okU u = true) (hx : a.eval x = .agg #[.string u.f0, .string u.f1]) (hv : a.eval v = .bool true)
    (hK : ∀ w', w'.ownsMap Try.prog 28 (plainElem Try.prog 4) b (n + 1) (setD (u :: M)) → w.grownBy w' (some b) → wpList Try.prog ops Q rest (a.put o.dst undef) w') : wpList Try.prog ops Q (o :: rest) a w :=
  wpList_mapUpdate_own w hg m x v 87 hop 28 4 lawU Try.underlying87 (plainElem Try.prog 4) b n (setD M) hm hown (by unfold maxLen; omega) _ _ (kb u) hx hv (keyU u hu) (.lit (.bool true)) [] (plainElem_bool Try.underlying4 true) hK
/-! rows of uids -/
def uc (xs : List U) : List Value := xs.flatMap fun u => [.string u.f0, .string u.f1]
theorem uc_len (xs : List U) : (uc xs).length = xs.length * 2 := by
  induction xs with
  | nil => rfl
  | cons u xs ih => simp only [uc, List.flatMap_cons, List.length_append, List.length_cons, List.length_nil] at ih ⊢; omega
theorem uc_append (xs ys : List U) : uc (xs ++ ys) = uc xs ++ uc ys := by simp [uc]
theorem uc_cons (u : U) (xs : List U) : uc (u :: xs) = .string u.f0 :: .string u.f1 :: uc xs := rfl
theorem uc_chunk : ∀ (xs : List U) (j : Nat) (u : U), xs[j]? = some u → ((uc xs).drop (j * 2)).take 2 = [.string u.f0, .string u.f1]
  | [], j, u, h => by simp at h
  | x :: xs, 0, u, h => by
    obtain rfl : x = u := by simpa using h
    rfl
  | x :: xs, j + 1, u, h => by
    have := uc_chunk xs j u (by simpa using h)
    rw [uc_cons, show (j + 1) * 2 = j * 2 + 2 by omega]
    exact this
theorem uc_of : ∀ (xs : List U) (inner : List Value), inner.length = xs.length * 2 → (∀ j u, xs[j]? = some u → (inner.drop (j * 2)).take 2 = [.string u.f0, .string u.f1]) → inner = uc xs
  | [], inner, h, _ => List.eq_nil_of_length_eq_zero (by simpa using h)
  | u :: xs, inner, h, hc => by
    have h0 := hc 0 u rfl
    match inner, h with
    | a :: b :: r, h =>
      have e : [a, b] = [Value.string u.f0, .string u.f1] := h0
      injection e with e1 e2
      injection e2 with e2 _
      rw [uc_cons, e1, e2, uc_of xs r (by simp at h; omega) (fun j v hj => by
        have := hc (j + 1) v (by simpa using hj)
        rw [show (j + 1) * 2 = j * 2 + 2 by omega] at this
        exact this)]
    | [a], h => simp at h; omega
    | [], h => simp at h
theorem uc_one (xs : List U) : ∀ v ∈ uc xs, v.oneCell' = true := by
  intro v hv
  obtain ⟨u, _, hu⟩ := List.mem_flatMap.1 hv
  simp at hu
  rcases hu with rfl | rfl <;> rfl
theorem own_uc {e : Nat} {w : World} {base : Nat} {ok : Nat → Prop} {v : Value} {xs : List U} (h : Kd.N k28 e w base ok v xs) : w.ownsRow base e 2 v xs.length (uc xs) := by
  obtain ⟨inner, ho, _, _, hf⟩ := GT.N_cells h
  have ho : w.ownsRow base e 2 v xs.length inner := ho
  have : inner = uc xs := uc_of xs inner ho.1 (fun j u hj => k28_open (Kd.FK_now (hf j u hj)))
  rw [← this]; exact ho
theorem N_of_own {e : Nat} {w : World} {base : Nat} {ok : Nat → Prop} {v : Value} {xs : List U} (ho : w.ownsRow base e 2 v xs.length (uc xs)) (hok : ∀ q, v.ownBlock = some q → ok q) : Kd.N k28 e w base ok v xs := by
  refine ⟨hok, xs.map (fun u => [.string u.f0, .string u.f1]), by simp, ⟨fun k hk => hk.symm, uc xs, by rw [List.length_map]; exact ho, ⟨by rw [List.length_map]; exact uc_len xs, fun j p hp => ?_⟩⟩, fun j x c hx hc => ?_⟩
  · rw [List.getElem?_map] at hp
    cases hx : xs[j]? with
    | none => rw [hx] at hp; cases hp
    | some u =>
      rw [hx] at hp
      obtain rfl : [Value.string u.f0, .string u.f1] = p := by simpa using hp
      refine ⟨uc_chunk xs j u hx, by rw [show (Kd.raw k28.sz).sz = 2 from rfl, uc_chunk xs j u hx]; rfl, ?_⟩
      rw [show (Kd.raw k28.sz).sz = 2 from rfl, uc_chunk xs j u hx]
      intro v hv
      simp at hv
      rcases hv with rfl | rfl <;> rfl
  · rw [List.getElem?_map, hx] at hc
    obtain rfl : [Value.string x.f0, .string x.f1] = c := by simpa using hc
    exact k28_mkF w _ x
end Go.Proofs.Ytelibndkkokadaa.GA
