import Derived.Test.YtelibndkkokadaaGreatGB0
import Derived.Test.YtelibndkkokadaaGreatEd
import Derived.Maps.RangeWalk
import Derived.DeepKeys4
import Derived.Test.YtelibndkkokadaaGreatGBf
import Derived.Deep.LoopGhost
import Derived.Deep.RegionWith
namespace Go.Proofs.YtelibndkkokadaaGreat.GA
open Go.RowKit Go.Proofs.YtelibndkkokadaaGreatW.PrintWords Go.Proofs.YtelibndkkokadaaGreatW.PrintLast Go.Proofs.YtelibndkkokadaaGreat.HandV Go.Proofs.YtelibndkkokadaaGreatW.PrintMore
open Go.Proofs.YtelibndkkokadaaGreat.GB
attribute [local go_sem] max2_int min2_int max_two min_two max_three min_three max_four min_four   -- for this text's walks alone
set_option linter.unusedVariables false
set_option linter.unusedSimpArgs false
set_option linter.unusedSectionVars false
section Ups
variable {α : Type}
inductive Up (step : α → List α) : α → α → Prop
  | refl (a : α) : Up step a a
  | head {a b c : α} : b ∈ step a → Up step b c → Up step a c
theorem Up.trans {step : α → List α} {a b c : α} (h : Up step a b) (k : Up step b c) : Up step a c := by
  induction h with
  | refl => exact k
  | head h1 _ ih => exact .head h1 (ih k)
theorem Up.snoc {step : α → List α} {a b c : α} (h : Up step a b) (k : c ∈ step b) : Up step a c := h.trans (.head k (.refl c))
theorem Up.closed {step : α → List α} {a b : α} (h : Up step a b) {R : List α} (hR : ∀ u ∈ R, ∀ x ∈ step u, x ∈ R) (ha : a ∈ R) : b ∈ R := by
  induction h with
  | refl => exact ha
  | head h1 _ ih => exact ih (hR _ ha _ h1)
theorem last_snoc {L : List α} {u : α} (h : L.getLast? = some u) : L = L.dropLast ++ [u] := by
  obtain ⟨ys, rfl⟩ := List.getLast?_eq_some_iff.1 h
  rw [List.dropLast_concat]
end Ups
section Climb
variable {α : Type} [DecidableEq α]
/-- Going up: what is left to do (the last one is next), what is met. -/
def climbR (step : α → List α) : Nat → List α → List α → List α
  | 0, _, M => M
  | n + 1, L, M => match L.getLast? with
    | none => M
    | some u => if u ∈ M then climbR step n L.dropLast M else climbR step n (L.dropLast ++ step u) (u :: M)
def wt (W : List (α × List α)) (M : List α) : Nat := (W.map fun p => if p.1 ∈ M then 0 else p.2.length).sum
theorem wt_le (M : List α) (u : α) : ∀ (W : List (α × List α)), wt W (u :: M) ≤ wt W M
  | [] => Nat.le_refl _
  | p :: W => by
    have ih := wt_le M u W
    simp only [wt, List.map_cons, List.sum_cons] at ih ⊢
    by_cases h : p.1 ∈ M
    · rw [if_pos h, if_pos (List.mem_cons_of_mem _ h)]; omega
    · rw [if_neg h]
      split <;> omega
theorem wt_lt (M : List α) (u : α) (hu : u ∉ M) (s : List α) : ∀ (W : List (α × List α)), (u, s) ∈ W → wt W (u :: M) + s.length ≤ wt W M
  | [], h => by cases h
  | p :: W, h => by
    have ih := wt_lt M u hu s W
    have ih2 := wt_le M u W
    simp only [wt, List.map_cons, List.sum_cons] at ih ih2 ⊢
    rcases List.mem_cons.1 h with h | h
    · subst h
      rw [if_pos (List.mem_cons_self ..), if_neg hu]
      show 0 + _ + s.length ≤ s.length + _
      omega
    · have := ih h
      by_cases hm : p.1 ∈ M
      · rw [if_pos hm, if_pos (List.mem_cons_of_mem _ hm)]; omega
      · rw [if_neg hm]
        split <;> omega
theorem wt_step {step : α → List α} {W : List (α × List α)} (hW : ∀ u, step u = [] ∨ (u, step u) ∈ W) (M : List α) (u : α) (hu : u ∉ M) : wt W (u :: M) + (step u).length ≤ wt W M := by
  rcases hW u with h | h
  · rw [h]; exact wt_le M u W
  · exact wt_lt M u hu _ W h
theorem climbR_spec {step : α → List α} {W : List (α × List α)} (hW : ∀ u, step u = [] ∨ (u, step u) ∈ W) : ∀ (n : Nat) (L M : List α), L.length + wt W M ≤ n → (∀ x ∈ M, x ∈ climbR step n L M) ∧ (∀ x ∈ L, x ∈ climbR step n L M) ∧ (∀ u ∈ climbR step n L M, u ∉ M → ∀ x ∈ step u, x ∈ climbR step n L M) ∧ (∀ x ∈ climbR step n L M, x ∈ M ∨ ∃ s ∈ L, Up step s x)
  | 0, L, M, h => by
    have : L = [] := List.length_eq_zero_iff.1 (by omega)
    subst this
    exact ⟨fun x h => h, fun x h => (by cases h), fun u h1 h2 => absurd h1 h2, fun x h => .inl h⟩
  | n + 1, L, M, h => by
    unfold climbR
    cases hl : L.getLast? with
    | none =>
      have : L = [] := List.getLast?_eq_none_iff.1 hl
      subst this
      exact ⟨fun x h => h, fun x h => (by cases h), fun u h1 h2 => absurd h1 h2, fun x h => .inl h⟩
    | some u =>
      have hL := last_snoc hl
      have hlen : L.length = L.dropLast.length + 1 := by rw [congrArg List.length hL]; simp
      have hmem : ∀ x, x ∈ L ↔ x ∈ L.dropLast ∨ x = u := by
        intro x
        constructor
        · intro hx; rw [hL] at hx; simpa using hx
        · intro hx; rw [hL]; simpa using hx
      dsimp only
      by_cases hu : u ∈ M
      · rw [if_pos hu]
        obtain ⟨h1, h2, h3, h4⟩ := climbR_spec hW n L.dropLast M (by omega)
        refine ⟨h1, fun x hx => ?_, h3, fun x hx => ?_⟩
        · rcases (hmem x).1 hx with hx | rfl
          · exact h2 x hx
          · exact h1 _ hu
        · rcases h4 x hx with hx | ⟨s, hs, hup⟩
          · exact .inl hx
          · exact .inr ⟨s, (hmem s).2 (.inl hs), hup⟩
      · rw [if_neg hu]
        have hw := wt_step hW M u hu
        obtain ⟨h1, h2, h3, h4⟩ := climbR_spec hW n (L.dropLast ++ step u) (u :: M) (by rw [List.length_append]; omega)
        refine ⟨fun x hx => h1 x (List.mem_cons_of_mem _ hx), fun x hx => ?_, fun v hv hvM x hx => ?_, fun x hx => ?_⟩
        · rcases (hmem x).1 hx with hx | rfl
          · exact h2 x (List.mem_append_left _ hx)
          · exact h1 _ (List.mem_cons_self ..)
        · by_cases hvu : v = u
          · subst hvu
            exact h2 x (List.mem_append_right _ hx)
          · exact h3 v hv (by simp only [List.mem_cons, not_or]; exact ⟨hvu, hvM⟩) x hx
        · rcases h4 x hx with hx | ⟨s, hs, hup⟩
          · rcases List.mem_cons.1 hx with rfl | hx
            · exact .inr ⟨x, (hmem x).2 (.inr rfl), .refl x⟩
            · exact .inl hx
          · rcases List.mem_append.1 hs with hs | hs
            · exact .inr ⟨s, (hmem s).2 (.inl hs), hup⟩
            · exact .inr ⟨u, (hmem u).2 (.inr rfl), .head hs hup⟩
/-- All that is met. -/
theorem climbR_mem {step : α → List α} {W : List (α × List α)} (hW : ∀ u, step u = [] ∨ (u, step u) ∈ W) (n : Nat) (L : List α) (hn : L.length + wt W [] ≤ n) (x : α) : x ∈ climbR step n L [] ↔ ∃ s ∈ L, Up step s x := by
  obtain ⟨_, h2, h3, h4⟩ := climbR_spec hW n L [] hn
  constructor
  · intro hx
    rcases h4 x hx with h | h
    · cases h
    · exact h
  · rintro ⟨s, hs, hup⟩
    exact hup.closed (fun u hu x hx => h3 u hu (by simp) x hx) (h2 s hs)
theorem climbR_nodup (step : α → List α) : ∀ (n : Nat) (L M : List α), M.Nodup → (climbR step n L M).Nodup
  | 0, _, _, h => h
  | n + 1, L, M, h => by
    unfold climbR
    cases L.getLast? with
    | none => exact h
    | some u =>
      dsimp only
      by_cases hu : u ∈ M
      · rw [if_pos hu]; exact climbR_nodup step n _ _ h
      · rw [if_neg hu]; exact climbR_nodup step n _ _ (List.nodup_cons.2 ⟨hu, h⟩)
end Climb
end Go.Proofs.YtelibndkkokadaaGreat.GA
namespace Go.Proofs.YtelibndkkokadaaGreat.GA
open Go.RowKit Go.Proofs.YtelibndkkokadaaGreatW.PrintWords Go.Proofs.YtelibndkkokadaaGreatW.PrintLast Go.Proofs.YtelibndkkokadaaGreat.HandV Go.Proofs.YtelibndkkokadaaGreatW.PrintMore
open Go.Proofs.YtelibndkkokadaaGreat.GB
attribute [local go_sem] max2_int min2_int max_two min_two max_three min_three max_four min_four   -- for this text's walks alone
set_option linter.unusedVariables false
set_option linter.unusedSimpArgs false
-- IMPORT .A1
-- IMPORT .Ed
-- IMPORT Derived.Maps.RangeWalk
-- IMPORT Derived.DeepKeys4
open Go.Maps
abbrev U := S28
abbrev En := S32
instance decU : DecidableEq U := fun a b => decidable_of_iff (a.f0 = b.f0 ∧ a.f1 = b.f1) ⟨fun h => by cases a; cases b; obtain ⟨h1, h2⟩ := h; cases h1; cases h2; rfl, fun h => by cases h; exact ⟨rfl, rfl⟩⟩
def okU (u : U) : Bool := decide (u.f0.size ≤ 1000000) && decide (u.f1.size ≤ 1000000)
def okE (e : En) : Bool := okU e.f0 && (e.f1.all okU && (GT.smE e && decide (e.f1.length ≤ 1000)))
def okL (l : List En) : Bool := decide (l.length ≤ 998) && l.all okE
/-- The parents of one, if it is there. -/
def stepF (l : List En) (u : U) : List U := if GT.atB l u.f0 u.f1 = true then (match l[GT.atI l u.f0 u.f1]? with | some e => e.f1 | none => []) else []
def pairs (l : List En) : List (U × List U) := l.map fun e => (e.f0, e.f1)
theorem atB_some {l : List En} {u : U} (h : GT.atB l u.f0 u.f1 = true) : ∃ e, l[GT.atI l u.f0 u.f1]? = some e ∧ e.f0 = u := by
  unfold GT.atB at h
  cases hx : l[GT.atI l u.f0 u.f1]? with
  | none => rw [hx] at h; cases h
  | some x =>
    rw [hx] at h
    simp only [Bool.and_eq_true, beq_iff_eq] at h
    refine ⟨x, rfl, ?_⟩
    have h1 : x.f0.f0 = u.f0 := ByteArray.ext (Array.toList_inj.1 (by rw [← ByteArray.toList_eq, ← ByteArray.toList_eq]; exact h.1))
    have h2 : x.f0.f1 = u.f1 := ByteArray.ext (Array.toList_inj.1 (by rw [← ByteArray.toList_eq, ← ByteArray.toList_eq]; exact h.2))
    obtain ⟨⟨a, b⟩, _, _⟩ := x
    obtain ⟨c, d⟩ := u
    cases h1; cases h2; rfl
theorem stepF_in (l : List En) (u : U) : stepF l u = [] ∨ (u, stepF l u) ∈ pairs l := by
  unfold stepF
  by_cases h : GT.atB l u.f0 u.f1 = true
  · rw [if_pos h]
    obtain ⟨e, he, rfl⟩ := atB_some h
    rw [he]
    exact .inr (List.mem_map.2 ⟨e, List.mem_of_getElem? he, rfl⟩)
  · rw [if_neg h]; exact .inl rfl
def most (l : List En) (fr : List U) : Nat := fr.length + wt (pairs l) []
/-- All that is met on the way up. -/
def climbF (l : List En) (fr : List U) : List U := climbR (stepF l) (most l fr) fr []
theorem climbF_mem (l : List En) (fr : List U) (x : U) : x ∈ climbF l fr ↔ ∃ s ∈ fr, Up (stepF l) s x := climbR_mem (stepF_in l) _ fr (Nat.le_refl _) x
theorem okL_mem {l : List En} (h : okL l = true) {e : En} (he : e ∈ l) : okU e.f0 = true ∧ (∀ p ∈ e.f1, okU p = true) ∧ GT.smE e = true ∧ e.f1.length ≤ 1000 := by
  simp only [okL, okE, Bool.and_eq_true, decide_eq_true_eq, List.all_eq_true] at h
  obtain ⟨h1, h2, h3, h4⟩ := h.2 e he
  exact ⟨h1, h2, h3, h4⟩
theorem okL_len {l : List En} (h : okL l = true) : l.length ≤ 998 := by
  simp only [okL, Bool.and_eq_true, decide_eq_true_eq] at h; exact h.1
theorem stepF_ok {l : List En} (h : okL l = true) (u : U) : ∀ p ∈ stepF l u, okU p = true := by
  intro p hp
  rcases stepF_in l u with h0 | h0
  · rw [h0] at hp; cases hp
  · obtain ⟨e, he, h1⟩ := List.mem_map.1 h0
    injection h1 with h1 h2
    rw [← h2] at hp
    exact (okL_mem h he).2.1 p hp
theorem wt_bound (l : List En) (h : ∀ e ∈ l, e.f1.length ≤ 1000) : wt (pairs l) [] ≤ 1000 * l.length := by
  induction l with
  | nil => exact Nat.le_refl _
  | cons e l ih =>
    have h1 := ih (fun x hx => h x (List.mem_cons_of_mem _ hx))
    have h2 := h e (List.mem_cons_self ..)
    simp only [pairs, wt, List.map_cons, List.sum_cons, List.length_cons] at h1 ⊢
    rw [if_neg (by simp)]
    omega
theorem most_le {l : List En} (h : okL l = true) {fr : List U} (hf : fr.length ≤ 1000) : most l fr ≤ 1000000 := by
  have h1 := wt_bound l (fun e he => (okL_mem h he).2.2.2)
  have h2 := okL_len h
  unfold most
  omega
/-! the set that is met, as a map -/
theorem lawU : Keyed Tryz.prog 28 := Keyed.of_law (deep_law_laid (m := 2) (by kernel_rfl) (by omega) (of_decide_eq_true (by kernel_rfl)) (by kernel_rfl) (by rw [Tryz.underlying28]))
def kb (u : U) : Lit := .string (keyBytes [.string u.f0.data.toList, .string u.f1.data.toList])
theorem deepU : Tryz.prog.keyType 28 = true := by kernel_rfl
theorem szU : Tryz.prog.types.size = (303 - 100) := by kernel_rfl
theorem cells9 : Tryz.prog.cellsOf 9 = 1 := by kernel_rfl
theorem cellsU : Tryz.prog.cellsOf 28 = 2 := by kernel_rfl
theorem keyU (u : U) (h : okU u = true) : keyOf Tryz.prog 28 (.agg #[.string u.f0, .string u.f1]) = some (kb u) := by
  simp only [okU, Bool.and_eq_true, decide_eq_true_eq] at h
  have h0 : u.f0.size ≤ maxLen := by unfold maxLen; omega
  have h1 : u.f1.size ≤ maxLen := by unfold maxLen; omega
  have hf : (Value.agg #[.string u.f0, .string u.f1]).formed Tryz.prog 28 = true := by simp [Value.formed, Tryz.underlying28, cellsU]
  have hk0 : ∀ d, Tryz.prog.keyLits (d + 2) 28 [Value.string u.f0, .string u.f1] = some [.string u.f0.data.toList, .string u.f1.data.toList] := by
    intro d
    simp [Program.keyLits, Tryz.underlying28, Tryz.underlying9, cellsU, cells9, h0, h1]
  have hk : Tryz.prog.keyLits (Tryz.prog.types.size + 1) 28 [Value.string u.f0, .string u.f1] = some [.string u.f0.data.toList, .string u.f1.data.toList] := by
    rw [show Tryz.prog.types.size + 1 = (Tryz.prog.types.size - 1) + 2 by rw [szU]]
    exact hk0 _
  simp only [keyOf, Tryz.underlying28]
  rw [deepU, hf]
  simp only [Bool.and_self, if_true, Value.cells]
  rw [hk]
  rfl
theorem kb_inj {u v : U} (hu : okU u = true) (hv : okU v = true) (h : kb u = kb v) : u = v := by
  have := lawU.inj (keyU u hu) (h ▸ keyU v hv)
  injection this with this
  have h2 := congrArg Array.toList this
  injection h2 with h3 h4
  injection h3 with h3
  injection h4 with h4 _
  injection h4 with h4
  obtain ⟨a, b⟩ := u
  obtain ⟨c, d⟩ := v
  cases h3; cases h4; rfl
theorem kb_key (u : U) (hu : okU u = true) : WideAt.IsKeyLit (kb u) := lawU.key (keyU u hu)
def setD (M : List U) : DataW Unit := M.foldr (fun u D => D.put (kb u) (.lit (.bool true))) (.map [])
theorem setD_isMap (M : List U) : IsMap (setD M) := by
  induction M with
  | nil => exact isMap_empty
  | cons u M ih => exact ih.put _ _
theorem setD_at (M : List U) (hM : ∀ x ∈ M, okU x = true) (u : U) (hu : okU u = true) (z : DataW Unit) : (setD M).atKey (kb u) z = if u ∈ M then .lit (.bool true) else z := by
  induction M with
  | nil => rfl
  | cons v M ih =>
    have ih := ih (fun x hx => hM x (List.mem_cons_of_mem _ hx))
    show ((setD M).put (kb v) _).atKey (kb u) z = _
    by_cases h : u = v
    · subst h
      rw [atKey_put_same (setD_isMap M) (kb_key u hu), if_pos (List.mem_cons_self ..)]
    · rw [atKey_put_other (fun e => h (kb_inj hu (hM v (List.mem_cons_self ..)) e)), ih]
      simp [h]
theorem zeroB (w : World) : (zeroValue 4).run Tryz.prog w = .ok (.bool false) w := by kernel_rfl
theorem plainB0 {P : Program} {e : TypeId} (he : P.underlying e = some .bool) {v : Value} {z : DataW Unit × List MemPlace} (h : plainElem P e v = some z) : ∃ b, v = .bool b ∧ z = (.lit (.bool b), []) := by
  unfold plainElem at h
  rw [he] at h
  cases v <;> simp at h
  exact ⟨_, rfl, h.symm⟩
theorem plainB {v : Value} {z : DataW Unit × List MemPlace} (h : plainElem Tryz.prog 4 v = some z) : ∃ b, v = .bool b ∧ z = (.lit (.bool b), []) := plainB0 Tryz.underlying4 h
theorem look_run {w : World} {b n : Nat} {M : List U} (hown : w.ownsMap Tryz.prog 28 (plainElem Tryz.prog 4) b n (setD M)) (hM : ∀ x ∈ M, okU x = true) (u : U) (hu : okU u = true) :
    (Instr.lookup 130 (.map (some b)) (.agg #[.string u.f0, .string u.f1]) false).run Tryz.prog w = .ok (.bool (decide (u ∈ M))) w := by
  obtain ⟨v, ps, hrun, hv⟩ := hown.lookup lawU Tryz.underlying130 (zeroB w) (zd := .lit (.bool false)) (zp := []) (plainElem_bool Tryz.underlying4 false) (keyU u hu)
  obtain ⟨c, rfl, hc⟩ := plainB hv
  have hc1 := congrArg Prod.fst hc
  rw [setD_at M hM u hu] at hc1
  have hcd : c = decide (u ∈ M) := by
    by_cases h : u ∈ M
    · rw [if_pos h] at hc1
      rw [← Lit.bool.inj (DataW.lit.inj hc1)]; simp [h]
    · rw [if_neg h] at hc1
      rw [← Lit.bool.inj (DataW.lit.inj hc1)]; simp [h]
  rw [← hcd]
  exact hrun
/-- The look-up of a uid in the set. -/
theorem look_set (w : World) {ops : Array Oper} {rest : List Oper} {o : Oper} {a : Act} {Q : Exit → Act → World → Prop} (hg : o.guard = none) (m x : Operand) (hop : o.op = Op.lookup 130 m x false) (b n : Nat) (M : List U) (hM : ∀ x ∈ M, okU x = true)
    (hm : a.eval m = .map (some b)) (hown : w.ownsMap Tryz.prog 28 (plainElem Tryz.prog 4) b n (setD M)) (u : U) (hu : okU u = true) (hx : a.eval x = .agg #[.string u.f0, .string u.f1])
    (hK : wpList Tryz.prog ops Q rest (a.put o.dst (.bool (decide (u ∈ M)))) w) : wpList Tryz.prog ops Q (o :: rest) a w := by
  refine wpList_plain hg fun K' hK' => ?_
  have hrun := look_run hown hM u hu
  unfold Oper.wp
  simp [execOp, hop, hm, hx, hrun, Result.andThen]
  exact hK' _ _ hK
theorem put_set (w : World) {ops : Array Oper} {rest : List Oper} {o : Oper} {a : Act} {Q : Exit → Act → World → Prop} (hg : o.guard = none) (m x v : Operand) (hop : o.op = Op.mapUpdate 130 m x v) (b n : Nat) (M : List U)
    (hm : a.eval m = .map (some b)) (hown : w.ownsMap Tryz.prog 28 (plainElem Tryz.prog 4) b n (setD M)) (hn : n ≤ 2000000) (u : U) (hu : okU u = true) (hx : a.eval x = .agg #[.string u.f0, .string u.f1]) (hv : a.eval v = .bool true)
    (hK : ∀ w', w'.ownsMap Tryz.prog 28 (plainElem Tryz.prog 4) b (n + 1) (setD (u :: M)) → w.grownBy w' (some b) → wpList Tryz.prog ops Q rest (a.put o.dst undef) w') : wpList Tryz.prog ops Q (o :: rest) a w :=
  wpList_mapUpdate_own w hg m x v 130 hop 28 4 lawU Tryz.underlying130 (plainElem Tryz.prog 4) b n (setD M) hm hown (by unfold maxLen; omega) _ _ (kb u) hx hv (keyU u hu) (.lit (.bool true)) [] (plainElem_bool Tryz.underlying4 true) hK
/-! rows of uids -/
def uc (xs : List U) : List Value := xs.flatMap fun u => [.string u.f0, .string u.f1]
theorem uc_len (xs : List U) : (uc xs).length = xs.length * 2 := by
  induction xs with
  | nil => rfl
  | cons u xs ih => simp only [uc, List.flatMap_cons, List.length_append, List.length_cons, List.length_nil] at ih ⊢; omega
theorem uc_append (xs ys : List U) : uc (xs ++ ys) = uc xs ++ uc ys := by simp [uc]
theorem uc_cons (u : U) (xs : List U) : uc (u :: xs) = .string u.f0 :: .string u.f1 :: uc xs := rfl
theorem uc_chunk : ∀ (xs : List U) (j : Nat) (u : U), xs[j]? = some u → ((uc xs).drop (j * 2)).take 2 = [.string u.f0, .string u.f1]
  | [], j, u, h => by simp at h
  | x :: xs, 0, u, h => by
    obtain rfl : x = u := by simpa using h
    rfl
  | x :: xs, j + 1, u, h => by
    have := uc_chunk xs j u (by simpa using h)
    rw [uc_cons, show (j + 1) * 2 = j * 2 + 2 by omega]
    exact this
theorem uc_of : ∀ (xs : List U) (inner : List Value), inner.length = xs.length * 2 → (∀ j u, xs[j]? = some u → (inner.drop (j * 2)).take 2 = [.string u.f0, .string u.f1]) → inner = uc xs
  | [], inner, h, _ => List.eq_nil_of_length_eq_zero (by simpa using h)
  | u :: xs, inner, h, hc => by
    have h0 := hc 0 u rfl
    match inner, h with
    | a :: b :: r, h =>
      have e : [a, b] = [Value.string u.f0, .string u.f1] := h0
      injection e with e1 e2
      injection e2 with e2 _
      rw [uc_cons, e1, e2, uc_of xs r (by simp at h; omega) (fun j v hj => by
        have := hc (j + 1) v (by simpa using hj)
        rw [show (j + 1) * 2 = j * 2 + 2 by omega] at this
        exact this)]
    | [a], h => simp at h; omega
    | [], h => simp at h
theorem own_uc {e : Nat} {w : World} {base : Nat} {ok : Nat → Prop} {v : Value} {xs : List U} (h : Kd.N k28 e w base ok v xs) : w.ownsRow base e 2 v xs.length (uc xs) := by
  obtain ⟨inner, ho, _, _, hf⟩ := GT.N_cells h
  have ho : w.ownsRow base e 2 v xs.length inner := ho
  have : inner = uc xs := uc_of xs inner ho.1 (fun j u hj => k28_open (Kd.FK_now (hf j u hj)))
  rw [← this]; exact ho
theorem N_of_own {e : Nat} {w : World} {base : Nat} {ok : Nat → Prop} {v : Value} {xs : List U} (ho : w.ownsRow base e 2 v xs.length (uc xs)) (hok : ∀ q, v.ownBlock = some q → ok q) : Kd.N k28 e w base ok v xs := by
  refine ⟨hok, xs.map (fun u => [.string u.f0, .string u.f1]), by simp, ⟨fun k hk => hk.symm, uc xs, by rw [List.length_map]; exact ho, ⟨by rw [List.length_map]; exact uc_len xs, fun j p hp => ?_⟩⟩, fun j x c hx hc => ?_⟩
  · rw [List.getElem?_map] at hp
    cases hx : xs[j]? with
    | none => rw [hx] at hp; cases hp
    | some u =>
      rw [hx] at hp
      obtain rfl : [Value.string u.f0, .string u.f1] = p := by simpa using hp
      refine ⟨uc_chunk xs j u hx, by rw [show (Kd.raw k28.sz).sz = 2 from rfl, uc_chunk xs j u hx]; rfl, ?_⟩
      rw [show (Kd.raw k28.sz).sz = 2 from rfl, uc_chunk xs j u hx]
      intro v hv
      simp at hv
      rcases hv with rfl | rfl <;> rfl
  · rw [List.getElem?_map, hx] at hc
    obtain rfl : [Value.string x.f0, .string x.f1] = c := by simpa using hc
    exact k28_mkF w _ x
end Go.Proofs.YtelibndkkokadaaGreat.GA
namespace Go.Proofs.YtelibndkkokadaaGreat.GA
open Go.RowKit Go.Proofs.YtelibndkkokadaaGreatW.PrintWords Go.Proofs.YtelibndkkokadaaGreatW.PrintLast Go.Proofs.YtelibndkkokadaaGreat.HandV Go.Proofs.YtelibndkkokadaaGreatW.PrintMore
open Go.Proofs.YtelibndkkokadaaGreat.GB
attribute [local go_sem] max2_int min2_int max_two min_two max_three min_three max_four min_four   -- for this text's walks alone
set_option linter.unusedVariables false
set_option linter.unusedSimpArgs false
-- IMPORT .A2
-- IMPORT .GBf
theorem find_is (l : List En) (hl : okL l = true) (u : U) : ∃ r1 r2 r4, ents_Find.f l u.f0 u.f1 = some (r1, r2, stepF l u, r4, GT.atB l u.f0 u.f1) := by
  have h1 := okL_len hl
  have hat : ents_at.f l u.f0 u.f1 = some (((GT.atI l u.f0 u.f1 : Nat) : Int), GT.atB l u.f0 u.f1) := by unfold ents_at.f; rw [if_pos (by omega)]
  unfold ents_Find.f
  rw [hat, Option.bind_some]
  cases hb : GT.atB l u.f0 u.f1 with
  | false => exact ⟨_, _, _, by rw [if_neg (by simp)]; simp only [stepF, hb]; rfl⟩
  | true =>
    obtain ⟨e, he, rfl⟩ := atB_some hb
    have hlt : GT.atI l e.f0.f0 e.f0.f1 < l.length := GT.atB_lt hb
    have hrd : rd_T32 l ((GT.atI l e.f0.f0 e.f0.f1 : Nat) : Int) = e := by
      unfold rd_T32
      rw [Int.toNat_natCast, List.getD_eq_getElem?_getD, he]; rfl
    have hm : e ∈ l := List.mem_of_getElem? he
    rw [if_pos rfl, if_pos (by omega), if_pos (by omega), hrd]
    refine ⟨e.f0.f0, e.f0.f1, e.f2, ?_⟩
    unfold ents_twin.f
    rw [if_pos (okL_mem hl hm).2.2.1]
    simp only [stepF, hb, if_true, he]
    rfl
theorem find_calls (l : List En) (hl : okL l = true) (u : U) (A : Option Addr) (c : Nat) (w : World) (hc : l.length ≤ c) (hC : k32.C w A l.length l) :
    Calls Tryz.prog 67 #[.slice A l.length c, .agg #[.string u.f0, .string u.f1]] w fun e w' => ∃ (r1 r2 : ByteArray) (r4 : List S67) (v2 v3 : Value), e = .returned (.tuple #[.agg #[.string r1, .string r2, v2, v3], .bool (GT.atB l u.f0 u.f1)]) ∧ Kd.V k28 28 w' w.heap.size (fun q => w.heap.size ≤ q) v2 (stepF l u) ∧ Kd.V k67 67 w' w.heap.size (fun q => w.heap.size ≤ q) v3 r4 ∧ Below w.heap.size w w' := by
  obtain ⟨r1, r2, r4, h⟩ := find_is l hl u
  exact (ents_Find.calls A c l u.f0 u.f1 r1 r2 _ r4 _ w hC hc h).mono fun e w' ⟨v2, v3, he, h2, h3, hb⟩ => ⟨r1, r2, r4, v2, v3, he, h2, h3, hb⟩
/-- A row of uids of its own from its clone. -/
theorem clone_N {w w' : World} {okS : Nat → Prop} {xs : List U} {v : Value} (h : GT.CloneOk k28 28 w okS xs v w') : Kd.N k28 28 w' w.heap.size (fun q => w.heap.size ≤ q) v xs := by
  rcases h with ⟨rfl, hN⟩ | ⟨g, cap, rfl, hn, ht⟩
  · exact hN
  · have h1 := ht (fun _ => False)
    have hb := h1.block.1
    have h2 : GT.Tw k28 28 w' w.heap.size g xs.length cap xs xs.length (fun _ => False) (fun q => okS q ∧ q < w.heap.size) := by
      obtain ⟨hx, inner, ho, hf⟩ := h1
      refine ⟨hx, inner, ho, fun j x hj => ?_⟩
      have hF := Kd.FK_now (hf j x hj)
      rw [k28_open hF]
      exact k28_mkF w' _ x
    exact Kd.N_mono h2.to_N (fun q hq => by rcases hq with hq | hq; exact hq.elim; omega)
theorem ends (L : List U) : L = [] ∨ ∃ L0 u, L = L0 ++ [u] := by
  rcases List.eq_nil_or_concat L with h | ⟨L0, u, h⟩
  · exact .inl h
  · exact .inr ⟨L0, u, by rw [h]; simp⟩
/-- The last one of an own row. -/
theorem N_last {w : World} {base : Nat} {ok : Nat → Prop} {v : Value} {L0 : List U} {u : U} (h : Kd.N k28 28 w base ok v (L0 ++ [u])) : ∃ g cap, v = .slice (some ⟨g, 0, none⟩) (L0.length + 1) cap ∧ base ≤ g ∧ g < w.heap.size ∧ ok g ∧ L0.length + 1 ≤ cap ∧ w.cell? ⟨g, L0.length * 2, none⟩ = some (.string u.f0) ∧ w.cell? ⟨g, L0.length * 2 + 1, none⟩ = some (.string u.f1) ∧ Kd.N k28 28 w base ok (.slice (some ⟨g, 0, none⟩) L0.length cap) L0 := by
  have ho := own_uc h
  have hok := h.1
  have hl : (L0 ++ [u]).length = L0.length + 1 := by simp
  have hu : uc (L0 ++ [u]) = uc L0 ++ [.string u.f0, .string u.f1] := by rw [uc_append]; rfl
  rw [hl] at ho
  obtain ⟨hlen, ⟨_, h0⟩ | ⟨g, cap, cur, rfl, hb, hh, hnc, hcm, hcs, htk⟩⟩ := ho
  · omega
  have hget : ∀ i, i < (L0.length + 1) * 2 → cur.toList[i]? = (uc L0 ++ [.string u.f0, .string u.f1])[i]? := by
    intro i hi
    rw [← hu, ← htk, List.getElem?_take_of_lt hi]
  have hlu := uc_len L0
  refine ⟨g, cap, rfl, hb, GT.lt_of_heapT hh, hok g rfl, hnc, ?_, ?_, ?_⟩
  · refine GT.hcellT hh _ _ ?_
    have := hget (L0.length * 2) (by omega)
    rw [List.getElem?_append_right (by omega), hlu, Nat.sub_self] at this
    simpa using this
  · refine GT.hcellT hh _ _ ?_
    have := hget (L0.length * 2 + 1) (by omega)
    rw [List.getElem?_append_right (by omega), hlu, Nat.add_sub_cancel_left] at this
    simpa using this
  · refine N_of_own ⟨hlu, .inr ⟨g, cap, cur, rfl, hb, hh, by omega, hcm, hcs, ?_⟩⟩ hok
    have := congrArg (List.take (L0.length * 2)) htk
    rw [hu, List.take_take, Nat.min_eq_left (by omega)] at this
    rw [this]
    exact List.take_left' hlu
theorem climbR_met {step : U → List U} {n : Nat} {L0 M : List U} {u : U} (h : u ∈ M) : climbR step (n + 1) (L0 ++ [u]) M = climbR step n L0 M := by
  rw [climbR, List.getLast?_concat]
  dsimp only
  rw [if_pos h, List.dropLast_concat]
theorem climbR_new {step : U → List U} {n : Nat} {L0 M : List U} {u : U} (h : u ∉ M) : climbR step (n + 1) (L0 ++ [u]) M = climbR step n (L0 ++ step u) (u :: M) := by
  rw [climbR, List.getLast?_concat]
  dsimp only
  rw [if_neg h, List.dropLast_concat]
theorem climbR_end {step : U → List U} (n : Nat) {M : List U} : climbR step n [] M = M := by cases n <;> rfl
end Go.Proofs.YtelibndkkokadaaGreat.GA
namespace Go.Proofs.YtelibndkkokadaaGreat.GA
open Go.RowKit Go.Proofs.YtelibndkkokadaaGreatW.PrintWords Go.Proofs.YtelibndkkokadaaGreatW.PrintLast Go.Proofs.YtelibndkkokadaaGreat.HandV Go.Proofs.YtelibndkkokadaaGreatW.PrintMore
open Go.Proofs.YtelibndkkokadaaGreat.GB
attribute [local go_sem] max2_int min2_int max_two min_two max_three min_three max_four min_four   -- for this text's walks alone
set_option linter.unusedVariables false
set_option linter.unusedSimpArgs false
-- IMPORT .A3
-- IMPORT Derived.Deep.LoopGhost
theorem own_below {w w1 : World} {b n : Nat} {D : DataW Unit} (h : w.ownsMap Tryz.prog 28 (plainElem Tryz.prog 4) b n D) (hb : Below w.heap.size w w1) : w1.ownsMap Tryz.prog 28 (plainElem Tryz.prog 4) b n D :=
  h.kept (row := none) ⟨hb.os, hb.tape, hb.output, hb.size, fun i hi _ => hb.block i hi⟩ (by simp)
/-- What stands at the head of a round. -/
def Cl (l : List En) (R : List U) (N : Nat) (w wr : World) (v : Value) (g : Nat) : Prop :=
  ∃ L M, Kd.N k28 28 wr w.heap.size (fun q => w.heap.size + 1 ≤ q) v L ∧ wr.ownsMap Tryz.prog 28 (plainElem Tryz.prog 4) w.heap.size M.length (setD M) ∧ Below w.heap.size w wr ∧ w.heap.size < wr.heap.size ∧ L.length + wt (pairs l) M ≤ g ∧ M.length + g ≤ N ∧ climbR (stepF l) g L M = R ∧ (∀ x ∈ L, okU x = true) ∧ (∀ x ∈ M, okU x = true)
set_option maxRecDepth 100000 in
set_option maxHeartbeats 8000000 in
theorem climb_calls (l : List En) (hl : okL l = true) (fr : List U) (hf : ∀ x ∈ fr, okU x = true) (hfl : fr.length ≤ 1000) (A : Option Addr) (c : Nat) (A2 : Option Addr) (c2 : Nat) (w : World) (hc : l.length ≤ c) (hC : k32.C w A l.length l) (hc2 : fr.length ≤ c2) (hC2 : k28.C w A2 fr.length fr) :
    Calls Tryz.prog 58 #[.slice A l.length c, .slice A2 fr.length c2] w fun e w' => ∃ b n, e = .returned (.map (some b)) ∧ w.heap.size ≤ b ∧ n ≤ 1000000 ∧ w'.ownsMap Tryz.prog 28 (plainElem Tryz.prog 4) b n (setD (climbF l fr)) ∧ (∀ x ∈ climbF l fr, okU x = true) ∧ Below w.heap.size w w' := by
  have HL := Aside0.mk hl
  have HC := Aside0.mk hC
  have HC2 := Aside0.mk hC2
  have Hc := Aside0.mk hc
  have Hc2 := Aside0.mk hc2
  have HF := Aside0.mk hf
  have HFL := Aside0.mk hfl
  have HM := Aside0.mk (most_le hl hfl)
  obtain ⟨R, hR⟩ : ∃ R, climbF l fr = R := ⟨_, rfl⟩
  have HR : Aside0 (climbR (stepF l) (most l fr) fr [] = R) := ⟨hR⟩
  rw [hR]
  clear hR hl hC hC2 hc hc2 hf hfl
  have hmm := @run_makeMap Tryz.prog
  go_enter Tryz.func58, Tryz.ntmps58
  go_wp2_with (first | (go_at_call 79; refine (GT.cloneUid fr A2 c2 _ Hc2.out (by have := HFL.out; omega) _ (Kd.F_below (Kd.C_F k28_heap HC2.out) (by repeat (first | exact Below.refl _ _ | apply below_alloc)))).mono ?_; rintro e w1 ⟨v, rfl, hcl, hb⟩; have HN : Aside0 (Kd.N k28 28 w1 w.heap.size (fun q => w.heap.size + 1 ≤ q) v fr) := ⟨Kd.N_lower (by simpa using clone_N hcl) (by simp)⟩; have HO : Aside0 (w1.ownsMap Tryz.prog 28 (plainElem Tryz.prog 4) w.heap.size 0 (setD [])) := ⟨own_below (World.ownsMap_made w _ _ _) hb⟩; have HB : Aside0 (Below w.heap.size w w1) := ⟨below_step (by repeat (first | exact Below.refl _ _ | apply below_alloc)) hb⟩; have HS : Aside0 (w.heap.size < w1.heap.size) := ⟨by have := hb.size; simp at this; omega⟩; clear hcl hb))
  go_loopg [6] (most l fr) (fun g v wr => Cl l R (most l fr) w wr v g)
  case atStart => exact ⟨fr, [], HN.out, HO.out, HB.out, HS.out, Nat.le_refl _, by simp, HR.out, HF.out, by simp⟩
  case round =>
    obtain ⟨L, M, hN, hO, hB, hS, hw, hM, hr, hL, hMo⟩ := hrel
    clear HN HO HB HS HR hmm
    rcases ends L with rfl | ⟨L0, u, rfl⟩
    · obtain ⟨A6, c6, rfl⟩ := Kd.N_slice hN
      rw [climbR_end] at hr
      subst hr
      have HO := Aside0.mk hO
      have HB := Aside0.mk hB
      have HMo := Aside0.mk hMo
      have HMM : Aside0 (M.length ≤ 1000000) := ⟨by have := HM.out; omega⟩
      clear hN hO hB hS hw hM hL hMo
      go_wp2
      go_ret
      exact ⟨_, _, rfl, Nat.le_refl _, HMM.out, HO.out, HMo.out, HB.out⟩
    · obtain ⟨g0, cap, rfl, _, hgl, hgb, hcap, q0, q1, hN0⟩ := N_last hN
      have hlen : L0.length ≤ 1000000 := by have := HM.out; simp at hw; omega
      have p0 : (0 ≤ (L0.length : Int)) = True := eq_true (by omega)
      have p1 : ((L0.length : Int) < (L0.length : Int) + 1) = True := eq_true (by omega)
      have p2 : (0 < (L0.length : Int) + 1) = True := eq_true (by omega)
      have p3 : wrap64 ((L0.length : Int) + 1 - 1) = (L0.length : Int) := by unfold wrap64; omega
      have hu : okU u = true := hL u (by simp)
      have HO := Aside0.mk hO
      have HN0 := Aside0.mk hN0
      have HB := Aside0.mk hB
      have HS := Aside0.mk hS
      have HMo := Aside0.mk hMo
      have HLo : Aside0 (∀ x ∈ L0, okU x = true) := ⟨fun x hx => hL x (by simp [hx])⟩
      have Hu := Aside0.mk hu
      have Hw : Aside0 (L0.length + 1 + wt (pairs l) M ≤ gk) := ⟨by simpa using hw⟩
      have HMg := Aside0.mk hM
      have Hr := Aside0.mk hr
      have Hgb := Aside0.mk hgb
      clear hN hO hN0 hB hS hMo hL hu hw hM hr hgb
      obtain ⟨g1, rfl⟩ : ∃ g1, gk = g1 + 1 := ⟨gk - 1, by have := Hw.out; omega⟩
      by_cases hm : u ∈ M
      · have hdm : decide (u ∈ M) = true := decide_eq_true hm
        have Hm := Aside0.mk hm
        clear hm
        go_wp2_with (first | (at_lookup; refine look_set _ rfl _ _ rfl w.heap.size M.length M HMo.out rfl (HO.out.alloc _) u Hu.out rfl ?_; rw [hdm]))
        go_roundg g1
        case rel =>
          refine ⟨L0, M, Kd.N_alloc HN0.out _, HO.out.alloc _, below_alloc HB.out _, by have := HS.out; simp; omega, by have := Hw.out; omega, by have := HMg.out; omega, ?_, HLo.out, HMo.out⟩
          rw [← Hr.out, climbR_met Hm.out]
        case measure => omega
      · have hdm : decide (u ∈ M) = false := decide_eq_false hm
        have Hm := Aside0.mk hm
        clear hm
        have HFI := Aside0.mk (find_calls l HL.out u A c)
        cases hb0 : GT.atB l u.f0 u.f1 with
        | false =>
          rw [hb0] at HFI
          have Hst : Aside0 (stepF l u = []) := ⟨by unfold stepF; rw [hb0]; rfl⟩
          clear hb0
          go_wp2_with (first | (at_lookup; refine look_set _ rfl _ _ rfl w.heap.size M.length M HMo.out rfl (HO.out.alloc _) u Hu.out rfl ?_; rw [hdm]) | (at_mapUpdate; refine put_set _ rfl _ _ _ rfl w.heap.size M.length M rfl (HO.out.alloc _) (by have := HMg.out; have := HM.out; omega) u Hu.out rfl rfl ?_; intro w1 hO1 hg1; have HO1 := Aside0.mk hO1; have HB1 : Aside0 (Below w.heap.size w w1) := ⟨(below_alloc HB.out _).grown hg1 (by have := HS.out; simp; omega) (fun j hj => by cases hj; exact Nat.le_refl _)⟩; have HN1 : Aside0 (Kd.N k28 28 w1 w.heap.size (fun q => w.heap.size + 1 ≤ q) (.slice (some ⟨g0, 0, none⟩) L0.length cap) L0) := ⟨Kd.N_step (Kd.N_alloc HN0.out _) (fun q hq hlt => hg1.block q hlt (by simp; omega))⟩; have hX1 : w1.heap[wr.heap.size]? = some (.cells #[.string u.f0, .string u.f1] 28 (0, 0)) := (hg1.block _ (by simp) (by have := HS.out; simp; omega)).trans (blk_new _ _); have q7 : w1.cell? ⟨wr.heap.size, 0, none⟩ = some (.string u.f0) := GT.hcellT hX1 0 _ rfl; have q8 : w1.cell? ⟨wr.heap.size, 1, none⟩ = some (.string u.f1) := GT.hcellT hX1 1 _ rfl; have HS1 : Aside0 (w.heap.size < w1.heap.size) := ⟨by have := HS.out; have := hg1.size; simp at this; omega⟩; have hgl1 : g0 < w1.heap.size := (by have := hg1.size; simp at this; omega); clear hO1 hg1 hX1 HO HB HN0 HS q0 q1) | (go_at_call 67; refine (HFI.out _ Hc.out (Kd.C_below HC.out HB1.out)).mono ?_; rintro e w2 ⟨r1, r2, r4, v2, v3, rfl, hv2, hv3, hb⟩; obtain ⟨B2, d2, rfl⟩ := Kd.V_slice hv2; obtain ⟨B3, d3, rfl⟩ := Kd.V_slice hv3; have HV2 := Aside0.mk hv2; have HO2 := Aside0.mk (own_below HO1.out hb); have HN2 := Aside0.mk (Kd.N_below HN1.out hb); have HB2 : Aside0 (Below w.heap.size w w2) := ⟨below_step HB1.out hb⟩; have HS2 : Aside0 (w.heap.size < w2.heap.size) := ⟨Nat.lt_of_lt_of_le HS1.out hb.size⟩; have HSS : Aside0 (w.heap.size < w1.heap.size) := ⟨HS1.out⟩; clear hv2 hv3 hb HO1 HN1 HB1 HS1 q7 q8))
          go_roundg g1
          case rel =>
            refine ⟨L0, u :: M, Kd.N_alloc HN2.out _, HO2.out.alloc _, below_alloc HB2.out _, by have := HS2.out; simp; omega, ?_, by have := HMg.out; simp; omega, ?_, HLo.out, ?_⟩
            · have h1 := wt_step (stepF_in l) M u Hm.out
              have := Hw.out
              omega
            · rw [← Hr.out, climbR_new Hm.out, Hst.out, List.append_nil]
            · intro x hx
              rcases List.mem_cons.1 hx with rfl | hx
              · exact Hu.out
              · exact HMo.out x hx
          case measure => omega
        | true =>
          rw [hb0] at HFI
          clear hb0
          have Hsl : Aside0 ((L0.length + (stepF l u).length) * 32 ≤ 140737488355328) := ⟨by have h1 := wt_step (stepF_in l) M u Hm.out; have := Hw.out; have := HMg.out; have := HM.out; omega⟩
          go_wp2_with (first | (at_lookup; refine look_set _ rfl _ _ rfl w.heap.size M.length M HMo.out rfl (HO.out.alloc _) u Hu.out rfl ?_; rw [hdm]) | (at_mapUpdate; refine put_set _ rfl _ _ _ rfl w.heap.size M.length M rfl (HO.out.alloc _) (by have := HMg.out; have := HM.out; omega) u Hu.out rfl rfl ?_; intro w1 hO1 hg1; have HO1 := Aside0.mk hO1; have HB1 : Aside0 (Below w.heap.size w w1) := ⟨(below_alloc HB.out _).grown hg1 (by have := HS.out; simp; omega) (fun j hj => by cases hj; exact Nat.le_refl _)⟩; have HN1 : Aside0 (Kd.N k28 28 w1 w.heap.size (fun q => w.heap.size + 1 ≤ q) (.slice (some ⟨g0, 0, none⟩) L0.length cap) L0) := ⟨Kd.N_step (Kd.N_alloc HN0.out _) (fun q hq hlt => hg1.block q hlt (by simp; omega))⟩; have hX1 : w1.heap[wr.heap.size]? = some (.cells #[.string u.f0, .string u.f1] 28 (0, 0)) := (hg1.block _ (by simp) (by have := HS.out; simp; omega)).trans (blk_new _ _); have q7 : w1.cell? ⟨wr.heap.size, 0, none⟩ = some (.string u.f0) := GT.hcellT hX1 0 _ rfl; have q8 : w1.cell? ⟨wr.heap.size, 1, none⟩ = some (.string u.f1) := GT.hcellT hX1 1 _ rfl; have HS1 : Aside0 (w.heap.size < w1.heap.size) := ⟨by have := HS.out; have := hg1.size; simp at this; omega⟩; have hgl1 : g0 < w1.heap.size := (by have := hg1.size; simp at this; omega); clear hO1 hg1 hX1 HO HB HN0 HS q0 q1) | (go_at_call 67; refine (HFI.out _ Hc.out (Kd.C_below HC.out HB1.out)).mono ?_; rintro e w2 ⟨r1, r2, r4, v2, v3, rfl, hv2, hv3, hb⟩; obtain ⟨B2, d2, rfl⟩ := Kd.V_slice hv2; obtain ⟨B3, d3, rfl⟩ := Kd.V_slice hv3; have HV2 := Aside0.mk hv2; have HO2 := Aside0.mk (own_below HO1.out hb); have HN2 := Aside0.mk (Kd.N_below HN1.out hb); have HB2 : Aside0 (Below w.heap.size w w2) := ⟨below_step HB1.out hb⟩; have HS2 : Aside0 (w.heap.size < w2.heap.size) := ⟨Nat.lt_of_lt_of_le HS1.out hb.size⟩; have HSS : Aside0 (w.heap.size < w1.heap.size) := ⟨HS1.out⟩; clear hv2 hv3 hb HO1 HN1 HB1 HS1 q7 q8) | (at_builtin; refine Kd.N_append_rows k28 (w0 := w) w.heap.size rfl (.tmp 39) (.tmp 41) 29 28 (.agg #[(.string ⟨#[]⟩), (.string ⟨#[]⟩)]) 32 rfl Tryz.underlying29 info28 rfl (by decide) (by omega) (.slice (some ⟨g0, 0, none⟩) L0.length cap) L0 (stepF l u) B2 (stepF l u).length d2 (fun q => w.heap.size + 1 ≤ q) (fun q => w1.heap.size ≤ q) rfl rfl ?aO ?aR ?aP ?aF ?aB ?aS ?aL ?_; (case aO => exact Kd.N_alloc HN2.out _); (case aR => exact Kd.V_F (Kd.V_alloc HV2.out _)); (case aP => intro q hq; have := HSS.out; have := hgl1; refine ⟨by omega, ?_⟩; simp [Value.ownBlock]; omega); (case aF => intro q hq; have := HS2.out; simp at hq; omega); (case aB => exact below_alloc HB2.out _); (case aS => have := HS2.out; simp; omega); (case aL => exact Hsl.out); intro v1 w3 hN3 hB3 hg3 hat3; have HN3 := Aside0.mk hN3; have HB3 := Aside0.mk hB3; have HO3 := Aside0.mk ((HO2.out.alloc _).kept hg3 (by simp [Value.ownBlock]; have := Hgb.out; omega)); have HS3 : Aside0 (w.heap.size < w3.heap.size) := ⟨by have := hg3.size; have := HS2.out; simp at *; omega⟩; clear hN3 hB3 hg3 hat3))
          go_roundg g1
          case rel =>
            refine ⟨L0 ++ stepF l u, u :: M, HN3.out, HO3.out, HB3.out, HS3.out, ?_, by have := HMg.out; simp; omega, ?_, ?_, ?_⟩
            · have h1 := wt_step (stepF_in l) M u Hm.out
              have := Hw.out
              rw [List.length_append]
              omega
            · rw [← Hr.out, climbR_new Hm.out]
            · intro x hx
              rcases List.mem_append.1 hx with hx | hx
              · exact HLo.out x hx
              · exact stepF_ok HL.out u x hx
            · intro x hx
              rcases List.mem_cons.1 hx with rfl | hx
              · exact Hu.out
              · exact HMo.out x hx
          case measure => omega
end Go.Proofs.YtelibndkkokadaaGreat.GA
namespace Go.Proofs.YtelibndkkokadaaGreat.GA
open Go.RowKit Go.Proofs.YtelibndkkokadaaGreatW.PrintWords Go.Proofs.YtelibndkkokadaaGreatW.PrintLast Go.Proofs.YtelibndkkokadaaGreat.HandV Go.Proofs.YtelibndkkokadaaGreatW.PrintMore
open Go.Proofs.YtelibndkkokadaaGreat.GB
attribute [local go_sem] max2_int min2_int max_two min_two max_three min_three max_four min_four   -- for this text's walks alone
set_option linter.unusedVariables false
set_option linter.unusedSimpArgs false
-- IMPORT .A4
-- IMPORT Derived.Deep.RegionWith
theorem one_C {W : World} {g : Nat} {u : U} {e : Nat} (h : W.heap[g]? = some (.cells #[.string u.f0, .string u.f1] e (0, 0))) : k28.C W (some ⟨g, 0, none⟩) [u].length [u] := by
  refine ⟨rfl, by simp, fun _ => ⟨⟨g, 0, none⟩, rfl, fun j x hj => ?_⟩⟩
  cases j with
  | zero =>
    obtain rfl : u = x := by simpa using hj
    refine ⟨[.string u.f0, .string u.f1], rfl, k28_mk W u, fun i v hv => ?_⟩
    rw [show (0 * k28.sz + i) = i by omega, add_plain]
    exact GT.hcellT h i v (by simpa using hv)
  | succ j => simp at hj
def inF (l : List En) (u a : U) : Bool := decide (a ∈ climbF l [u])
set_option maxRecDepth 100000 in
set_option maxHeartbeats 8000000 in
theorem in_calls0 (l : List En) (hl : okL l = true) (u a : U) (hu : okU u = true) (ha : okU a = true) (A : Option Addr) (c : Nat) (w : World) (hc : l.length ≤ c) (hC : k32.C w A l.length l) :
    Calls Tryz.prog 39 #[.slice A l.length c, .agg #[.string u.f0, .string u.f1], .agg #[.string a.f0, .string a.f1]] w fun e w' => e = .returned (.bool (inF l u a)) ∧ Below w.heap.size w w' := by
  have HC := Aside0.mk hC
  have Hc := Aside0.mk hc
  have HK := Aside0.mk (climb_calls l hl [u] (by simpa using hu) (by simp) A c)
  unfold inF
  have hone : [u].length = 1 := rfl
  have Ha := Aside0.mk ha
  generalize climbF l [u] = R at HK ⊢
  clear hC hc hu ha hl
  go_enter Tryz.func39, Tryz.ntmps39
  go_wp2
  have x0 : ((w.alloc (Obj.cells #[Value.string u.f0, Value.string u.f1] 28)).alloc (Obj.cells #[Value.string a.f0, Value.string a.f1] 28)).cell? ⟨w.heap.size, 0, none⟩ = some (.string u.f0) := by go_simp
  have x1 : ((w.alloc (Obj.cells #[Value.string u.f0, Value.string u.f1] 28)).alloc (Obj.cells #[Value.string a.f0, Value.string a.f1] 28)).cell? ⟨w.heap.size, 1, none⟩ = some (.string u.f1) := by go_simp
  have x2 : ((w.alloc (Obj.cells #[Value.string u.f0, Value.string u.f1] 28)).alloc (Obj.cells #[Value.string a.f0, Value.string a.f1] 28)).cell? ⟨w.heap.size + 1, 0, none⟩ = some (.string a.f0) := by go_simp
  have x3 : ((w.alloc (Obj.cells #[Value.string u.f0, Value.string u.f1] 28)).alloc (Obj.cells #[Value.string a.f0, Value.string a.f1] 28)).cell? ⟨w.heap.size + 1, 1, none⟩ = some (.string a.f1) := by go_simp
  have xb : Below w.heap.size w ((w.alloc (Obj.cells #[Value.string u.f0, Value.string u.f1] 28)).alloc (Obj.cells #[Value.string a.f0, Value.string a.f1] 28)) := by repeat (first | exact Below.refl _ _ | apply below_alloc)
  have HB := Aside0.mk xb
  clear xb
  have xs : w.heap.size + 2 = ((w.alloc (Obj.cells #[Value.string u.f0, Value.string u.f1] 28)).alloc (Obj.cells #[Value.string a.f0, Value.string a.f1] 28)).heap.size := by simp
  generalize (w.alloc (Obj.cells #[Value.string u.f0, Value.string u.f1] 28)).alloc (Obj.cells #[Value.string a.f0, Value.string a.f1] 28) = V at x0 x1 x2 x3 xs HB ⊢
  have HY2 : Aside0 (∀ W, Below V.heap.size V W → W.cell? ⟨w.heap.size + 1, 0, none⟩ = some (.string a.f0)) := ⟨fun W hW => (hW.cell (by simp; omega)).trans x2⟩
  have HY3 : Aside0 (∀ W, Below V.heap.size V W → W.cell? ⟨w.heap.size + 1, 1, none⟩ = some (.string a.f1)) := ⟨fun W hW => (hW.cell (by simp; omega)).trans x3⟩
  have HK1 : Aside0 (∀ W, Below V.heap.size V W → W.heap[V.heap.size]? = some (.cells #[.string u.f0, .string u.f1] 28 (0, 0)) → Calls Tryz.prog 58 #[.slice A l.length c, .slice (some ⟨V.heap.size, 0, none⟩) 1 1] W fun e w' => ∃ b n, e = .returned (.map (some b)) ∧ w'.ownsMap Tryz.prog 28 (plainElem Tryz.prog 4) b n (setD R) ∧ (∀ x ∈ R, okU x = true) ∧ Below V.heap.size V w') := ⟨fun W hW hX => (HK.out (some ⟨V.heap.size, 0, none⟩) 1 W Hc.out (Kd.C_below HC.out (below_step HB.out hW)) (by simp) (one_C hX)).mono fun e w' ⟨b, n, he, _, _, hO, hok, hb⟩ => ⟨b, n, he, hO, hok, below_step hW hb⟩⟩
  have HBB : Aside0 (∀ W, Below V.heap.size V W → Below w.heap.size w W) := ⟨fun W hW => below_step HB.out hW⟩
  have z2 : ∀ o, (V.alloc o).cell? ⟨w.heap.size + 1, 0, none⟩ = some (.string a.f0) := fun o => HY2.out _ (below_alloc (Below.refl _ _) o)
  have z3 : ∀ o, (V.alloc o).cell? ⟨w.heap.size + 1, 1, none⟩ = some (.string a.f1) := fun o => HY3.out _ (below_alloc (Below.refl _ _) o)
  clear HB HC Hc HK
  go_region_with (first | (go_at_call 58; refine (HK1.out _ ?hA ?hX).mono ?_; (case hA => repeat (first | exact Below.refl _ _ | apply below_alloc | apply below_drew1)); (case hX => first | exact blk_new _ _ | (show (World.drew _).heap[_]? = _; exact blk_new _ _)); rintro e w1 ⟨b, n, rfl, hO, hok, hB⟩; have HB1 := Aside0.mk (HBB.out w1 hB); have y2 := HY2.out w1 hB; have y3 := HY3.out w1 hB; have y4 := look_run hO hok a Ha.out; clear hO hok hB))
  all_goals (go_wp2; go_ret; exact ⟨rfl, HB1.out⟩)
end Go.Proofs.YtelibndkkokadaaGreat.GA
