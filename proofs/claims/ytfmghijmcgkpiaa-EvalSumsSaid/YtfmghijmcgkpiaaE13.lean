import Derived.Test.YtfmghijmcgkpiaaGS0
import Derived.Test.YtfmghijmcgkpiaaE12
import Derived.Test.YtfmghijmcgkpiaaE10
import Derived.Test.YtfmghijmcgkpiaaGS3
namespace Go.Proofs.Ytfmghijmcgkpiaa.GE
open Go.RowKit Go.Proofs.YtfmghijmcgkpiaaW.PrintWords Go.Proofs.YtfmghijmcgkpiaaW.PrintLast Go.Proofs.Ytfmghijmcgkpiaa.HandV Go.Proofs.YtfmghijmcgkpiaaW.PrintMore
open Go.Proofs.Ytfmghijmcgkpiaa.GS
attribute [local go_sem] max2_int min2_int max_two min_two max_three min_three max_four min_four   -- for this text's walks alone
set_option linter.unusedVariables false
set_option linter.unusedSimpArgs false
-- IMPORT .E12
-- IMPORT .E10
-- FN eval_world_leaf
/-- The values of trees, in order, up to the first that errs. -/
def listE (ev : S67 → Option (S31 × Int)) : List S67 → Option (List S31 × Int)
  | [] => some ([], 0)
  | x :: xs => match ev x with
    | none => none
    | some (v, e) => if e = 0 then (match listE ev xs with | none => none | some (vs, e2) => some (v :: vs, e2)) else some ([], e)
theorem listE_spec (ev : S67 → Option (S31 × Int)) : ∀ (ks : List S67) (vs : List S31) (e : Int), listE ev ks = some (vs, e) → vs.length ≤ ks.length ∧ (∀ (i : Nat) (x : S67) (v : S31), ks[i]? = some x → vs[i]? = some v → ev x = some (v, 0)) ∧ (e = 0 → vs.length = ks.length) ∧ (e ≠ 0 → vs.length < ks.length) ∧ (∀ x : S67, ks[vs.length]? = some x → e ≠ 0 ∧ ∃ r, ev x = some (r, e)) := by
  intro ks
  induction ks with
  | nil =>
    intro vs e h
    simp only [listE, Option.some.injEq, Prod.mk.injEq] at h
    obtain ⟨rfl, rfl⟩ := h
    exact ⟨Nat.le_refl _, fun i x v h1 => absurd h1 (by simp), fun _ => rfl, fun h => absurd rfl h, fun x h1 => absurd h1 (by simp)⟩
  | cons k ks ih =>
    intro vs e h
    simp only [listE] at h
    cases hk : ev k with
    | none => rw [hk] at h; exact absurd h (by simp)
    | some ve =>
      obtain ⟨v, ee⟩ := ve
      rw [hk] at h
      dsimp only at h
      by_cases he : ee = 0
      · rw [if_pos he] at h
        subst he
        cases hr : listE ev ks with
        | none => rw [hr] at h; exact absurd h (by simp)
        | some p =>
          obtain ⟨us, e2⟩ := p
          rw [hr] at h
          simp only [Option.some.injEq, Prod.mk.injEq] at h
          obtain ⟨rfl, rfl⟩ := h
          obtain ⟨h1, h2, h3, h4, h5⟩ := ih us e2 hr
          refine ⟨by simp; omega, ?_, fun h => by simp [h3 h], fun h => by have := h4 h; simp; omega, fun x hx => h5 x (by simpa using hx)⟩
          intro i x u hx hu
          cases i with
          | zero => simp at hx hu; subst hx; subst hu; exact hk
          | succ i => exact h2 i x u (by simpa using hx) (by simpa using hu)
      · rw [if_neg he] at h
        simp only [Option.some.injEq, Prod.mk.injEq] at h
        obtain ⟨rfl, rfl⟩ := h
        refine ⟨Nat.zero_le _, fun i x u _ hu => absurd hu (by simp), fun h => absurd h he, fun _ => by simp, fun x hx => ?_⟩
        simp at hx
        subst hx
        exact ⟨he, v, hk⟩
def setE (ev : S67 → Option (S31 × Int)) (ks : List S67) : Option (S31 × Int) :=
  if ks.length ≤ 1000 then (match listE ev ks with
    | none => none
    | some (vs, e) => if e = 0 then (match value_Set.f vs with | none => none | some (r0, r1, r2, r3, r4, r5, r6, rc) => some (⟨r0, r1, r2, r3, ⟨r4, r5⟩, r6⟩, rc)) else some (zV, e)) else none
def firstE (K : Nat) (ev : S67 → Option (S31 × Int)) (op : Int) (k0 : S67) (ks : List S67) : Option (S31 × Int) :=
  match ev k0 with
  | none => none
  | some (r0, e0) => if e0 = 0 then (match ks with
    | [] => singleF op r0
    | k1 :: _ => match ev k1 with
      | none => none
      | some (r1, e1) => if e1 = 0 then doubleF K op r0 r1 else some (zV, e1)) else some (zV, e0)
def secondE (ev : S67 → Option (S31 × Int)) (k1 : S67) : Option (S31 × Int) :=
  match ev k1 with
  | none => none
  | some (r1, e1) => if (askedF r1 e1).2 = 0 then some (trV (askedF r1 e1).1, 0) else some (zV, (askedF r1 e1).2)
def chE (ev : S67 → Option (S31 × Int)) (op : Int) (k0 : S67) : List S67 → Option (S31 × Int)
  | [] => some (zV, 16)
  | k1 :: ks2 => if op = 25 then (match ks2 with
      | [] => some (zV, 16)
      | k2 :: _ => match ev k0 with
        | none => none
        | some (r0, e0) => if (askedF r0 e0).2 = 0 then (if (askedF r0 e0).1 = true then ev k1 else ev k2) else some (zV, (askedF r0 e0).2))
    else match ev k0 with
      | none => none
      | some (r0, e0) => if (askedF r0 e0).2 = 0 then (if op = 24 then (if (askedF r0 e0).1 = true then some (trV true, 0) else secondE ev k1) else (if (askedF r0 e0).1 = true then secondE ev k1 else some (trV false, 0))) else some (zV, (askedF r0 e0).2)
def leafE (p0 p1 p2 p3 p4 p5 : ByteArray) (x : S67) : Option (S31 × Int) :=
  match eval_world_leaf.f [] p0 p1 p2 p3 p4 p5 x.f0 x.f1 x.f2 x.f3 x.f4.f0 x.f4.f1 x.f5 with
  | none => none
  | some (r0, r1, r2, r3, r4, r5, r6) => some (⟨r0, r1, r2, r3, ⟨r4, r5⟩, r6⟩, 0)
def stepE (K : Nat) (p0 p1 p2 p3 p4 p5 : ByteArray) (ev : S67 → Option (S31 × Int)) (x : S67) : Option (S31 × Int) :=
  if x.f0 < 6 then leafE p0 p1 p2 p3 p4 p5 x else if x.f0 = 6 then setE ev x.f5
  else match x.f5 with
    | [] => some (zV, 16)
    | k0 :: ks => if x.f0 < 23 then firstE K ev x.f0 k0 ks else chE ev x.f0 k0 ks
/-- A tree's value, by at most so many steps down. -/
def evE (K : Nat) (p0 p1 p2 p3 p4 p5 : ByteArray) : Nat → S67 → Option (S31 × Int)
  | 0, _ => none
  | k + 1, x => stepE K p0 p1 p2 p3 p4 p5 (evE K p0 p1 p2 p3 p4 p5 k) x
theorem set_ok (p0 p1 p2 p3 p4 p5 : ByteArray) (ev : S67 → Option (S31 × Int)) (hev : ∀ x r er, ev x = some (r, er) → ExprOk p0 p1 p2 p3 p4 p5 x r er) (ks : List S67) (r : S31) (er : Int) (h : setE ev ks = some (r, er)) (A : Option Addr) (c : Nat) (B : Option Addr) (kc : Nat) (w : World) (hl : ks.length ≤ kc) (hC : k67.C w B ks.length ks) :
    Calls Try.prog 136 #[.agg #[.slice A 0 c, .string p0, .string p1, .string p2, .string p3, .string p4, .string p5], .slice B ks.length kc] w (Gives w r er) := by
  simp only [setE] at h
  by_cases h1 : ks.length ≤ 1000
  · rw [if_pos h1] at h
    cases hs : listE ev ks with
    | none => rw [hs] at h; exact absurd h (by simp)
    | some p =>
      obtain ⟨vs, e⟩ := p
      rw [hs] at h
      dsimp only at h
      obtain ⟨s1, s2, s3, s4, s5⟩ := listE_spec ev ks vs e hs
      have hbad : ∀ x, ks[vs.length]? = some x → e ≠ 0 ∧ ∃ r, ExprOk p0 p1 p2 p3 p4 p5 x r e := fun x hx => ⟨(s5 x hx).1, by obtain ⟨q, hq⟩ := (s5 x hx).2; exact ⟨q, hev x q e hq⟩⟩
      by_cases he : e = 0
      · rw [if_pos he] at h
        cases hv : value_Set.f vs with
        | none => rw [hv] at h; exact absurd h (by simp)
        | some q =>
          obtain ⟨r0, r1, r2, r3, r4, r5, r6, rc⟩ := q
          rw [hv] at h
          simp only [Option.some.injEq, Prod.mk.injEq] at h
          obtain ⟨rfl, rfl⟩ := h
          exact set_walk_ p0 p1 p2 p3 p4 p5 ks vs vs.length s1 rfl h1 (fun i x v hx hv => hev x v 0 (s2 i x v hx hv)) e hbad _ _ (fun _ => hv) (fun hlt => absurd (s3 he) (by omega)) A c B kc w hl hC
      · rw [if_neg he] at h
        simp only [Option.some.injEq, Prod.mk.injEq] at h
        obtain ⟨rfl, rfl⟩ := h
        exact set_walk_ p0 p1 p2 p3 p4 p5 ks vs vs.length s1 rfl h1 (fun i x v hx hv => hev x v 0 (s2 i x v hx hv)) e hbad _ _ (fun heq => absurd (s4 he) (by omega)) (fun _ => ⟨rfl, rfl⟩) A c B kc w hl hC
  · rw [if_neg h1] at h
    exact absurd h (by simp)
theorem first_ok (K : Nat) (p0 p1 p2 p3 p4 p5 : ByteArray) (ev : S67 → Option (S31 × Int)) (hev : ∀ x r er, ev x = some (r, er) → ExprOk p0 p1 p2 p3 p4 p5 x r er) (x k0 : S67) (ks : List S67) (h6 : 6 < x.f0) (h23 : x.f0 < 23) (hx : x.f5 = k0 :: ks) (r : S31) (er : Int) (h : firstE K ev x.f0 k0 ks = some (r, er)) : ExprOk p0 p1 p2 p3 p4 p5 x r er := by
  intro A c B kc w hl hC
  have hk0 : x.f5[0]? = some k0 := by rw [hx]; rfl
  have hn1 : 1 ≤ x.f5.length := by rw [hx]; simp
  simp only [firstE] at h
  cases h0 : ev k0 with
  | none => rw [h0] at h; exact absurd h (by simp)
  | some p =>
    obtain ⟨r0, e0⟩ := p
    rw [h0] at h
    dsimp only at h
    have H0 := hev k0 r0 e0 h0
    by_cases he0 : e0 = 0
    · rw [if_pos he0] at h
      subst he0
      cases ks with
      | nil =>
        dsimp only at h
        exact expr_one p0 p1 p2 p3 p4 p5 x k0 h6 h23 (by rw [hx]; rfl) hk0 r0 H0 A c B kc w hl hC r er (fun A6 c6 W _ => single_ok p0 p1 p2 p3 p4 p5 x r0 r er h A c B kc A6 c6 W)
      | cons k1 ks2 =>
        have hk1 : x.f5[1]? = some k1 := by rw [hx]; rfl
        have hn2 : 2 ≤ x.f5.length := by rw [hx]; simp
        dsimp only at h
        cases h1 : ev k1 with
        | none => rw [h1] at h; exact absurd h (by simp)
        | some q =>
          obtain ⟨r1, e1⟩ := q
          rw [h1] at h
          dsimp only at h
          have H1 := hev k1 r1 e1 h1
          by_cases he1 : e1 = 0
          · rw [if_pos he1] at h
            subst he1
            exact expr_two p0 p1 p2 p3 p4 p5 x k0 k1 h6 h23 hn2 hk0 hk1 r0 r1 H0 H1 A c B kc w hl hC r er (fun A6 A8 c6 c8 W _ a1 a2 a3 a4 => double_ok K p0 p1 p2 p3 p4 p5 x.f0 r0 r1 r er h A c A6 A8 c6 c8 W a1 a2 a3 a4)
          · rw [if_neg he1] at h
            simp only [Option.some.injEq, Prod.mk.injEq] at h
            obtain ⟨rfl, rfl⟩ := h
            exact expr_second_err p0 p1 p2 p3 p4 p5 x k0 k1 h6 h23 hn2 hk0 hk1 r0 r1 H0 _ he1 H1 A c B kc w hl hC
    · rw [if_neg he0] at h
      simp only [Option.some.injEq, Prod.mk.injEq] at h
      obtain ⟨rfl, rfl⟩ := h
      exact expr_first_err p0 p1 p2 p3 p4 p5 x k0 h6 h23 hn1 hk0 r0 _ he0 H0 A c B kc w hl hC
theorem ch_ok (p0 p1 p2 p3 p4 p5 : ByteArray) (ev : S67 → Option (S31 × Int)) (hev : ∀ x r er, ev x = some (r, er) → ExprOk p0 p1 p2 p3 p4 p5 x r er) (x k0 : S67) (ks : List S67) (h23 : 23 ≤ x.f0) (hx : x.f5 = k0 :: ks) (r : S31) (er : Int) (h : chE ev x.f0 k0 ks = some (r, er)) : ExprOk p0 p1 p2 p3 p4 p5 x r er := by
  intro A c B kc w hl hC
  have hk0 : x.f5[0]? = some k0 := by rw [hx]; rfl
  cases ks with
  | nil =>
    simp only [chE, Option.some.injEq, Prod.mk.injEq] at h
    obtain ⟨rfl, rfl⟩ := h
    exact expr_few_one p0 p1 p2 p3 p4 p5 x h23 (by rw [hx]; rfl) A c B kc w hl hC
  | cons k1 ks2 =>
    have hk1 : x.f5[1]? = some k1 := by rw [hx]; rfl
    simp only [chE] at h
    by_cases h25 : x.f0 = 25
    · rw [if_pos h25] at h
      cases ks2 with
      | nil =>
        simp only [Option.some.injEq, Prod.mk.injEq] at h
        obtain ⟨rfl, rfl⟩ := h
        exact expr_few_two p0 p1 p2 p3 p4 p5 x h25 (by rw [hx]; rfl) A c B kc w hl hC
      | cons k2 ks3 =>
        have hk2 : x.f5[2]? = some k2 := by rw [hx]; rfl
        have hn3 : 3 ≤ x.f5.length := by rw [hx]; simp
        dsimp only at h
        cases h0 : ev k0 with
        | none => rw [h0] at h; exact absurd h (by simp)
        | some p =>
          obtain ⟨r0, e0⟩ := p
          rw [h0] at h
          dsimp only at h
          have H0 := ask_ok (hev k0 r0 e0 h0)
          refine expr_if p0 p1 p2 p3 p4 p5 x h25 hn3 r er A c B kc w (fun W hW => ?_)
          by_cases he : (askedF r0 e0).2 = 0
          · rw [if_pos he] at h
            rw [he] at H0
            by_cases ht : (askedF r0 e0).1 = true
            · rw [if_pos ht] at h
              rw [ht] at H0
              exact choice_if_true p0 p1 p2 p3 p4 p5 x k0 k1 hk0 hk1 h25 H0 r er (hev k1 r er h) A c B kc W hl (Kd.C_below hC hW)
            · rw [if_neg ht] at h
              rw [Bool.eq_false_iff.mpr ht] at H0
              exact choice_if_false p0 p1 p2 p3 p4 p5 x k0 k2 hk0 hk2 h25 H0 r er (hev k2 r er h) A c B kc W hl (Kd.C_below hC hW)
          · rw [if_neg he] at h
            simp only [Option.some.injEq, Prod.mk.injEq] at h
            obtain ⟨rfl, rfl⟩ := h
            exact choice_err p0 p1 p2 p3 p4 p5 x k0 hk0 _ _ he H0 A c B kc W hl (Kd.C_below hC hW)
    · rw [if_neg h25] at h
      have hn2 : 2 ≤ x.f5.length := by rw [hx]; simp
      cases h0 : ev k0 with
      | none => rw [h0] at h; exact absurd h (by simp)
      | some p =>
        obtain ⟨r0, e0⟩ := p
        rw [h0] at h
        dsimp only at h
        have H0 := ask_ok (hev k0 r0 e0 h0)
        refine expr_choice p0 p1 p2 p3 p4 p5 x h23 h25 hn2 r er A c B kc w (fun W hW => ?_)
        by_cases he : (askedF r0 e0).2 = 0
        · rw [if_pos he] at h
          rw [he] at H0
          have second : secondE ev k1 = some (r, er) → ((x.f0 = 24 ∧ (askedF r0 e0).1 = false) ∨ (x.f0 ≠ 24 ∧ (askedF r0 e0).1 = true)) → Calls Try.prog 137 #[.agg #[.slice A 0 c, .string p0, .string p1, .string p2, .string p3, .string p4, .string p5], .agg #[.int .i64 x.f0, .bool x.f1, .int .i64 x.f2, .string x.f3, .string x.f4.f0, .string x.f4.f1, .slice B x.f5.length kc]] W (Gives W r er) := by
            intro hs hd
            simp only [secondE] at hs
            cases h1 : ev k1 with
            | none => rw [h1] at hs; exact absurd hs (by simp)
            | some q =>
              obtain ⟨r1, e1⟩ := q
              rw [h1] at hs
              dsimp only at hs
              have H1 := ask_ok (hev k1 r1 e1 h1)
              by_cases he1 : (askedF r1 e1).2 = 0
              · rw [if_pos he1] at hs
                simp only [Option.some.injEq, Prod.mk.injEq] at hs
                obtain ⟨rfl, rfl⟩ := hs
                rw [he1] at H1
                rcases hd with ⟨ho, ht⟩ | ⟨ho, ht⟩
                · rw [ht] at H0
                  exact choice_both_or p0 p1 p2 p3 p4 p5 x k0 k1 hk0 hk1 ho H0 _ H1 A c B kc W hl (Kd.C_below hC hW)
                · rw [ht] at H0
                  exact choice_both_and p0 p1 p2 p3 p4 p5 x k0 k1 hk0 hk1 ho h25 H0 _ H1 A c B kc W hl (Kd.C_below hC hW)
              · rw [if_neg he1] at hs
                simp only [Option.some.injEq, Prod.mk.injEq] at hs
                obtain ⟨rfl, rfl⟩ := hs
                rcases hd with ⟨ho, ht⟩ | ⟨ho, ht⟩
                · rw [ht] at H0
                  exact choice_second_or p0 p1 p2 p3 p4 p5 x k0 k1 hk0 hk1 ho H0 _ _ he1 H1 A c B kc W hl (Kd.C_below hC hW)
                · rw [ht] at H0
                  exact choice_second_and p0 p1 p2 p3 p4 p5 x k0 k1 hk0 hk1 ho h25 H0 _ _ he1 H1 A c B kc W hl (Kd.C_below hC hW)
          by_cases ho : x.f0 = 24
          · rw [if_pos ho] at h
            by_cases ht : (askedF r0 e0).1 = true
            · rw [if_pos ht] at h
              simp only [Option.some.injEq, Prod.mk.injEq] at h
              obtain ⟨rfl, rfl⟩ := h
              rw [ht] at H0
              exact choice_or p0 p1 p2 p3 p4 p5 x k0 hk0 ho H0 A c B kc W hl (Kd.C_below hC hW)
            · rw [if_neg ht] at h
              exact second h (Or.inl ⟨ho, Bool.eq_false_iff.mpr ht⟩)
          · rw [if_neg ho] at h
            by_cases ht : (askedF r0 e0).1 = true
            · rw [if_pos ht] at h
              exact second h (Or.inr ⟨ho, ht⟩)
            · rw [if_neg ht] at h
              simp only [Option.some.injEq, Prod.mk.injEq] at h
              obtain ⟨rfl, rfl⟩ := h
              rw [Bool.eq_false_iff.mpr ht] at H0
              exact choice_and p0 p1 p2 p3 p4 p5 x k0 hk0 ho h25 H0 A c B kc W hl (Kd.C_below hC hW)
        · rw [if_neg he] at h
          simp only [Option.some.injEq, Prod.mk.injEq] at h
          obtain ⟨rfl, rfl⟩ := h
          exact choice_err p0 p1 p2 p3 p4 p5 x k0 hk0 _ _ he H0 A c B kc W hl (Kd.C_below hC hW)
theorem step_ok (K : Nat) (p0 p1 p2 p3 p4 p5 : ByteArray) (ev : S67 → Option (S31 × Int)) (hev : ∀ x r er, ev x = some (r, er) → ExprOk p0 p1 p2 p3 p4 p5 x r er) (x : S67) (r : S31) (er : Int) (h : stepE K p0 p1 p2 p3 p4 p5 ev x = some (r, er)) : ExprOk p0 p1 p2 p3 p4 p5 x r er := by
  simp only [stepE] at h
  by_cases h6 : x.f0 < 6
  · rw [if_pos h6] at h
    simp only [leafE] at h
    cases hf : eval_world_leaf.f [] p0 p1 p2 p3 p4 p5 x.f0 x.f1 x.f2 x.f3 x.f4.f0 x.f4.f1 x.f5 with
    | none => rw [hf] at h; exact absurd h (by simp)
    | some q =>
      obtain ⟨r0, r1, r2, r3, r4, r5, r6⟩ := q
      rw [hf] at h
      simp only [Option.some.injEq, Prod.mk.injEq] at h
      obtain ⟨rfl, rfl⟩ := h
      intro A c B kc w hl hC
      exact expr_leaf p0 p1 p2 p3 p4 p5 x h6 _ hf A c B kc w hl hC
  rw [if_neg h6] at h
  by_cases h7 : x.f0 = 6
  · rw [if_pos h7] at h
    intro A c B kc w hl hC
    exact expr_set p0 p1 p2 p3 p4 p5 A c B kc w x h7 r er (fun W hW => set_ok p0 p1 p2 p3 p4 p5 ev hev x.f5 r er h A c B kc W hl (Kd.C_below hC hW))
  rw [if_neg h7] at h
  have h8 : 6 < x.f0 := by omega
  cases hx : x.f5 with
  | nil =>
    rw [hx] at h
    simp only [Option.some.injEq, Prod.mk.injEq] at h
    obtain ⟨rfl, rfl⟩ := h
    intro A c B kc w hl hC
    exact expr_few_none p0 p1 p2 p3 p4 p5 x h8 (by rw [hx]; rfl) A c B kc w hl hC
  | cons k0 ks =>
    rw [hx] at h
    dsimp only at h
    by_cases h23 : x.f0 < 23
    · rw [if_pos h23] at h
      exact first_ok K p0 p1 p2 p3 p4 p5 ev hev x k0 ks h8 h23 hx r er h
    · rw [if_neg h23] at h
      exact ch_ok p0 p1 p2 p3 p4 p5 ev hev x k0 ks (by omega) hx r er h
/-- What a tree comes to by the function, it comes to in the program. -/
theorem evE_ok (K : Nat) (p0 p1 p2 p3 p4 p5 : ByteArray) : ∀ (k : Nat) (x : S67) (r : S31) (er : Int), evE K p0 p1 p2 p3 p4 p5 k x = some (r, er) → ExprOk p0 p1 p2 p3 p4 p5 x r er
  | 0, _, _, _, h => absurd h (by simp [evE])
  | k + 1, x, r, er, h => step_ok K p0 p1 p2 p3 p4 p5 (evE K p0 p1 p2 p3 p4 p5 k) (evE_ok K p0 p1 p2 p3 p4 p5 k) x r er h
end Go.Proofs.Ytfmghijmcgkpiaa.GE
