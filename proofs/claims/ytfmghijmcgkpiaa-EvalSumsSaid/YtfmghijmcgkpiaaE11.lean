import Derived.Test.YtfmghijmcgkpiaaGS0
import Derived.Test.YtfmghijmcgkpiaaE8
namespace Go.Proofs.Ytfmghijmcgkpiaa.GE
open Go.RowKit Go.Proofs.YtfmghijmcgkpiaaW.PrintWords Go.Proofs.YtfmghijmcgkpiaaW.PrintLast Go.Proofs.Ytfmghijmcgkpiaa.HandV Go.Proofs.YtfmghijmcgkpiaaW.PrintMore
open Go.Proofs.Ytfmghijmcgkpiaa.GS
attribute [local go_sem] max2_int min2_int max_two min_two max_three min_three max_four min_four   -- for this text's walks alone
set_option linter.unusedVariables false
set_option linter.unusedSimpArgs false
-- IMPORT .E8
theorem gives_of {P : Program} {fn : Nat} {args : Array Value} {w : World} {r : S31} {er : Int} (h5 : r.f5 = []) (h : Calls P fn args w fun e w' => e = .returned (.tuple #[.agg #[.int .i64 r.f0, .bool r.f1, .int .i64 r.f2, .string r.f3, .string r.f4.f0, .string r.f4.f1, .slice none 0 0], .int .i64 er]) ∧ Below w.heap.size w w') : Calls P fn args w (Gives w r er) :=
  h.mono (fun e w' h => ⟨.slice none 0 0, h.1, h5 ▸ Kd.V_nil _ _ _ _ _, h.2⟩)
/-- What single answers; none where no theorem speaks of it. -/
def singleF (op : Int) (v : S31) : Option (S31 × Int) :=
  if op = 7 then (if v.f0 = 4 then some (zV, 18) else some (zV, 16))
  else if op = 8 then (if v.f0 = 4 then some (trV false, 0) else some (zV, 16))
  else if op = 10 then (if v.f0 = 3 then none else some (zV, 16))
  else if op = 11 then (if v.f0 = 1 then some (trV (!v.f1), 0) else some (zV, 16))
  else if op = 12 then (if v.f0 = 2 then (match num_Neg.f v.f2 with | some (r, er) => if er = 0 then some (nuV r, 0) else some (zV, er) | none => none) else some (zV, 16))
  else some (zV, 16)
theorem single_ok (p0 p1 p2 p3 p4 p5 : ByteArray) (x : S67) (v : S31) (r : S31) (er : Int) (h : singleF x.f0 v = some (r, er)) (A : Option Addr) (c : Nat) (B : Option Addr) (kc : Nat) (A6 : Option Addr) (c6 : Nat) (w : World) :
    Calls Try.prog 138 #[.agg #[.slice A 0 c, .string p0, .string p1, .string p2, .string p3, .string p4, .string p5], .agg #[.int .i64 x.f0, .bool x.f1, .int .i64 x.f2, .string x.f3, .string x.f4.f0, .string x.f4.f1, .slice B x.f5.length kc], .agg #[.int .i64 v.f0, .bool v.f1, .int .i64 v.f2, .string v.f3, .string v.f4.f0, .string v.f4.f1, .slice A6 v.f5.length c6]] w (Gives w r er) := by
  obtain ⟨op, eb, en, s, ⟨eu, ev⟩, ks⟩ := x
  obtain ⟨k, b, n, vs, ⟨vt, vi⟩, vl⟩ := v
  simp only [singleF] at h
  show Calls Try.prog 138 #[.agg #[.slice A 0 c, .string p0, .string p1, .string p2, .string p3, .string p4, .string p5], .agg #[.int .i64 op, .bool eb, .int .i64 en, .string s, .string eu, .string ev, .slice B ks.length kc], .agg #[.int .i64 k, .bool b, .int .i64 n, .string vs, .string vt, .string vi, .slice A6 vl.length c6]] w (Gives w r er)
  by_cases h7 : op = 7
  · subst h7
    simp only [if_true] at h
    by_cases hk : k = 4
    · subst hk
      simp only [if_true, Option.some.injEq, Prod.mk.injEq] at h
      obtain ⟨rfl, rfl⟩ := h
      exact gives_of rfl (single_get_uid A c p0 p1 p2 p3 p4 p5 eb en s eu ev B ks.length kc b n vs vt vi A6 vl.length c6 w)
    · rw [if_neg hk] at h
      simp only [Option.some.injEq, Prod.mk.injEq] at h
      obtain ⟨rfl, rfl⟩ := h
      exact gives_of rfl (single_get_no A c p0 p1 p2 p3 p4 p5 eb en s eu ev B ks.length kc k hk b n vs vt vi A6 vl.length c6 w)
  rw [if_neg h7] at h
  by_cases h8 : op = 8
  · subst h8
    simp only [if_true] at h
    by_cases hk : k = 4
    · subst hk
      simp only [if_true, Option.some.injEq, Prod.mk.injEq] at h
      obtain ⟨rfl, rfl⟩ := h
      exact gives_of rfl (single_has_uid A c p0 p1 p2 p3 p4 p5 eb en s eu ev B ks.length kc b n vs vt vi A6 vl.length c6 w)
    · rw [if_neg hk] at h
      simp only [Option.some.injEq, Prod.mk.injEq] at h
      obtain ⟨rfl, rfl⟩ := h
      exact gives_of rfl (single_has_no A c p0 p1 p2 p3 p4 p5 eb en s eu ev B ks.length kc k hk b n vs vt vi A6 vl.length c6 w)
  rw [if_neg h8] at h
  by_cases h10 : op = 10
  · subst h10
    simp only [if_true] at h
    by_cases hk : k = 3
    · rw [if_pos hk] at h
      exact absurd h (by simp)
    · rw [if_neg hk] at h
      simp only [Option.some.injEq, Prod.mk.injEq] at h
      obtain ⟨rfl, rfl⟩ := h
      exact gives_of rfl (single_like_no A c p0 p1 p2 p3 p4 p5 eb en s eu ev B ks.length kc k hk b n vs vt vi A6 vl.length c6 w)
  rw [if_neg h10] at h
  by_cases h11 : op = 11
  · subst h11
    simp only [if_true] at h
    by_cases hk : k = 1
    · subst hk
      simp only [if_true, Option.some.injEq, Prod.mk.injEq] at h
      obtain ⟨rfl, rfl⟩ := h
      exact gives_of rfl (single_not_tr A c p0 p1 p2 p3 p4 p5 eb en s eu ev B ks.length kc b n vs vt vi A6 vl.length c6 w)
    · rw [if_neg hk] at h
      simp only [Option.some.injEq, Prod.mk.injEq] at h
      obtain ⟨rfl, rfl⟩ := h
      exact gives_of rfl (single_not_no A c p0 p1 p2 p3 p4 p5 eb en s eu ev B ks.length kc k hk b n vs vt vi A6 vl.length c6 w)
  rw [if_neg h11] at h
  by_cases h12 : op = 12
  · subst h12
    simp only [if_true] at h
    by_cases hk : k = 2
    · subst hk
      simp only [if_true] at h
      cases hn : num_Neg.f n with
      | none => rw [hn] at h; exact absurd h (by simp)
      | some re =>
        obtain ⟨rr, ee⟩ := re
        rw [hn] at h
        dsimp only at h
        by_cases he : ee = 0
        · subst he
          simp only [if_true, Option.some.injEq, Prod.mk.injEq] at h
          obtain ⟨rfl, rfl⟩ := h
          exact gives_of rfl (single_neg_ok A c p0 p1 p2 p3 p4 p5 eb en s eu ev B ks.length kc b n vs vt vi A6 vl.length c6 rr hn w)
        · rw [if_neg he] at h
          simp only [Option.some.injEq, Prod.mk.injEq] at h
          obtain ⟨rfl, rfl⟩ := h
          exact gives_of rfl (single_neg_err A c p0 p1 p2 p3 p4 p5 eb en s eu ev B ks.length kc b n vs vt vi A6 vl.length c6 rr _ he hn w)
    · rw [if_neg hk] at h
      simp only [Option.some.injEq, Prod.mk.injEq] at h
      obtain ⟨rfl, rfl⟩ := h
      exact gives_of rfl (single_neg_no A c p0 p1 p2 p3 p4 p5 eb en s eu ev B ks.length kc k hk b n vs vt vi A6 vl.length c6 w)
  rw [if_neg h12] at h
  simp only [Option.some.injEq, Prod.mk.injEq] at h
  obtain ⟨rfl, rfl⟩ := h
  exact gives_of rfl (single_other A c p0 p1 p2 p3 p4 p5 op h7 h8 h10 h11 h12 eb en s eu ev B ks.length kc k b n vs vt vi A6 vl.length c6 w)
end Go.Proofs.Ytfmghijmcgkpiaa.GE
