import Derived.Test.YtelibndkkokadaaGB0
import Derived.Test.YtelibndkkokadaaJp
import Derived.Test.YtelibndkkokadaaGB6
namespace Go.Proofs.Ytelibndkkokadaa.GP
open Go.RowKit Go.Proofs.YtelibndkkokadaaW.PrintWords Go.Proofs.YtelibndkkokadaaW.PrintLast Go.Proofs.Ytelibndkkokadaa.HandV Go.Proofs.YtelibndkkokadaaW.PrintMore
open Go.Proofs.Ytelibndkkokadaa.GB
attribute [local go_sem] max2_int min2_int max_two min_two max_three min_three max_four min_four   -- for this text's walks alone
set_option linter.unusedVariables false
set_option linter.unusedSimpArgs false
-- IMPORT .P3s
-- FN chancelref3_Same
/-- A value is the same as itself. -/
theorem self_l0 (x : S55) (hl : x.f5.length ≤ 8) (hk : ∀ y ∈ x.f5, Tot (fun k => chancelref3_Same.f k y.f0 y.f1 y.f2 y.f3 y.f4.f0 y.f4.f1 y.f5 y.f0 y.f1 y.f2 y.f3 y.f4.f0 y.f4.f1 y.f5) (fun r => r = true)) : ∀ (d i : Nat), i + d = x.f5.length → Tot (fun k => chancelref3_Same.l0 k (i : Int) x.f0 x.f1 x.f2 x.f3 x.f4.f0 x.f4.f1 x.f5 x.f0 x.f1 x.f2 x.f3 x.f4.f0 x.f4.f1 x.f5) (fun r => r = true) := by
  intro d
  induction d with
  | zero =>
    intro i hi
    refine Tot.step (f := fun _ => some true) (fun k => ?_) (Tot.now rfl)
    rw [chancelref3_Same.l0, if_neg (by omega)]
  | succ d ih =>
    intro i hi
    have hlt : i < x.f5.length := by omega
    have hrd : rd_T55 x.f5 (i : Int) = x.f5[i] := by
      unfold rd_T55
      rw [Int.toNat_natCast, List.getD_eq_getElem?_getD, List.getElem?_eq_getElem hlt]; rfl
    refine Tot.step (f := fun k => (chancelref3_Same.f k x.f5[i].f0 x.f5[i].f1 x.f5[i].f2 x.f5[i].f3 x.f5[i].f4.f0 x.f5[i].f4.f1 x.f5[i].f5 x.f5[i].f0 x.f5[i].f1 x.f5[i].f2 x.f5[i].f3 x.f5[i].f4.f0 x.f5[i].f4.f1 x.f5[i].f5).bind fun t => if t = true then chancelref3_Same.l0 k ((i + 1 : Nat) : Int) x.f0 x.f1 x.f2 x.f3 x.f4.f0 x.f4.f1 x.f5 x.f0 x.f1 x.f2 x.f3 x.f4.f0 x.f4.f1 x.f5 else some false) (fun k => ?_) ?_
    · rw [chancelref3_Same.l0, if_pos (by omega), if_pos (by omega), if_pos (by omega), hrd, wr_succ (by omega)]
    · refine Tot.bind (hk _ (List.getElem_mem hlt)) (fun r hr => ?_)
      subst hr
      exact Tot.pos rfl (ih (i + 1) (by omega))
theorem self_f (x : S55) (h : Tot (fun k => chancelref3_Same.l0 k 0 x.f0 x.f1 x.f2 x.f3 x.f4.f0 x.f4.f1 x.f5 x.f0 x.f1 x.f2 x.f3 x.f4.f0 x.f4.f1 x.f5) (fun r => r = true)) : Tot (fun k => chancelref3_Same.f k x.f0 x.f1 x.f2 x.f3 x.f4.f0 x.f4.f1 x.f5 x.f0 x.f1 x.f2 x.f3 x.f4.f0 x.f4.f1 x.f5) (fun r => r = true) := by
  refine Tot.step (f := fun k => chancelref3_Same.j0 k ((x.f5.length : Int) != (x.f5.length : Int)) x.f0 x.f1 x.f2 x.f3 x.f4.f0 x.f4.f1 x.f5 x.f0 x.f1 x.f2 x.f3 x.f4.f0 x.f4.f1 x.f5) (fun k => ?_) ?_
  · rw [chancelref3_Same.f, if_pos rfl, if_neg (by simp), if_pos rfl, if_pos rfl, if_neg (by simp)]
  · refine Tot.step (f := fun k => chancelref3_Same.l0 k 0 x.f0 x.f1 x.f2 x.f3 x.f4.f0 x.f4.f1 x.f5 x.f0 x.f1 x.f2 x.f3 x.f4.f0 x.f4.f1 x.f5) (fun k => ?_) h
    rw [chancelref3_Same.j0, if_neg (by simp)]
theorem self_low (x : S55) (hx : Low x) : Tot (fun k => chancelref3_Same.f k x.f0 x.f1 x.f2 x.f3 x.f4.f0 x.f4.f1 x.f5 x.f0 x.f1 x.f2 x.f3 x.f4.f0 x.f4.f1 x.f5) (fun r => r = true) := by
  refine self_f x (self_l0 x hx.1 (fun y hy => ?_) x.f5.length 0 (by omega))
  have h5 : y.f5 = [] := hx.2 y hy
  exact self_f y (self_l0 y (by rw [h5]; decide) (fun z hz => by rw [h5] at hz; cases hz) y.f5.length 0 (by omega))
/-- The same by its contract. -/
theorem same_self_calls (x : S55) (hx : Low x) (A B : Option Addr) (c d : Nat) (w : World) (h1 : k55.C w A x.f5.length x.f5) (h2 : x.f5.length ≤ c) (h3 : k55.C w B x.f5.length x.f5) (h4 : x.f5.length ≤ d) :
    Calls Try.prog 31 #[.agg #[.int .i64 x.f0, .bool x.f1, .int .i64 x.f2, .string x.f3, .string x.f4.f0, .string x.f4.f1, .slice A x.f5.length c], .agg #[.int .i64 x.f0, .bool x.f1, .int .i64 x.f2, .string x.f3, .string x.f4.f0, .string x.f4.f1, .slice B x.f5.length d]] w fun e w' => e = .returned (.bool true) ∧ Below w.heap.size w w' := by
  obtain ⟨r, ⟨k, hk⟩, rfl⟩ := self_low x hx
  exact chancelref3_Same.calls k _ _ _ _ _ _ A c _ _ _ _ _ _ _ B d _ true w h1 h2 h3 h4 (hk k (Nat.le_refl k))
end Go.Proofs.Ytelibndkkokadaa.GP
