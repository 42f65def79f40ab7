import Derived.Test.YtelibndkkokadaaGreatGB0
import Derived.Test.YtelibndkkokadaaGreatA6
import Derived.Test.YtelibndkkokadaaGreatJr
import Derived.Deep.RegionWith
import Derived.Deep.CutRange
import Derived.Test.YtelibndkkokadaaGreatJz
import Derived.Test.YtelibndkkokadaaGreatGB8
namespace Go.Proofs.YtelibndkkokadaaGreat.GA
open Go.RowKit Go.Proofs.YtelibndkkokadaaGreatW.PrintWords Go.Proofs.YtelibndkkokadaaGreatW.PrintLast Go.Proofs.YtelibndkkokadaaGreat.HandV Go.Proofs.YtelibndkkokadaaGreatW.PrintMore
open Go.Proofs.YtelibndkkokadaaGreat.GB
attribute [local go_sem] max2_int min2_int max_two min_two max_three min_three max_four min_four   -- for this text's walks alone
set_option linter.unusedVariables false
set_option linter.unusedSimpArgs false
-- IMPORT .A6
-- IMPORT .R1
-- FN chancelref3_LessUid
-- FN chancelref9_has
-- IMPORT Derived.Deep.RegionWith
-- IMPORT Derived.Deep.CutRange
theorem has_calls (l : List U) (hl : l.length ≤ 4000000) (u : U) (A : Option Addr) (c : Nat) (w : World) (hc : l.length ≤ c) (hC : k28.C w A l.length l) :
    Calls Tryz.prog 19 #[.slice A l.length c, .agg #[.string u.f0, .string u.f1]] w fun e w' => e = .returned (.bool (decide (u ∈ l))) ∧ Below w.heap.size w w' := by
  obtain ⟨r, he, rfl⟩ := GP.has_tot l hl u
  obtain ⟨k, hk⟩ := he.rounds
  exact chancelref9_has.calls k A c l u.f0 u.f1 _ w hC hc hk
theorem less_calls (x y : U) (w : World) : Calls Tryz.prog 16 #[.agg #[.string x.f0, .string x.f1], .agg #[.string y.f0, .string y.f1]] w fun e w' => e = .returned (.bool (ltU x y)) ∧ Below w.heap.size w w' := chancelref3_LessUid.calls _ _ _ _ _ w (GP.lessU x y)
/-- The head of a round of put's loop. -/
def Pt (l : List U) (u : U) (w wr : World) (v5 : Value) (g : Nat) : Prop :=
  ∃ i : Nat, i ≤ l.length ∧ v5 = .int .i64 (i : Int) ∧ (∀ j (h : j < l.length), j < i → ltU l[j] u = true) ∧ g = l.length - i ∧ Below w.heap.size w wr ∧ wr.heap[w.heap.size]? = some (.cells #[.string u.f0, .string u.f1] 28 (0, 0))
set_option maxRecDepth 100000 in
set_option maxHeartbeats 8000000 in
theorem rput_calls (l : List U) (hs : GP.Strict l) (hl : l.length ≤ 1000000) (u : U) (A : Option Addr) (c : Nat) (w : World) (base : Nat) (ok : Nat → Prop) (hc : l.length ≤ c) (hF : Kd.F k28 w ok A l.length l) (hb : base ≤ w.heap.size) (hok : ∀ q, base ≤ q → ok q) :
    Calls Tryz.prog 37 #[.slice A l.length c, .agg #[.string u.f0, .string u.f1]] w fun e w' => ∃ v r, e = .returned v ∧ Kd.V k28 28 w' base ok v r ∧ GP.Strict r ∧ (∀ y, y ∈ r ↔ y = u ∨ y ∈ l) ∧ Below w.heap.size w w' := by
  have HF := Aside0.mk hF
  have Hc := Aside0.mk hc
  have Hl := Aside0.mk hl
  have Hs := Aside0.mk hs
  have Hb := Aside0.mk hb
  have Hok := Aside0.mk hok
  have HH := Aside0.mk (has_calls l (by omega) u A c)
  have HCC : Aside0 (∀ W, Below w.heap.size w W → k28.C W A l.length l) := ⟨fun W hW => hF W (fun k _ hk => hW.block k hk)⟩
  have HFW : Aside0 (∀ W, Below w.heap.size w W → Kd.F k28 W (fun q => q < w.heap.size) A l.length l) := ⟨fun W hW W2 h => hF W2 (fun k _ hk => (h k hk (Nat.lt_of_lt_of_le hk hW.size)).trans (hW.block k hk))⟩
  have HFW : Aside0 (∀ W, Below w.heap.size w W → Kd.F k28 W (fun q => q < w.heap.size) A l.length l) := ⟨fun W hW W2 h => hF W2 (fun k _ hk => (h k hk (Nat.lt_of_lt_of_le hk hW.size)).trans (hW.block k hk))⟩
  clear hF hc hl hs hb hok
  by_cases hm : u ∈ l
  · have Hm := Aside0.mk hm
    have hdm : decide (u ∈ l) = true := decide_eq_true hm
    rw [hdm] at HH
    clear hm hdm
    go_enter Tryz.func37, Tryz.ntmps37
    go_wp2_with (first | (go_at_call 19; refine (HH.out _ Hc.out (HCC.out _ (by repeat (first | exact Below.refl _ _ | apply below_alloc)))).mono ?_; rintro e w1 ⟨rfl, hb⟩; have HB : Aside0 (Below w.heap.size w w1) := ⟨below_step (by repeat (first | exact Below.refl _ _ | apply below_alloc)) hb⟩; clear hb))
    go_ret
    refine ⟨_, l, rfl, ⟨_, c, rfl, Hc.out, Kd.F_below HF.out HB.out⟩, Hs.out, fun y => ⟨fun hy => .inr hy, fun hy => hy.elim (fun e => e ▸ Hm.out) id⟩, HB.out⟩
  · have Hm := Aside0.mk hm
    have hdm : decide (u ∈ l) = false := decide_eq_false hm
    rw [hdm] at HH
    clear hm hdm
    go_enter Tryz.func37, Tryz.ntmps37
    go_wp2_with (first | (go_at_call 19; refine (HH.out _ Hc.out (HCC.out _ (by repeat (first | exact Below.refl _ _ | apply below_alloc)))).mono ?_; rintro e w1 ⟨rfl, hb⟩; have HB : Aside0 (Below w.heap.size w w1) := ⟨below_step (by repeat (first | exact Below.refl _ _ | apply below_alloc)) hb⟩; have HX : Aside0 (w1.heap[w.heap.size]? = some (.cells #[.string u.f0, .string u.f1] 28 (0, 0))) := ⟨(hb.block _ (by simp)).trans (blk_new _ _)⟩; clear hb))
    go_loopg [5] l.length (fun g v5 wr => Pt l u w wr v5 g)
    case atStart => exact ⟨0, Nat.zero_le _, rfl, fun j _ h => by omega, rfl, HB.out, HX.out⟩
    case round =>
      obtain ⟨i, hi, rfl, hlt, rfl, hb1, hx1⟩ := hrel
      clear HB HX HH
      have HB := Aside0.mk hb1
      have HX := Aside0.mk hx1
      have Hlt := Aside0.mk hlt
      have Hi := Aside0.mk hi
      clear hb1 hx1 hlt hi
      have q0 : wr.cell? ⟨w.heap.size, 0, none⟩ = some (.string u.f0) := GT.hcellT HX.out 0 _ rfl
      have q1 : wr.cell? ⟨w.heap.size, 1, none⟩ = some (.string u.f1) := GT.hcellT HX.out 1 _ rfl
      by_cases hil : i < l.length
      · obtain ⟨ad, rfl, g0, g1⟩ := at_T28 (HCC.out wr HB.out) (i : Int) (by omega) (by omega)
        rw [GP.rdU_at hil, Int.toNat_natCast] at g0 g1
        obtain ⟨x, hx⟩ : ∃ x, l[i] = x := ⟨_, rfl⟩
        rw [hx] at g0 g1
        have Hx : Aside0 (∀ h : i < l.length, l[i] = x) := ⟨fun _ => hx⟩
        have p0 : (0 ≤ (i : Int)) = True := eq_true (by omega)
        have p1 : ((i : Int) < (l.length : Int)) = True := eq_true (by omega)
        have HLC := Aside0.mk (less_calls x u)
        have Hil := Aside0.mk hil
        clear hx
        cases hlu : ltU x u with
        | true =>
          rw [hlu] at HLC
          have Hlu := Aside0.mk hlu
          clear hlu hil
          go_wp2
          go_cut [5, 22] from 11 to 24 (fun s5 s wx => s5 = .int .i64 (i : Int) ∧ s = .bool true ∧ Aside0 (Below w.heap.size w wx) ∧ Aside0 (wx.heap[w.heap.size]? = some (.cells #[.string u.f0, .string u.f1] 28 (0, 0))))
          case first =>
            go_region_with (first | (go_at_call 16; refine (HLC.out _).mono ?_; rintro e w2 ⟨rfl, hb2⟩; have HB2 : Aside0 (Below w.heap.size w w2) := ⟨below_step (by repeat (first | exact HB.out | apply below_drew1)) hb2⟩; have HX2 : Aside0 (w2.heap[w.heap.size]? = some (.cells #[.string u.f0, .string u.f1] 28 (0, 0))) := ⟨(hb2.block _ (GT.lt_of_heapT HX.out)).trans HX.out⟩; clear hb2))
            all_goals (go_wp2_with fail)
            all_goals go_meet
            all_goals exact ⟨rfl, rfl, HB2, HX2⟩
          case rest =>
            obtain ⟨rfl, rfl, HBc, HXc⟩ := hcut
            go_wp2
            go_roundg (l.length - (i + 1))
            case rel => exact ⟨i + 1, by have := Hil.out; omega, by rw [GP.wr_succ (by have := Hil.out; have := Hl.out; omega)], fun j hj hlt => by
                by_cases hji : j = i
                · subst hji; rw [Hx.out]; exact Hlu.out
                · exact Hlt.out j hj (by omega), rfl, HBc.out, HXc.out⟩
            case measure => have := Hil.out; omega
        | false =>
          rw [hlu] at HLC
          have Hlu := Aside0.mk hlu
          clear hlu hil
          go_wp2
          go_cut [5, 22] from 11 to 24 (fun s5 s wx => s5 = .int .i64 (i : Int) ∧ s = .bool false ∧ Aside0 (Below w.heap.size w wx) ∧ Aside0 (wx.heap[w.heap.size]? = some (.cells #[.string u.f0, .string u.f1] 28 (0, 0))))
          case first =>
            go_region_with (first | (go_at_call 16; refine (HLC.out _).mono ?_; rintro e w2 ⟨rfl, hb2⟩; have HB2 : Aside0 (Below w.heap.size w w2) := ⟨below_step (by repeat (first | exact HB.out | apply below_drew1)) hb2⟩; have HX2 : Aside0 (w2.heap[w.heap.size]? = some (.cells #[.string u.f0, .string u.f1] 28 (0, 0))) := ⟨(hb2.block _ (GT.lt_of_heapT HX.out)).trans HX.out⟩; clear hb2))
            all_goals (go_wp2_with fail)
            all_goals go_meet
            all_goals exact ⟨rfl, rfl, HB2, HX2⟩
          case rest =>
            obtain ⟨rfl, rfl, HBc, HXc⟩ := hcut
            clear q0 q1 g0 g1 HLC p0 p1
            obtain ⟨AD, hAD, HC3⟩ : ∃ AD, (if c = i then some ad else some (ad.add (i * 2))) = AD ∧ Aside0 (∀ W, Below w.heap.size w W → Kd.F k28 W (fun q => q < w.heap.size) AD (l.length - i) (l.drop i)) := ⟨_, rfl, ⟨fun W hW => by
              have h := Kd.F_cut (HFW.out W hW) Hi.out Hc.out
              rw [List.length_drop] at h
              exact h⟩⟩
            have HT : Aside0 (∀ W, Below w.heap.size w W → Kd.F k28 W (fun q => q < w.heap.size) (some ad) i (l.take i)) := ⟨fun W hW => by
              have h := Kd.F_take (HFW.out W hW) Hi.out
              rwa [List.length_take, Nat.min_eq_left Hi.out] at h⟩
            have pi0 : (0 ≤ (i : Int)) = True := eq_true (by omega)
            have pi1 : ((i : Int) ≤ (l.length : Int)) = True := eq_true (by have := Hi.out; omega)
            have pi2 : ((i : Int) ≤ (c : Int)) = True := eq_true (by have := Hi.out; have := Hc.out; omega)
            have pi3 : ((l.length : Int) ≤ (c : Int)) = True := eq_true (by have := Hc.out; omega)
            have q0 : wc.cell? ⟨w.heap.size, 0, none⟩ = some (.string u.f0) := GT.hcellT HXc.out 0 _ rfl
            have q1 : wc.cell? ⟨w.heap.size, 1, none⟩ = some (.string u.f1) := GT.hcellT HXc.out 1 _ rfl
            go_wp2_with (first | (at_builtin; refine Kd.N_append_rows k28 (w0 := w) w.heap.size rfl (.tmp 25) (.tmp 28) 29 28 (.agg #[(.string ⟨#[]⟩), (.string ⟨#[]⟩)]) 32 rfl Tryz.underlying29 info28 rfl (by decide) (by omega) (.slice none 0 0) [] (l.take i) (some ad) i c (fun _ => True) (fun q => q < w.heap.size) rfl rfl ?aO ?aR ?aP ?aF ?aB ?aS ?aL ?_; (case aO => exact Kd.N_nil _ _ _ _ _); (case aR => exact HT.out _ HBc.out); (case aP => intro q _; exact ⟨trivial, by simp [Value.ownBlock]⟩); (case aF => intro q _; trivial); (case aB => exact HBc.out); (case aS => exact HBc.out.size); (case aL => have := Hl.out; have := Hi.out; simp; omega); intro v3 w3 hN3 hB3 hg3 hat3; rw [List.nil_append] at hN3; have hl3 : (l.take i).length = i := (by rw [List.length_take]; have := Hi.out; omega); obtain ⟨A6, c6, rfl⟩ := Kd.N_slice hN3; rw [hl3] at hN3 ⊢; have HN3 := Aside0.mk hN3; have HB3 := Aside0.mk hB3; have HX3 : Aside0 (w3.heap[w.heap.size]? = some (.cells #[.string u.f0, .string u.f1] 28 (0, 0))) := ⟨blk_grown HXc.out hg3 (by simp [Value.ownBlock])⟩; have r0 : w3.cell? ⟨w.heap.size, 0, none⟩ = some (.string u.f0) := GT.hcellT HX3.out 0 _ rfl; have r1 : w3.cell? ⟨w.heap.size, 1, none⟩ = some (.string u.f1) := GT.hcellT HX3.out 1 _ rfl; clear hN3 hB3 hg3 hat3 hl3) | (at_builtin; refine Kd.N_append k28 (w0 := w) w.heap.size rfl (.tmp 30) (.tmp 32) 29 28 (.agg #[(.string ⟨#[]⟩), (.string ⟨#[]⟩)]) 32 rfl Tryz.underlying29 info28 rfl (by decide) (by omega) (.slice A6 i c6) (l.take i) u [.string u.f0, .string u.f1] (fun _ => True) (fun _ => False) rfl ?aX ?aK (fun _ h => h.elim) ?aF ?aO ?aB ?aS ?aL ?_; (case aX => rfl); (case aK => exact k28_mkF _ _ u); (case aF => intro q _; trivial); (case aO => exact HN3.out); (case aB => exact HB3.out); (case aS => exact HB3.out.size); (case aL => have := Hl.out; have := Hi.out; rw [List.length_take]; omega); intro v4 w4 hN4 hB4 hg4 hat4; obtain ⟨A7, c7, rfl⟩ := Kd.N_slice hN4; have hl4 : (l.take i ++ [u]).length = i + 1 := (by rw [List.length_append, List.length_take]; have := Hi.out; simp; omega); rw [hl4] at hN4 ⊢; have HN4 := Aside0.mk hN4; have HB4 := Aside0.mk hB4; clear hN4 hB4 hg4 hat4 hl4) | (at_builtin; refine Kd.N_append_rows k28 (w0 := w) w.heap.size rfl (.tmp 34) (.tmp 37) 29 28 (.agg #[(.string ⟨#[]⟩), (.string ⟨#[]⟩)]) 32 rfl Tryz.underlying29 info28 rfl (by decide) (by omega) (.slice A7 (i + 1) c7) (l.take i ++ [u]) (l.drop i) AD (l.length - i) (c - i) (fun _ => True) (fun q => q < w.heap.size) rfl rfl ?aO ?aR ?aP ?aF ?aB ?aS ?aL ?_; (case aO => exact HN4.out); (case aR => exact HC3.out _ HB4.out); (case aP => intro q hq; exact ⟨trivial, fun e => by have := Kd.N_base HN4.out q e.symm; omega⟩); (case aF => intro q _; trivial); (case aB => exact HB4.out); (case aS => exact HB4.out.size); (case aL => have := Hl.out; have := Hi.out; rw [List.length_append, List.length_take]; simp; omega); intro v5 w5 hN5 hB5 hg5 hat5; have HN5 := Aside0.mk hN5; have HB5 := Aside0.mk hB5; clear hN5 hB5 hg5 hat5))
            go_ret
            first
              | refine ⟨_, rfl, l.take i ++ [u] ++ l.drop i, Kd.N_V (base' := base) (N_of_own (own_uc HN5.out) (fun q hq => Hok.out q (Nat.le_trans Hb.out (Kd.N_base HN5.out q hq)))), ?_, ?_, HB5.out⟩
              | refine ⟨_, l.take i ++ [u] ++ l.drop i, rfl, Kd.N_V (base' := base) (N_of_own (own_uc HN5.out) (fun q hq => Hok.out q (Nat.le_trans Hb.out (Kd.N_base HN5.out q hq)))), ?_, ?_, HB5.out⟩
            · exact (GP.insAt_spec Hs.out Hm.out ⟨i, Hi.out, Hlt.out, fun h => by rw [Hx.out]; exact Hlu.out, rfl⟩).1
            · exact (GP.insAt_spec Hs.out Hm.out ⟨i, Hi.out, Hlt.out, fun h => by rw [Hx.out]; exact Hlu.out, rfl⟩).2
      · have hie : i = l.length := by have := Hi.out; omega
        have p1 : ((i : Int) < (l.length : Int)) = False := eq_false (by omega)
        have p2 : decide ((i : Int) < (l.length : Int)) = false := decide_eq_false (by omega)
        have Hil := Aside0.mk hil
        have Hie := Aside0.mk hie
        clear hil hie
        go_wp2
        go_cut [5, 22] from 11 to 24 (fun s5 s wx => s5 = .int .i64 (i : Int) ∧ s = .bool false ∧ Aside0 (Below w.heap.size w wx) ∧ Aside0 (wx.heap[w.heap.size]? = some (.cells #[.string u.f0, .string u.f1] 28 (0, 0))))
        case first =>
          go_quiet (fail)
          all_goals (go_wp2_with fail)
          all_goals go_meet
          all_goals exact ⟨rfl, rfl, ⟨pw_below_drewN HB.out _⟩, HX⟩
        case rest =>
          obtain ⟨rfl, rfl, HBc, HXc⟩ := hcut
          clear q0 q1
          cases A with
          | some ad =>
            obtain ⟨AD, hAD, HC3⟩ : ∃ AD, (if c = i then some ad else some (ad.add (i * 2))) = AD ∧ Aside0 (∀ W, Below w.heap.size w W → Kd.F k28 W (fun q => q < w.heap.size) AD (l.length - i) (l.drop i)) := ⟨_, rfl, ⟨fun W hW => by
              have h := Kd.F_cut (HFW.out W hW) Hi.out Hc.out
              rw [List.length_drop] at h
              exact h⟩⟩
            have HT : Aside0 (∀ W, Below w.heap.size w W → Kd.F k28 W (fun q => q < w.heap.size) (some ad) i (l.take i)) := ⟨fun W hW => by
              have h := Kd.F_take (HFW.out W hW) Hi.out
              rwa [List.length_take, Nat.min_eq_left Hi.out] at h⟩
            have pi0 : (0 ≤ (i : Int)) = True := eq_true (by omega)
            have pi1 : ((i : Int) ≤ (l.length : Int)) = True := eq_true (by have := Hi.out; omega)
            have pi2 : ((i : Int) ≤ (c : Int)) = True := eq_true (by have := Hi.out; have := Hc.out; omega)
            have pi3 : ((l.length : Int) ≤ (c : Int)) = True := eq_true (by have := Hc.out; omega)
            have q0 : wc.cell? ⟨w.heap.size, 0, none⟩ = some (.string u.f0) := GT.hcellT HXc.out 0 _ rfl
            have q1 : wc.cell? ⟨w.heap.size, 1, none⟩ = some (.string u.f1) := GT.hcellT HXc.out 1 _ rfl
            go_wp2_with (first | (at_builtin; refine Kd.N_append_rows k28 (w0 := w) w.heap.size rfl (.tmp 25) (.tmp 28) 29 28 (.agg #[(.string ⟨#[]⟩), (.string ⟨#[]⟩)]) 32 rfl Tryz.underlying29 info28 rfl (by decide) (by omega) (.slice none 0 0) [] (l.take i) (some ad) i c (fun _ => True) (fun q => q < w.heap.size) rfl rfl ?aO ?aR ?aP ?aF ?aB ?aS ?aL ?_; (case aO => exact Kd.N_nil _ _ _ _ _); (case aR => exact HT.out _ HBc.out); (case aP => intro q _; exact ⟨trivial, by simp [Value.ownBlock]⟩); (case aF => intro q _; trivial); (case aB => exact HBc.out); (case aS => exact HBc.out.size); (case aL => have := Hl.out; have := Hi.out; simp; omega); intro v3 w3 hN3 hB3 hg3 hat3; rw [List.nil_append] at hN3; have hl3 : (l.take i).length = i := (by rw [List.length_take]; have := Hi.out; omega); obtain ⟨A6, c6, rfl⟩ := Kd.N_slice hN3; rw [hl3] at hN3 ⊢; have HN3 := Aside0.mk hN3; have HB3 := Aside0.mk hB3; have HX3 : Aside0 (w3.heap[w.heap.size]? = some (.cells #[.string u.f0, .string u.f1] 28 (0, 0))) := ⟨blk_grown HXc.out hg3 (by simp [Value.ownBlock])⟩; have r0 : w3.cell? ⟨w.heap.size, 0, none⟩ = some (.string u.f0) := GT.hcellT HX3.out 0 _ rfl; have r1 : w3.cell? ⟨w.heap.size, 1, none⟩ = some (.string u.f1) := GT.hcellT HX3.out 1 _ rfl; clear hN3 hB3 hg3 hat3 hl3) | (at_builtin; refine Kd.N_append k28 (w0 := w) w.heap.size rfl (.tmp 30) (.tmp 32) 29 28 (.agg #[(.string ⟨#[]⟩), (.string ⟨#[]⟩)]) 32 rfl Tryz.underlying29 info28 rfl (by decide) (by omega) (.slice A6 i c6) (l.take i) u [.string u.f0, .string u.f1] (fun _ => True) (fun _ => False) rfl ?aX ?aK (fun _ h => h.elim) ?aF ?aO ?aB ?aS ?aL ?_; (case aX => rfl); (case aK => exact k28_mkF _ _ u); (case aF => intro q _; trivial); (case aO => exact HN3.out); (case aB => exact HB3.out); (case aS => exact HB3.out.size); (case aL => have := Hl.out; have := Hi.out; rw [List.length_take]; omega); intro v4 w4 hN4 hB4 hg4 hat4; obtain ⟨A7, c7, rfl⟩ := Kd.N_slice hN4; have hl4 : (l.take i ++ [u]).length = i + 1 := (by rw [List.length_append, List.length_take]; have := Hi.out; simp; omega); rw [hl4] at hN4 ⊢; have HN4 := Aside0.mk hN4; have HB4 := Aside0.mk hB4; clear hN4 hB4 hg4 hat4 hl4) | (at_builtin; refine Kd.N_append_rows k28 (w0 := w) w.heap.size rfl (.tmp 34) (.tmp 37) 29 28 (.agg #[(.string ⟨#[]⟩), (.string ⟨#[]⟩)]) 32 rfl Tryz.underlying29 info28 rfl (by decide) (by omega) (.slice A7 (i + 1) c7) (l.take i ++ [u]) (l.drop i) AD (l.length - i) (c - i) (fun _ => True) (fun q => q < w.heap.size) rfl rfl ?aO ?aR ?aP ?aF ?aB ?aS ?aL ?_; (case aO => exact HN4.out); (case aR => exact HC3.out _ HB4.out); (case aP => intro q hq; exact ⟨trivial, fun e => by have := Kd.N_base HN4.out q e.symm; omega⟩); (case aF => intro q _; trivial); (case aB => exact HB4.out); (case aS => exact HB4.out.size); (case aL => have := Hl.out; have := Hi.out; rw [List.length_append, List.length_take]; simp; omega); intro v5 w5 hN5 hB5 hg5 hat5; have HN5 := Aside0.mk hN5; have HB5 := Aside0.mk hB5; clear hN5 hB5 hg5 hat5))
            go_ret
            first
              | refine ⟨_, rfl, l.take i ++ [u] ++ l.drop i, Kd.N_V (base' := base) (N_of_own (own_uc HN5.out) (fun q hq => Hok.out q (Nat.le_trans Hb.out (Kd.N_base HN5.out q hq)))), ?_, ?_, HB5.out⟩
              | refine ⟨_, l.take i ++ [u] ++ l.drop i, rfl, Kd.N_V (base' := base) (N_of_own (own_uc HN5.out) (fun q hq => Hok.out q (Nat.le_trans Hb.out (Kd.N_base HN5.out q hq)))), ?_, ?_, HB5.out⟩
            · exact (GP.insAt_spec Hs.out Hm.out ⟨i, Hi.out, Hlt.out, fun h => absurd h Hil.out, rfl⟩).1
            · exact (GP.insAt_spec Hs.out Hm.out ⟨i, Hi.out, Hlt.out, fun h => absurd h Hil.out, rfl⟩).2
          | none =>
            have hl0 : l = [] := List.eq_nil_of_length_eq_zero (by
              rcases Nat.eq_zero_or_pos l.length with h | h
              · exact h
              · obtain ⟨ad, he, _⟩ := (HCC.out wc HBc.out).2.2 h
                cases he)
            subst hl0
            obtain rfl : i = 0 := by have := Hi.out; simpa using this
            have q0 : wc.cell? ⟨w.heap.size, 0, none⟩ = some (.string u.f0) := GT.hcellT HXc.out 0 _ rfl
            have q1 : wc.cell? ⟨w.heap.size, 1, none⟩ = some (.string u.f1) := GT.hcellT HXc.out 1 _ rfl
            go_wp2_with (first | (at_builtin; refine Kd.N_append_rows k28 (w0 := w) w.heap.size rfl (.tmp 25) (.tmp 28) 29 28 (.agg #[(.string ⟨#[]⟩), (.string ⟨#[]⟩)]) 32 rfl Tryz.underlying29 info28 rfl (by decide) (by omega) (.slice none 0 0) [] [] _ 0 _ (fun _ => True) (fun q => q < w.heap.size) rfl rfl ?aO ?aR ?aP ?aF ?aB ?aS ?aL ?_; (case aO => exact Kd.N_nil _ _ _ _ _); (case aR => exact fun W' _ => ⟨rfl, by omega, fun h => absurd h (by omega)⟩); (case aP => intro q _; exact ⟨trivial, by simp [Value.ownBlock]⟩); (case aF => intro q _; trivial); (case aB => exact HBc.out); (case aS => exact HBc.out.size); (case aL => simp); intro v3 w3 hN3 hB3 hg3 hat3; rw [List.nil_append] at hN3; obtain ⟨A6, c6, rfl⟩ := Kd.N_slice hN3; rw [List.length_nil] at hN3 ⊢; have HN3 := Aside0.mk hN3; have HB3 := Aside0.mk hB3; have HX3 : Aside0 (w3.heap[w.heap.size]? = some (.cells #[.string u.f0, .string u.f1] 28 (0, 0))) := ⟨blk_grown HXc.out hg3 (by simp [Value.ownBlock])⟩; have r0 : w3.cell? ⟨w.heap.size, 0, none⟩ = some (.string u.f0) := GT.hcellT HX3.out 0 _ rfl; have r1 : w3.cell? ⟨w.heap.size, 1, none⟩ = some (.string u.f1) := GT.hcellT HX3.out 1 _ rfl; clear hN3 hB3 hg3 hat3) | (at_builtin; refine Kd.N_append k28 (w0 := w) w.heap.size rfl (.tmp 30) (.tmp 32) 29 28 (.agg #[(.string ⟨#[]⟩), (.string ⟨#[]⟩)]) 32 rfl Tryz.underlying29 info28 rfl (by decide) (by omega) (.slice A6 0 c6) [] u [.string u.f0, .string u.f1] (fun _ => True) (fun _ => False) rfl ?aX ?aK (fun _ h => h.elim) ?aF ?aO ?aB ?aS ?aL ?_; (case aX => rfl); (case aK => exact k28_mkF _ _ u); (case aF => intro q _; trivial); (case aO => exact HN3.out); (case aB => exact HB3.out); (case aS => exact HB3.out.size); (case aL => simp); intro v4 w4 hN4 hB4 hg4 hat4; obtain ⟨A7, c7, rfl⟩ := Kd.N_slice hN4; rw [show (([] : List U) ++ [u]).length = 1 from rfl] at hN4 ⊢; have HN4 := Aside0.mk hN4; have HB4 := Aside0.mk hB4; clear hN4 hB4 hg4 hat4) | (at_builtin; refine Kd.N_append_rows k28 (w0 := w) w.heap.size rfl (.tmp 34) (.tmp 37) 29 28 (.agg #[(.string ⟨#[]⟩), (.string ⟨#[]⟩)]) 32 rfl Tryz.underlying29 info28 rfl (by decide) (by omega) (.slice A7 1 c7) ([] ++ [u]) [] _ 0 _ (fun _ => True) (fun q => q < w.heap.size) rfl rfl ?aO ?aR ?aP ?aF ?aB ?aS ?aL ?_; (case aO => exact HN4.out); (case aR => exact fun W' _ => ⟨rfl, by omega, fun h => absurd h (by omega)⟩); (case aP => intro q hq; exact ⟨trivial, fun e => by have := Kd.N_base HN4.out q e.symm; omega⟩); (case aF => intro q _; trivial); (case aB => exact HB4.out); (case aS => exact HB4.out.size); (case aL => simp); intro v5 w5 hN5 hB5 hg5 hat5; have HN5 := Aside0.mk hN5; have HB5 := Aside0.mk hB5; clear hN5 hB5 hg5 hat5))
            all_goals (
              go_ret
              first
                | refine ⟨_, rfl, [] ++ [u] ++ [], Kd.N_V (base' := base) (N_of_own (own_uc HN5.out) (fun q hq => Hok.out q (Nat.le_trans Hb.out (Kd.N_base HN5.out q hq)))), ?_, ?_, HB5.out⟩
                | refine ⟨_, [] ++ [u] ++ [], rfl, Kd.N_V (base' := base) (N_of_own (own_uc HN5.out) (fun q hq => Hok.out q (Nat.le_trans Hb.out (Kd.N_base HN5.out q hq)))), ?_, ?_, HB5.out⟩
              · simp [GP.Strict]
              · simp)
end Go.Proofs.YtelibndkkokadaaGreat.GA
