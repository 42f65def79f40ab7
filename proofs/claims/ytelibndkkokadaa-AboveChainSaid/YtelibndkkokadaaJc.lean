import Derived.Test.YtelibndkkokadaaGB0
import Derived.Test.YtelibndkkokadaaJb
import Derived.Test.YtelibndkkokadaaJa
import Derived.Deep.RegionWith
import Derived.Test.YtelibndkkokadaaSqz
namespace Go.Proofs.Ytelibndkkokadaa.GA
open Go.RowKit Go.Proofs.YtelibndkkokadaaW.PrintWords Go.Proofs.YtelibndkkokadaaW.PrintLast Go.Proofs.Ytelibndkkokadaa.HandV Go.Proofs.YtelibndkkokadaaW.PrintMore
open Go.Proofs.Ytelibndkkokadaa.GB
attribute [local go_sem] max2_int min2_int max_two min_two max_three min_three max_four min_four   -- for this text's walks alone
set_option linter.unusedVariables false
set_option linter.unusedSimpArgs false
-- IMPORT .A8
-- IMPORT .A5
-- IMPORT Derived.Deep.RegionWith
def ua : U := ⟨⟨#[84]⟩, ⟨#[97]⟩⟩
def ub : U := ⟨⟨#[84]⟩, ⟨#[98]⟩⟩
def uc9 : U := ⟨⟨#[84]⟩, ⟨#[99]⟩⟩
def l9 : List En := [⟨ua, [ub], []⟩, ⟨ub, [uc9], []⟩]
theorem l9_ok : okL l9 = true := by decide +kernel
theorem l9_a : aboveF l9 ua = [ub, uc9] := by
  have h : climbF l9 (stepF l9 ua) = [uc9, ub] := by decide +kernel
  unfold aboveF
  rw [h]
  refine strict_ext _ _ (sortU_strict (by decide +kernel)) (by decide +kernel) (fun y => ?_)
  rw [(sortU_perm _).mem_iff]
  simp [or_comm]
theorem l9_i : inF l9 ua uc9 = true := by decide +kernel
theorem l9_n : inF l9 uc9 ua = false := by decide +kernel
theorem l9_C {W : World} {g gb gc : Nat} (h : W.heap[g]? = some (.cells #[.string ua.f0, .string ua.f1, .slice (some ⟨gb, 0, none⟩) 1 1, .slice none 0 0, .string ub.f0, .string ub.f1, .slice (some ⟨gc, 0, none⟩) 1 1, .slice none 0 0] 38 (0, 0)))
    (hb : W.heap[gb]? = some (.cells #[.string ub.f0, .string ub.f1] 28 (0, 0))) (hc : W.heap[gc]? = some (.cells #[.string uc9.f0, .string uc9.f1] 28 (0, 0))) : k38.C W (some ⟨g, 0, none⟩) l9.length l9 := by
  have h0 : ∀ (d : Kd S58), d.C W none 0 [] := fun d => ⟨rfl, by simp, fun h => absurd h (by simp)⟩
  refine ⟨rfl, by decide, fun _ => ⟨⟨g, 0, none⟩, rfl, fun j x hj => ?_⟩⟩
  match j with
  | 0 =>
    obtain rfl : (⟨ua, [ub], []⟩ : En) = x := by simpa [l9] using hj
    refine ⟨[.string ua.f0, .string ua.f1, .slice (some ⟨gb, 0, none⟩) 1 1, .slice none 0 0], rfl, k38_mk W ⟨ua, [ub], []⟩ (Nat.le_refl 1) (one_C hb) (Nat.le_refl 0) (h0 _), fun i u hu => ?_⟩
    rw [show (0 * k38.sz + i) = i by omega, add_plain]
    refine GT.hcellT h i u ?_
    match i, hu with
    | 0, hu => exact hu
    | 1, hu => exact hu
    | 2, hu => exact hu
    | 3, hu => exact hu
    | i + 4, hu => simp at hu
  | 1 =>
    obtain rfl : (⟨ub, [uc9], []⟩ : En) = x := by simpa [l9] using hj
    refine ⟨[.string ub.f0, .string ub.f1, .slice (some ⟨gc, 0, none⟩) 1 1, .slice none 0 0], rfl, k38_mk W ⟨ub, [uc9], []⟩ (Nat.le_refl 1) (one_C hc) (Nat.le_refl 0) (h0 _), fun i u hu => ?_⟩
    rw [show (1 * k38.sz + i) = i + 4 from Nat.add_comm 4 i, add_plain]
    refine GT.hcellT h (i + 4) u ?_
    match i, hu with
    | 0, hu => exact hu
    | 1, hu => exact hu
    | 2, hu => exact hu
    | 3, hu => exact hu
    | i + 4, hu => simp at hu
  | j + 2 => simp [l9] at hj
set_option maxRecDepth 100000 in
set_option maxHeartbeats 8000000 in
theorem known9_calls (w : World) : Calls Try.prog 13 #[] w fun e w' => e = .returned (.bool true) ∧ Below w.heap.size w w' := by
  have HA := Aside0.mk (fun A c W => above_calls0 l9 l9_ok ua A c W)
  have HI := Aside0.mk (fun (a b c d : ByteArray) (h1 : okU ⟨a, b⟩ = true) (h2 : okU ⟨c, d⟩ = true) (A : Option Addr) (n : Nat) W => in_calls0 l9 l9_ok ⟨a, b⟩ ⟨c, d⟩ h1 h2 A n W)
  go_enter Try.func13, Try.ntmps13
  go_wp2_with (first | (go_at_call 19; refine (HA.out (some ⟨w.heap.size + 5, 0, none⟩) 2 _ (by decide) (l9_C (gb := w.heap.size + 3) (gc := w.heap.size + 4) ?hl ?hb ?hc)).mono ?_; (case hl => exact GT.heap_at _ _ _ (by simp)); (case hb => exact (Below.heap_alloc _ _ _ (by simp <;> omega)).trans ((Below.heap_alloc _ _ _ (by simp <;> omega)).trans (GT.heap_at _ _ _ (by simp)))); (case hc => exact (Below.heap_alloc _ _ _ (by simp <;> omega)).trans (GT.heap_at _ _ _ (by simp))); rintro e V ⟨v, rfl, hv, hb⟩; rw [l9_a] at hv; obtain ⟨A5, c5, rfl⟩ := Kd.V_slice hv; have HEL := Aside0.mk ((Kd.V_at hv).2.2 V (fun _ _ _ => rfl)); have HB : Aside0 (Below w.heap.size w V) := ⟨below_step (by repeat (first | exact Below.refl _ _ | apply below_alloc)) hb⟩; have HXa : Aside0 (V.heap[w.heap.size]? = some (.cells #[.string ⟨#[84]⟩, .string ⟨#[97]⟩] 28 (0, 0))) := ⟨(hb.block _ (by simp <;> omega)).trans ((Below.heap_alloc _ _ _ (by simp <;> omega)).trans ((Below.heap_alloc _ _ _ (by simp <;> omega)).trans ((Below.heap_alloc _ _ _ (by simp <;> omega)).trans ((Below.heap_alloc _ _ _ (by simp <;> omega)).trans ((Below.heap_alloc _ _ _ (by simp <;> omega)).trans (GT.heap_at _ _ _ (by simp)))))))⟩; have HXb : Aside0 (V.heap[w.heap.size + 1]? = some (.cells #[.string ⟨#[84]⟩, .string ⟨#[98]⟩] 28 (0, 0))) := ⟨(hb.block _ (by simp <;> omega)).trans ((Below.heap_alloc _ _ _ (by simp <;> omega)).trans ((Below.heap_alloc _ _ _ (by simp <;> omega)).trans ((Below.heap_alloc _ _ _ (by simp <;> omega)).trans ((Below.heap_alloc _ _ _ (by simp <;> omega)).trans (GT.heap_at _ _ _ (by simp))))))⟩; have HXc : Aside0 (V.heap[w.heap.size + 2]? = some (.cells #[.string ⟨#[84]⟩, .string ⟨#[99]⟩] 28 (0, 0))) := ⟨(hb.block _ (by simp <;> omega)).trans ((Below.heap_alloc _ _ _ (by simp <;> omega)).trans ((Below.heap_alloc _ _ _ (by simp <;> omega)).trans ((Below.heap_alloc _ _ _ (by simp <;> omega)).trans (GT.heap_at _ _ _ (by simp)))))⟩; have HL : Aside0 (k38.C V (some ⟨w.heap.size + 5, 0, none⟩) l9.length l9) := ⟨Kd.C_below (l9_C (gb := w.heap.size + 3) (gc := w.heap.size + 4) (GT.heap_at _ _ _ (by simp)) ((Below.heap_alloc _ _ _ (by simp <;> omega)).trans ((Below.heap_alloc _ _ _ (by simp <;> omega)).trans (GT.heap_at _ _ _ (by simp)))) ((Below.heap_alloc _ _ _ (by simp <;> omega)).trans (GT.heap_at _ _ _ (by simp)))) hb⟩; clear hv hb))
  obtain ⟨ad, rfl, c0, c1⟩ := at_T28 HEL.out 0 (by decide) (by decide)
  obtain ⟨ad2, he2, c2, c3⟩ := at_T28 HEL.out 1 (by decide) (by decide)
  obtain rfl := Option.some.inj he2
  have hz : ad.add ((0 : Int).toNat * 2) = ad := rfl
  have ho : ad.add ((1 : Int).toNat * 2) = ⟨ad.block, ad.off + 2, none⟩ := by simp [Addr.add]
  rw [hz] at c0 c1
  rw [ho] at c2 c3
  have i0 : V.cell? ad = some (.string ⟨#[84]⟩) := c0
  have i1 : V.cell? ⟨ad.block, ad.off + 1, none⟩ = some (.string ⟨#[98]⟩) := c1
  have i2 : V.cell? ⟨ad.block, ad.off + 2, none⟩ = some (.string ⟨#[84]⟩) := c2
  have i3 : V.cell? ⟨ad.block, ad.off + 2 + 1, none⟩ = some (.string ⟨#[99]⟩) := c3
  clear c0 c1 c2 c3 he2 hz ho HEL HA
  have e1 : inF l9 ⟨⟨#[84]⟩, ⟨#[97]⟩⟩ ⟨⟨#[84]⟩, ⟨#[99]⟩⟩ = true := l9_i
  have e2 : inF l9 ⟨⟨#[84]⟩, ⟨#[99]⟩⟩ ⟨⟨#[84]⟩, ⟨#[97]⟩⟩ = false := l9_n
  have YA : ∀ W, Below V.heap.size V W → W.heap[w.heap.size]? = some (.cells #[.string ⟨#[84]⟩, .string ⟨#[97]⟩] 28 (0, 0)) := fun W hW => (hW.block _ (GT.lt_of_heapT HXa.out)).trans HXa.out
  have YB : ∀ W, Below V.heap.size V W → W.heap[w.heap.size + 1]? = some (.cells #[.string ⟨#[84]⟩, .string ⟨#[98]⟩] 28 (0, 0)) := fun W hW => (hW.block _ (GT.lt_of_heapT HXb.out)).trans HXb.out
  have YC : ∀ W, Below V.heap.size V W → W.heap[w.heap.size + 2]? = some (.cells #[.string ⟨#[84]⟩, .string ⟨#[99]⟩] 28 (0, 0)) := fun W hW => (hW.block _ (GT.lt_of_heapT HXc.out)).trans HXc.out
  have HYA := Aside0.mk YA
  have HYC := Aside0.mk YC
  have a0 : V.cell? ⟨w.heap.size, 0, none⟩ = some (.string ⟨#[84]⟩) := GT.hcellT HXa.out 0 _ rfl
  have a1 : V.cell? ⟨w.heap.size, 1, none⟩ = some (.string ⟨#[97]⟩) := GT.hcellT HXa.out 1 _ rfl
  have b0 : V.cell? ⟨w.heap.size + 1, 0, none⟩ = some (.string ⟨#[84]⟩) := GT.hcellT HXb.out 0 _ rfl
  have b1 : V.cell? ⟨w.heap.size + 1, 1, none⟩ = some (.string ⟨#[98]⟩) := GT.hcellT HXb.out 1 _ rfl
  have d0 : V.cell? ⟨w.heap.size + 1 + 1, 0, none⟩ = some (.string ⟨#[84]⟩) := GT.hcellT HXc.out 0 _ rfl
  have d1 : V.cell? ⟨w.heap.size + 1 + 1, 1, none⟩ = some (.string ⟨#[99]⟩) := GT.hcellT HXc.out 1 _ rfl
  have HI1 : Aside0 (∀ W, Below V.heap.size V W → Calls Try.prog 16 #[.slice (some ⟨w.heap.size + 1 + 1 + 1 + 1 + 1, 0, none⟩) 2 2, .agg #[.string ⟨#[84]⟩, .string ⟨#[97]⟩], .agg #[.string ⟨#[84]⟩, .string ⟨#[99]⟩]] W fun e w' => e = .returned (.bool true) ∧ Below V.heap.size V w') := ⟨fun W hW => by
    have h := HI.out ⟨#[84]⟩ ⟨#[97]⟩ ⟨#[84]⟩ ⟨#[99]⟩ (by decide +kernel) (by decide +kernel) (some ⟨w.heap.size + 1 + 1 + 1 + 1 + 1, 0, none⟩) 2 W (by decide) (Kd.C_below HL.out hW)
    rw [e1] at h
    exact h.mono fun e w' ⟨h1, h2⟩ => ⟨h1, below_step hW h2⟩⟩
  have HI2 : Aside0 (∀ W, Below V.heap.size V W → Calls Try.prog 16 #[.slice (some ⟨w.heap.size + 1 + 1 + 1 + 1 + 1, 0, none⟩) 2 2, .agg #[.string ⟨#[84]⟩, .string ⟨#[99]⟩], .agg #[.string ⟨#[84]⟩, .string ⟨#[97]⟩]] W fun e w' => e = .returned (.bool false) ∧ Below V.heap.size V w') := ⟨fun W hW => by
    have h := HI.out ⟨#[84]⟩ ⟨#[99]⟩ ⟨#[84]⟩ ⟨#[97]⟩ (by decide +kernel) (by decide +kernel) (some ⟨w.heap.size + 1 + 1 + 1 + 1 + 1, 0, none⟩) 2 W (by decide) (Kd.C_below HL.out hW)
    rw [e2] at h
    exact h.mono fun e w' ⟨h1, h2⟩ => ⟨h1, below_step hW h2⟩⟩
  clear YA YB YC HI HL HXa HXb HXc e1 e2
  have E0 := GT.eq28run
  go_region_with (first | (go_at_call 16; with_reducible refine (HI1.out _ ?hA).mono ?_; (case hA => repeat (first | exact Below.refl _ _ | apply below_drew1)); rintro e w1 ⟨rfl, hB1⟩; have HB1 := Aside0.mk hB1; have ya0 : w1.cell? ⟨w.heap.size, 0, none⟩ = some (.string ⟨#[84]⟩) := GT.hcellT (HYA.out w1 hB1) 0 _ rfl; have ya1 : w1.cell? ⟨w.heap.size, 1, none⟩ = some (.string ⟨#[97]⟩) := GT.hcellT (HYA.out w1 hB1) 1 _ rfl; have yc0 : w1.cell? ⟨w.heap.size + 1 + 1, 0, none⟩ = some (.string ⟨#[84]⟩) := GT.hcellT (HYC.out w1 hB1) 0 _ rfl; have yc1 : w1.cell? ⟨w.heap.size + 1 + 1, 1, none⟩ = some (.string ⟨#[99]⟩) := GT.hcellT (HYC.out w1 hB1) 1 _ rfl; clear hB1) | (go_at_call 16; with_reducible refine (HI2.out _ ?hA).mono ?_; (case hA => repeat (first | exact HB1.out | exact Below.refl _ _ | apply below_drew1)); rintro e w1 ⟨rfl, hB2⟩; have HB2 := Aside0.mk hB2; clear hB2))
  all_goals (go_wp2; go_ret; exact ⟨rfl, below_step HB.out HB2.out⟩)
end Go.Proofs.Ytelibndkkokadaa.GA
namespace Go.Proofs.Ytelibndkkokadaa.GB
open Go.RowKit Go.Proofs.YtelibndkkokadaaW.PrintWords Go.Proofs.YtelibndkkokadaaW.PrintLast Go.Proofs.Ytelibndkkokadaa.HandV Go.Proofs.YtelibndkkokadaaW.PrintMore
attribute [local go_sem] max2_int min2_int max_two min_two max_three min_three max_four min_four   -- for this text's walks alone
set_option linter.unusedVariables false
set_option linter.unusedSimpArgs false

attribute [local go_sem high] eqA28
/-! ### chancellaw9_known: function 13, given -/
def chancellaw9_known.f : Option (Bool) := some true
theorem chancellaw9_known.calls (r : Bool) (w : World) (h : chancellaw9_known.f = some r) :
  Calls Try.prog 13 #[] w fun e w' => e = .returned (.bool r) ∧ Below w.heap.size w w' := by
 cases h
 exact GA.known9_calls w

end Go.Proofs.Ytelibndkkokadaa.GB
