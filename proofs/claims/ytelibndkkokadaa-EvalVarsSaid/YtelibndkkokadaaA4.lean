import Derived.Test.YtelibndkkokadaaGB0
import Derived.Test.YtelibndkkokadaaA3
import Derived.Deep.LoopGhost
namespace Go.Proofs.Ytelibndkkokadaa.GA
open Go.RowKit Go.Proofs.YtelibndkkokadaaW.PrintWords Go.Proofs.YtelibndkkokadaaW.PrintLast Go.Proofs.Ytelibndkkokadaa.HandV Go.Proofs.YtelibndkkokadaaW.PrintMore
open Go.Proofs.Ytelibndkkokadaa.GB
attribute [local go_sem] max2_int min2_int max_two min_two max_three min_three max_four min_four   -- for this text's walks alone
set_option linter.unusedVariables false
set_option linter.unusedSimpArgs false
-- IMPORT .A3
-- IMPORT Derived.Deep.LoopGhost
theorem own_below {w w1 : World} {b n : Nat} {D : DataW Unit} (h : w.ownsMap Try.prog 28 (plainElem Try.prog 4) b n D) (hb : Below w.heap.size w w1) : w1.ownsMap Try.prog 28 (plainElem Try.prog 4) b n D :=
  h.kept (row := none) ⟨hb.os, hb.tape, hb.output, hb.size, fun i hi _ => hb.block i hi⟩ (by simp)
/-- What stands at the head of a round. -/
def Cl (l : List En) (R : List U) (N : Nat) (w wr : World) (v : Value) (g : Nat) : Prop :=
  ∃ L M, Kd.N k28 28 wr w.heap.size (fun q => w.heap.size + 1 ≤ q) v L ∧ wr.ownsMap Try.prog 28 (plainElem Try.prog 4) w.heap.size M.length (setD M) ∧ Below w.heap.size w wr ∧ w.heap.size < wr.heap.size ∧ L.length + wt (pairs l) M ≤ g ∧ M.length + g ≤ N ∧ climbR (stepF l) g L M = R ∧ (∀ x ∈ L, okU x = true) ∧ (∀ x ∈ M, okU x = true)
set_option maxRecDepth 100000 in
set_option maxHeartbeats 8000000 in
theorem climb_calls (l : List En) (hl : okL l = true) (fr : List U) (hf : ∀ x ∈ fr, okU x = true) (hfl : fr.length ≤ 1000) (A : Option Addr) (c : Nat) (A2 : Option Addr) (c2 : Nat) (w : World) (hc : l.length ≤ c) (hC : k38.C w A l.length l) (hc2 : fr.length ≤ c2) (hC2 : k28.C w A2 fr.length fr) :
    Calls Try.prog 47 #[.slice A l.length c, .slice A2 fr.length c2] w fun e w' => ∃ b n, e = .returned (.map (some b)) ∧ w.heap.size ≤ b ∧ n ≤ 1000000 ∧ w'.ownsMap Try.prog 28 (plainElem Try.prog 4) b n (setD (climbF l fr)) ∧ (∀ x ∈ climbF l fr, okU x = true) ∧ Below w.heap.size w w' := by
  have HL := Aside0.mk hl
  have HC := Aside0.mk hC
  have HC2 := Aside0.mk hC2
  have Hc := Aside0.mk hc
  have Hc2 := Aside0.mk hc2
  have HF := Aside0.mk hf
  have HFL := Aside0.mk hfl
  have HM := Aside0.mk (most_le hl hfl)
  obtain ⟨R, hR⟩ : ∃ R, climbF l fr = R := ⟨_, rfl⟩
  have HR : Aside0 (climbR (stepF l) (most l fr) fr [] = R) := ⟨hR⟩
  rw [hR]
  clear hR hl hC hC2 hc hc2 hf hfl
  have hmm := @run_makeMap Try.prog
  go_enter Try.func47, Try.ntmps47
  go_wp2_with (first | (go_at_call 75; refine (GT.cloneUid fr A2 c2 _ Hc2.out (by have := HFL.out; omega) _ (Kd.F_below (Kd.C_F k28_heap HC2.out) (by repeat (first | exact Below.refl _ _ | apply below_alloc)))).mono ?_; rintro e w1 ⟨v, rfl, hcl, hb⟩; have HN : Aside0 (Kd.N k28 28 w1 w.heap.size (fun q => w.heap.size + 1 ≤ q) v fr) := ⟨Kd.N_lower (by simpa using clone_N hcl) (by simp)⟩; have HO : Aside0 (w1.ownsMap Try.prog 28 (plainElem Try.prog 4) w.heap.size 0 (setD [])) := ⟨own_below (World.ownsMap_made w _ _ _) hb⟩; have HB : Aside0 (Below w.heap.size w w1) := ⟨below_step (by repeat (first | exact Below.refl _ _ | apply below_alloc)) hb⟩; have HS : Aside0 (w.heap.size < w1.heap.size) := ⟨by have := hb.size; simp at this; omega⟩; clear hcl hb))
  go_loopg [6] (most l fr) (fun g v wr => Cl l R (most l fr) w wr v g)
  case atStart => exact ⟨fr, [], HN.out, HO.out, HB.out, HS.out, Nat.le_refl _, by simp, HR.out, HF.out, by simp⟩
  case round =>
    obtain ⟨L, M, hN, hO, hB, hS, hw, hM, hr, hL, hMo⟩ := hrel
    clear HN HO HB HS HR hmm
    rcases ends L with rfl | ⟨L0, u, rfl⟩
    · obtain ⟨A6, c6, rfl⟩ := Kd.N_slice hN
      rw [climbR_end] at hr
      subst hr
      have HO := Aside0.mk hO
      have HB := Aside0.mk hB
      have HMo := Aside0.mk hMo
      have HMM : Aside0 (M.length ≤ 1000000) := ⟨by have := HM.out; omega⟩
      clear hN hO hB hS hw hM hL hMo
      go_wp2
      go_ret
      exact ⟨_, _, rfl, Nat.le_refl _, HMM.out, HO.out, HMo.out, HB.out⟩
    · obtain ⟨g0, cap, rfl, _, hgl, hgb, hcap, q0, q1, hN0⟩ := N_last hN
      have hlen : L0.length ≤ 1000000 := by have := HM.out; simp at hw; omega
      have p0 : (0 ≤ (L0.length : Int)) = True := eq_true (by omega)
      have p1 : ((L0.length : Int) < (L0.length : Int) + 1) = True := eq_true (by omega)
      have p2 : (0 < (L0.length : Int) + 1) = True := eq_true (by omega)
      have p3 : wrap64 ((L0.length : Int) + 1 - 1) = (L0.length : Int) := by unfold wrap64; omega
      have hu : okU u = true := hL u (by simp)
      have HO := Aside0.mk hO
      have HN0 := Aside0.mk hN0
      have HB := Aside0.mk hB
      have HS := Aside0.mk hS
      have HMo := Aside0.mk hMo
      have HLo : Aside0 (∀ x ∈ L0, okU x = true) := ⟨fun x hx => hL x (by simp [hx])⟩
      have Hu := Aside0.mk hu
      have Hw : Aside0 (L0.length + 1 + wt (pairs l) M ≤ gk) := ⟨by simpa using hw⟩
      have HMg := Aside0.mk hM
      have Hr := Aside0.mk hr
      have Hgb := Aside0.mk hgb
      clear hN hO hN0 hB hS hMo hL hu hw hM hr hgb
      obtain ⟨g1, rfl⟩ : ∃ g1, gk = g1 + 1 := ⟨gk - 1, by have := Hw.out; omega⟩
      by_cases hm : u ∈ M
      · have hdm : decide (u ∈ M) = true := decide_eq_true hm
        have Hm := Aside0.mk hm
        clear hm
        go_wp2_with (first | (at_lookup; refine look_set _ rfl _ _ rfl w.heap.size M.length M HMo.out rfl (HO.out.alloc _) u Hu.out rfl ?_; rw [hdm]))
        go_roundg g1
        case rel =>
          refine ⟨L0, M, Kd.N_alloc HN0.out _, HO.out.alloc _, below_alloc HB.out _, by have := HS.out; simp; omega, by have := Hw.out; omega, by have := HMg.out; omega, ?_, HLo.out, HMo.out⟩
          rw [← Hr.out, climbR_met Hm.out]
        case measure => omega
      · have hdm : decide (u ∈ M) = false := decide_eq_false hm
        have Hm := Aside0.mk hm
        clear hm
        have HFI := Aside0.mk (find_calls l HL.out u A c)
        cases hb0 : GT.atB l u.f0 u.f1 with
        | false =>
          rw [hb0] at HFI
          have Hst : Aside0 (stepF l u = []) := ⟨by unfold stepF; rw [hb0]; rfl⟩
          clear hb0
          go_wp2_with (first | (at_lookup; refine look_set _ rfl _ _ rfl w.heap.size M.length M HMo.out rfl (HO.out.alloc _) u Hu.out rfl ?_; rw [hdm]) | (at_mapUpdate; refine put_set _ rfl _ _ _ rfl w.heap.size M.length M rfl (HO.out.alloc _) (by have := HMg.out; have := HM.out; omega) u Hu.out rfl rfl ?_; intro w1 hO1 hg1; have HO1 := Aside0.mk hO1; have HB1 : Aside0 (Below w.heap.size w w1) := ⟨(below_alloc HB.out _).grown hg1 (by have := HS.out; simp; omega) (fun j hj => by cases hj; exact Nat.le_refl _)⟩; have HN1 : Aside0 (Kd.N k28 28 w1 w.heap.size (fun q => w.heap.size + 1 ≤ q) (.slice (some ⟨g0, 0, none⟩) L0.length cap) L0) := ⟨Kd.N_step (Kd.N_alloc HN0.out _) (fun q hq hlt => hg1.block q hlt (by simp; omega))⟩; have hX1 : w1.heap[wr.heap.size]? = some (.cells #[.string u.f0, .string u.f1] 28 (0, 0)) := (hg1.block _ (by simp) (by have := HS.out; simp; omega)).trans (blk_new _ _); have q7 : w1.cell? ⟨wr.heap.size, 0, none⟩ = some (.string u.f0) := GT.hcellT hX1 0 _ rfl; have q8 : w1.cell? ⟨wr.heap.size, 1, none⟩ = some (.string u.f1) := GT.hcellT hX1 1 _ rfl; have HS1 : Aside0 (w.heap.size < w1.heap.size) := ⟨by have := HS.out; have := hg1.size; simp at this; omega⟩; have hgl1 : g0 < w1.heap.size := (by have := hg1.size; simp at this; omega); clear hO1 hg1 hX1 HO HB HN0 HS q0 q1) | (go_at_call 35; refine (HFI.out _ Hc.out (Kd.C_below HC.out HB1.out)).mono ?_; rintro e w2 ⟨r1, r2, r4, v2, v3, rfl, hv2, hv3, hb⟩; obtain ⟨B2, d2, rfl⟩ := Kd.V_slice hv2; obtain ⟨B3, d3, rfl⟩ := Kd.V_slice hv3; have HV2 := Aside0.mk hv2; have HO2 := Aside0.mk (own_below HO1.out hb); have HN2 := Aside0.mk (Kd.N_below HN1.out hb); have HB2 : Aside0 (Below w.heap.size w w2) := ⟨below_step HB1.out hb⟩; have HS2 : Aside0 (w.heap.size < w2.heap.size) := ⟨Nat.lt_of_lt_of_le HS1.out hb.size⟩; have HSS : Aside0 (w.heap.size < w1.heap.size) := ⟨HS1.out⟩; clear hv2 hv3 hb HO1 HN1 HB1 HS1 q7 q8))
          go_roundg g1
          case rel =>
            refine ⟨L0, u :: M, Kd.N_alloc HN2.out _, HO2.out.alloc _, below_alloc HB2.out _, by have := HS2.out; simp; omega, ?_, by have := HMg.out; simp; omega, ?_, HLo.out, ?_⟩
            · have h1 := wt_step (stepF_in l) M u Hm.out
              have := Hw.out
              omega
            · rw [← Hr.out, climbR_new Hm.out, Hst.out, List.append_nil]
            · intro x hx
              rcases List.mem_cons.1 hx with rfl | hx
              · exact Hu.out
              · exact HMo.out x hx
          case measure => omega
        | true =>
          rw [hb0] at HFI
          clear hb0
          have Hsl : Aside0 ((L0.length + (stepF l u).length) * 32 ≤ 140737488355328) := ⟨by have h1 := wt_step (stepF_in l) M u Hm.out; have := Hw.out; have := HMg.out; have := HM.out; omega⟩
          go_wp2_with (first | (at_lookup; refine look_set _ rfl _ _ rfl w.heap.size M.length M HMo.out rfl (HO.out.alloc _) u Hu.out rfl ?_; rw [hdm]) | (at_mapUpdate; refine put_set _ rfl _ _ _ rfl w.heap.size M.length M rfl (HO.out.alloc _) (by have := HMg.out; have := HM.out; omega) u Hu.out rfl rfl ?_; intro w1 hO1 hg1; have HO1 := Aside0.mk hO1; have HB1 : Aside0 (Below w.heap.size w w1) := ⟨(below_alloc HB.out _).grown hg1 (by have := HS.out; simp; omega) (fun j hj => by cases hj; exact Nat.le_refl _)⟩; have HN1 : Aside0 (Kd.N k28 28 w1 w.heap.size (fun q => w.heap.size + 1 ≤ q) (.slice (some ⟨g0, 0, none⟩) L0.length cap) L0) := ⟨Kd.N_step (Kd.N_alloc HN0.out _) (fun q hq hlt => hg1.block q hlt (by simp; omega))⟩; have hX1 : w1.heap[wr.heap.size]? = some (.cells #[.string u.f0, .string u.f1] 28 (0, 0)) := (hg1.block _ (by simp) (by have := HS.out; simp; omega)).trans (blk_new _ _); have q7 : w1.cell? ⟨wr.heap.size, 0, none⟩ = some (.string u.f0) := GT.hcellT hX1 0 _ rfl; have q8 : w1.cell? ⟨wr.heap.size, 1, none⟩ = some (.string u.f1) := GT.hcellT hX1 1 _ rfl; have HS1 : Aside0 (w.heap.size < w1.heap.size) := ⟨by have := HS.out; have := hg1.size; simp at this; omega⟩; have hgl1 : g0 < w1.heap.size := (by have := hg1.size; simp at this; omega); clear hO1 hg1 hX1 HO HB HN0 HS q0 q1) | (go_at_call 35; refine (HFI.out _ Hc.out (Kd.C_below HC.out HB1.out)).mono ?_; rintro e w2 ⟨r1, r2, r4, v2, v3, rfl, hv2, hv3, hb⟩; obtain ⟨B2, d2, rfl⟩ := Kd.V_slice hv2; obtain ⟨B3, d3, rfl⟩ := Kd.V_slice hv3; have HV2 := Aside0.mk hv2; have HO2 := Aside0.mk (own_below HO1.out hb); have HN2 := Aside0.mk (Kd.N_below HN1.out hb); have HB2 : Aside0 (Below w.heap.size w w2) := ⟨below_step HB1.out hb⟩; have HS2 : Aside0 (w.heap.size < w2.heap.size) := ⟨Nat.lt_of_lt_of_le HS1.out hb.size⟩; have HSS : Aside0 (w.heap.size < w1.heap.size) := ⟨HS1.out⟩; clear hv2 hv3 hb HO1 HN1 HB1 HS1 q7 q8) | (at_builtin; refine Kd.N_append_rows k28 (w0 := w) w.heap.size rfl (.tmp 39) (.tmp 41) 30 28 (.agg #[(.string ⟨#[]⟩), (.string ⟨#[]⟩)]) 32 rfl Try.underlying30 info28 rfl (by decide) (by omega) (.slice (some ⟨g0, 0, none⟩) L0.length cap) L0 (stepF l u) B2 (stepF l u).length d2 (fun q => w.heap.size + 1 ≤ q) (fun q => w1.heap.size ≤ q) rfl rfl ?aO ?aR ?aP ?aF ?aB ?aS ?aL ?_; (case aO => exact Kd.N_alloc HN2.out _); (case aR => exact Kd.V_F (Kd.V_alloc HV2.out _)); (case aP => intro q hq; have := HSS.out; have := hgl1; refine ⟨by omega, ?_⟩; simp [Value.ownBlock]; omega); (case aF => intro q hq; have := HS2.out; simp at hq; omega); (case aB => exact below_alloc HB2.out _); (case aS => have := HS2.out; simp; omega); (case aL => exact Hsl.out); intro v1 w3 hN3 hB3 hg3 hat3; have HN3 := Aside0.mk hN3; have HB3 := Aside0.mk hB3; have HO3 := Aside0.mk ((HO2.out.alloc _).kept hg3 (by simp [Value.ownBlock]; have := Hgb.out; omega)); have HS3 : Aside0 (w.heap.size < w3.heap.size) := ⟨by have := hg3.size; have := HS2.out; simp at *; omega⟩; clear hN3 hB3 hg3 hat3))
          go_roundg g1
          case rel =>
            refine ⟨L0 ++ stepF l u, u :: M, HN3.out, HO3.out, HB3.out, HS3.out, ?_, by have := HMg.out; simp; omega, ?_, ?_, ?_⟩
            · have h1 := wt_step (stepF_in l) M u Hm.out
              have := Hw.out
              rw [List.length_append]
              omega
            · rw [← Hr.out, climbR_new Hm.out]
            · intro x hx
              rcases List.mem_append.1 hx with hx | hx
              · exact HLo.out x hx
              · exact stepF_ok HL.out u x hx
            · intro x hx
              rcases List.mem_cons.1 hx with rfl | hx
              · exact Hu.out
              · exact HMo.out x hx
          case measure => omega
end Go.Proofs.Ytelibndkkokadaa.GA
