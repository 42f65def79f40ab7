import Derived.Test.YtelibndkkokadaaGB0
import Derived.Test.YtelibndkkokadaaA2
import Derived.Test.YtelibndkkokadaaGB14
namespace Go.Proofs.Ytelibndkkokadaa.GA
open Go.RowKit Go.Proofs.YtelibndkkokadaaW.PrintWords Go.Proofs.YtelibndkkokadaaW.PrintLast Go.Proofs.Ytelibndkkokadaa.HandV Go.Proofs.YtelibndkkokadaaW.PrintMore
open Go.Proofs.Ytelibndkkokadaa.GB
attribute [local go_sem] max2_int min2_int max_two min_two max_three min_three max_four min_four   -- for this text's walks alone
set_option linter.unusedVariables false
set_option linter.unusedSimpArgs false
-- IMPORT .A2
-- IMPORT .GB14
theorem find_is (l : List En) (hl : okL l = true) (u : U) : ∃ r1 r2 r4, ents_Find.f l u.f0 u.f1 = some (r1, r2, stepF l u, r4, GT.atB l u.f0 u.f1) := by
  have h1 := okL_len hl
  have hat : ents_at.f l u.f0 u.f1 = some (((GT.atI l u.f0 u.f1 : Nat) : Int), GT.atB l u.f0 u.f1) := by unfold ents_at.f; rw [if_pos (by omega)]
  unfold ents_Find.f
  rw [hat, Option.bind_some]
  cases hb : GT.atB l u.f0 u.f1 with
  | false => exact ⟨_, _, _, by rw [if_neg (by simp)]; simp only [stepF, hb]; rfl⟩
  | true =>
    obtain ⟨e, he, rfl⟩ := atB_some hb
    have hlt : GT.atI l e.f0.f0 e.f0.f1 < l.length := GT.atB_lt hb
    have hrd : rd_T38 l ((GT.atI l e.f0.f0 e.f0.f1 : Nat) : Int) = e := by
      unfold rd_T38
      rw [Int.toNat_natCast, List.getD_eq_getElem?_getD, he]; rfl
    have hm : e ∈ l := List.mem_of_getElem? he
    rw [if_pos rfl, if_pos (by omega), if_pos (by omega), hrd]
    refine ⟨e.f0.f0, e.f0.f1, e.f2, ?_⟩
    unfold ents_twin.f
    rw [if_pos (okL_mem hl hm).2.2.1]
    simp only [stepF, hb, if_true, he]
    rfl
theorem find_calls (l : List En) (hl : okL l = true) (u : U) (A : Option Addr) (c : Nat) (w : World) (hc : l.length ≤ c) (hC : k38.C w A l.length l) :
    Calls Try.prog 35 #[.slice A l.length c, .agg #[.string u.f0, .string u.f1]] w fun e w' => ∃ (r1 r2 : ByteArray) (r4 : List S58) (v2 v3 : Value), e = .returned (.tuple #[.agg #[.string r1, .string r2, v2, v3], .bool (GT.atB l u.f0 u.f1)]) ∧ Kd.V k28 28 w' w.heap.size (fun q => w.heap.size ≤ q) v2 (stepF l u) ∧ Kd.V k58 58 w' w.heap.size (fun q => w.heap.size ≤ q) v3 r4 ∧ Below w.heap.size w w' := by
  obtain ⟨r1, r2, r4, h⟩ := find_is l hl u
  exact (ents_Find.calls A c l u.f0 u.f1 r1 r2 _ r4 _ w hC hc h).mono fun e w' ⟨v2, v3, he, h2, h3, hb⟩ => ⟨r1, r2, r4, v2, v3, he, h2, h3, hb⟩
/-- A row of uids of its own from its clone. -/
theorem clone_N {w w' : World} {okS : Nat → Prop} {xs : List U} {v : Value} (h : GT.CloneOk k28 28 w okS xs v w') : Kd.N k28 28 w' w.heap.size (fun q => w.heap.size ≤ q) v xs := by
  rcases h with ⟨rfl, hN⟩ | ⟨g, cap, rfl, hn, ht⟩
  · exact hN
  · have h1 := ht (fun _ => False)
    have hb := h1.block.1
    have h2 : GT.Tw k28 28 w' w.heap.size g xs.length cap xs xs.length (fun _ => False) (fun q => okS q ∧ q < w.heap.size) := by
      obtain ⟨hx, inner, ho, hf⟩ := h1
      refine ⟨hx, inner, ho, fun j x hj => ?_⟩
      have hF := Kd.FK_now (hf j x hj)
      rw [k28_open hF]
      exact k28_mkF w' _ x
    exact Kd.N_mono h2.to_N (fun q hq => by rcases hq with hq | hq; exact hq.elim; omega)
theorem ends (L : List U) : L = [] ∨ ∃ L0 u, L = L0 ++ [u] := by
  rcases List.eq_nil_or_concat L with h | ⟨L0, u, h⟩
  · exact .inl h
  · exact .inr ⟨L0, u, by rw [h]; simp⟩
/-- The last one of an own row. -/
theorem N_last {w : World} {base : Nat} {ok : Nat → Prop} {v : Value} {L0 : List U} {u : U} (h : Kd.N k28 28 w base ok v (L0 ++ [u])) : ∃ g cap, v = .slice (some ⟨g, 0, none⟩) (L0.length + 1) cap ∧ base ≤ g ∧ g < w.heap.size ∧ ok g ∧ L0.length + 1 ≤ cap ∧ w.cell? ⟨g, L0.length * 2, none⟩ = some (.string u.f0) ∧ w.cell? ⟨g, L0.length * 2 + 1, none⟩ = some (.string u.f1) ∧ Kd.N k28 28 w base ok (.slice (some ⟨g, 0, none⟩) L0.length cap) L0 := by
  have ho := own_uc h
  have hok := h.1
  have hl : (L0 ++ [u]).length = L0.length + 1 := by simp
  have hu : uc (L0 ++ [u]) = uc L0 ++ [.string u.f0, .string u.f1] := by rw [uc_append]; rfl
  rw [hl] at ho
  obtain ⟨hlen, ⟨_, h0⟩ | ⟨g, cap, cur, rfl, hb, hh, hnc, hcm, hcs, htk⟩⟩ := ho
  · omega
  have hget : ∀ i, i < (L0.length + 1) * 2 → cur.toList[i]? = (uc L0 ++ [.string u.f0, .string u.f1])[i]? := by
    intro i hi
    rw [← hu, ← htk, List.getElem?_take_of_lt hi]
  have hlu := uc_len L0
  refine ⟨g, cap, rfl, hb, GT.lt_of_heapT hh, hok g rfl, hnc, ?_, ?_, ?_⟩
  · refine GT.hcellT hh _ _ ?_
    have := hget (L0.length * 2) (by omega)
    rw [List.getElem?_append_right (by omega), hlu, Nat.sub_self] at this
    simpa using this
  · refine GT.hcellT hh _ _ ?_
    have := hget (L0.length * 2 + 1) (by omega)
    rw [List.getElem?_append_right (by omega), hlu, Nat.add_sub_cancel_left] at this
    simpa using this
  · refine N_of_own ⟨hlu, .inr ⟨g, cap, cur, rfl, hb, hh, by omega, hcm, hcs, ?_⟩⟩ hok
    have := congrArg (List.take (L0.length * 2)) htk
    rw [hu, List.take_take, Nat.min_eq_left (by omega)] at this
    rw [this]
    exact List.take_left' hlu
theorem climbR_met {step : U → List U} {n : Nat} {L0 M : List U} {u : U} (h : u ∈ M) : climbR step (n + 1) (L0 ++ [u]) M = climbR step n L0 M := by
  rw [climbR, List.getLast?_concat]
  dsimp only
  rw [if_pos h, List.dropLast_concat]
theorem climbR_new {step : U → List U} {n : Nat} {L0 M : List U} {u : U} (h : u ∉ M) : climbR step (n + 1) (L0 ++ [u]) M = climbR step n (L0 ++ step u) (u :: M) := by
  rw [climbR, List.getLast?_concat]
  dsimp only
  rw [if_neg h, List.dropLast_concat]
theorem climbR_end {step : U → List U} (n : Nat) {M : List U} : climbR step n [] M = M := by cases n <;> rfl
end Go.Proofs.Ytelibndkkokadaa.GA
