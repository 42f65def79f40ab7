import Derived.Test.YtelibndkkokadaaGreatGB0
import Derived.Test.YtelibndkkokadaaGreatA10
import Derived.Deep.LoopGhost
import Derived.Test.YtelibndkkokadaaGreatGB8
namespace Go.Proofs.YtelibndkkokadaaGreat.GA
open Go.RowKit Go.Proofs.YtelibndkkokadaaGreatW.PrintWords Go.Proofs.YtelibndkkokadaaGreatW.PrintLast Go.Proofs.YtelibndkkokadaaGreat.HandV Go.Proofs.YtelibndkkokadaaGreatW.PrintMore
open Go.Proofs.YtelibndkkokadaaGreat.GB
attribute [local go_sem] max2_int min2_int max_two min_two max_three min_three max_four min_four   -- for this text's walks alone
set_option linter.unusedVariables false
set_option linter.unusedSimpArgs false
-- IMPORT .A10
-- FN chancelref8_Find
-- IMPORT Derived.Deep.LoopGhost
open GP (rstepF Strict)
theorem rstepF_in (l : List En) (u : U) : rstepF l u = [] ∨ (u, rstepF l u) ∈ pairs l := by
  unfold rstepF
  cases h : l.find? (fun e => decide (e.f0 = u)) with
  | none => exact .inl rfl
  | some e =>
    have h1 := List.find?_some h
    have h2 : e.f0 = u := by simpa using h1
    exact .inr (List.mem_map.2 ⟨e, List.mem_of_find?_eq_some h, by rw [h2]⟩)
def univ (l : List En) : List U := (l.map fun e => e.f1).flatten
theorem univ_len {l : List En} (h : okL l = true) : (univ l).length ≤ 998000 := by
  have h1 : ∀ (m : List En), (∀ e ∈ m, e.f1.length ≤ 1000) → (univ m).length ≤ 1000 * m.length := by
    intro m
    induction m with
    | nil => intro _; simp [univ]
    | cons e m ih =>
      intro hm
      have h2 := ih (fun x hx => hm x (List.mem_cons_of_mem _ hx))
      have h3 := hm e (List.mem_cons_self ..)
      simp only [univ, List.map_cons, List.flatten_cons, List.length_append, List.length_cons] at h2 ⊢
      omega
  have h4 := h1 l (fun e he => (okL_mem h he).2.2.2)
  have h5 := okL_len h
  omega
theorem rstepF_univ (l : List En) (u : U) : ∀ p ∈ rstepF l u, p ∈ univ l := by
  intro p hp
  rcases rstepF_in l u with h | h
  · rw [h] at hp; cases hp
  · obtain ⟨e, he, h1⟩ := List.mem_map.1 h
    injection h1 with h1 h2
    rw [← h2] at hp
    exact List.mem_flatten.2 ⟨e.f1, List.mem_map.2 ⟨e, he, rfl⟩, hp⟩
theorem up_univ {l : List En} {a b : U} (h : Up (rstepF l) a b) (ha : a ∈ univ l) : b ∈ univ l := by
  induction h with
  | refl => exact ha
  | head h1 _ ih => exact ih (rstepF_univ l _ _ h1)
/-- All that is above one, by the document. -/
def refC (l : List En) (fr : List U) : List U := climbR (rstepF l) (fr.length + wt (pairs l) []) fr []
theorem refC_mem (l : List En) (fr : List U) (x : U) : x ∈ refC l fr ↔ ∃ s ∈ fr, Up (rstepF l) s x := climbR_mem (rstepF_in l) _ fr (Nat.le_refl _) x
def refF (l : List En) (u : U) : List U := sortU (refC l (rstepF l u))
/-- A row on the way. -/
def Ro (l : List En) (ps : List U) (w wr : World) (v : Value) (out : List U) : Prop :=
  Kd.V k28 28 wr w.heap.size (fun q => w.heap.size ≤ q) v out ∧ Strict out ∧ (∀ y ∈ out, ∃ s ∈ ps, Up (rstepF l) s y) ∧ Below w.heap.size w wr
theorem Ro.len {l : List En} {ps : List U} {w wr : World} {v : Value} {out : List U} (hl : okL l = true) (hps : ∀ p ∈ ps, p ∈ univ l) (h : Ro l ps w wr v out) : out.length ≤ (univ l).length :=
  sub_len out (univ l) (GP.strict_nodup h.2.1) (fun y hy => by obtain ⟨s, hs, hu⟩ := h.2.2.1 y hy; exact up_univ hu (hps s hs))
theorem Ro.below {l : List En} {ps : List U} {w wr w1 : World} {v : Value} {out : List U} (h : Ro l ps w wr v out) (hb : Below wr.heap.size wr w1) : Ro l ps w w1 v out :=
  ⟨Kd.V_below h.1 hb, h.2.1, h.2.2.1, below_step h.2.2.2 hb⟩
theorem rfind_calls (l : List En) (hl : okL l = true) (u : U) (A : Option Addr) (c : Nat) (w : World) (hc : l.length ≤ c) (hC : k32.C w A l.length l) :
    Calls Tryz.prog 36 #[.slice A l.length c, .agg #[.string u.f0, .string u.f1]] w fun e w' => ∃ (r1 r2 : ByteArray) (B2 : Option Addr) (d2 : Nat) (B3 : Option Addr) (n3 d3 : Nat) (r5 : Bool), e = .returned (.tuple #[.agg #[.string r1, .string r2, .slice B2 (rstepF l u).length d2, .slice B3 n3 d3], .bool r5]) ∧ (rstepF l u).length ≤ d2 ∧ (∀ W, Below w'.heap.size w' W → k28.C W B2 (rstepF l u).length (rstepF l u)) ∧ Below w.heap.size w w' := by
  obtain ⟨⟨r1, r2, r3, r4, r5⟩, he, h3⟩ := GP.find_tot l (by have := okL_len hl; omega) u
  obtain ⟨k, hk⟩ := he.rounds
  have h3 : r3 = rstepF l u := h3
  subst h3
  refine (chancelref8_Find.calls k (fun q => q < w.heap.size) A c l u.f0 u.f1 r1 r2 _ r4 r5 w ⟨A, c, rfl, hc, Kd.C_F k32_heap hC⟩ hk).mono ?_
  rintro e w' ⟨v2, v3, rfl, h2, h3, hb⟩
  obtain ⟨B2, d2, rfl⟩ := Kd.V_slice h2
  obtain ⟨B3, d3, rfl⟩ := Kd.V_slice h3
  have hv := Kd.V_at h2
  exact ⟨r1, r2, B2, d2, B3, _, d3, r5, rfl, hv.2.1, fun W hW => hv.2.2 W (fun k _ hk => hW.block k hk), hb⟩
theorem rput_ro {l : List En} (hl : okL l = true) {ps : List U} (hps : ∀ p ∈ ps, p ∈ univ l) {w wr : World} {A : Option Addr} {n c : Nat} {out : List U} (h : Ro l ps w wr (.slice A n c) out) (u : U) (hu : ∃ s ∈ ps, Up (rstepF l) s u) :
    Calls Tryz.prog 37 #[.slice A n c, .agg #[.string u.f0, .string u.f1]] wr fun e w' => ∃ A' c' r, e = .returned (.slice A' r.length c') ∧ Ro l ps w w' (.slice A' r.length c') r ∧ (∀ y, y ∈ r ↔ y = u ∨ y ∈ out) ∧ Below wr.heap.size wr w' := by
  have hlen := h.len hl hps
  obtain ⟨hV, hS, hU, hB⟩ := h
  have h1 := univ_len hl
  obtain ⟨rfl, hc, hF⟩ := Kd.V_at hV
  refine (rput_calls out hS (by omega) u A c wr w.heap.size (fun q => w.heap.size ≤ q) hc hF hB.size (fun q hq => hq)).mono ?_
  rintro e w' ⟨v, r, rfl, hv, hs, hm, hb⟩
  obtain ⟨A', c', rfl⟩ := Kd.V_slice hv
  exact ⟨A', c', r, rfl, ⟨hv, hs, fun y hy => ((hm y).1 hy).elim (fun e => e ▸ hu) (hU y), below_step hB hb⟩, hm, hb⟩
theorem same_of_len {a b : List U} (ha : a.Nodup) (h : ∀ x ∈ a, x ∈ b) (hl : b.length ≤ a.length) (hb : b.Nodup) : ∀ x ∈ b, x ∈ a := by
  intro x hx
  by_cases hxa : x ∈ a
  · exact hxa
  · have := sub_len (x :: a) b (List.nodup_cons.2 ⟨hxa, ha⟩) (fun y hy => by rcases List.mem_cons.1 hy with rfl | hy; exact hx; exact h y hy)
    simp at this
    omega
theorem closed_eq {l : List En} {u : U} {out : List U} (hs : Strict out) (h1 : ∀ y ∈ out, ∃ s ∈ rstepF l u, Up (rstepF l) s y) (h2 : ∀ p ∈ rstepF l u, p ∈ out) (h3 : ∀ y ∈ out, ∀ p ∈ rstepF l y, p ∈ out) : out = refF l u := by
  refine strict_ext _ _ hs (sortU_strict (climbR_nodup _ _ _ _ (by simp))) (fun y => ?_)
  show y ∈ out ↔ y ∈ sortU (refC l (rstepF l u))
  rw [(sortU_perm _).mem_iff]
  rw [refC_mem]
  exact ⟨h1 y, fun ⟨s, hs, hu⟩ => hu.closed h3 (h2 s hs)⟩
end Go.Proofs.YtelibndkkokadaaGreat.GA
namespace Go.Proofs.YtelibndkkokadaaGreat.GA
open Go.RowKit Go.Proofs.YtelibndkkokadaaGreatW.PrintWords Go.Proofs.YtelibndkkokadaaGreatW.PrintLast Go.Proofs.YtelibndkkokadaaGreat.HandV Go.Proofs.YtelibndkkokadaaGreatW.PrintMore
open Go.Proofs.YtelibndkkokadaaGreat.GB
attribute [local go_sem] max2_int min2_int max_two min_two max_three min_three max_four min_four   -- for this text's walks alone
set_option linter.unusedVariables false
set_option linter.unusedSimpArgs false
-- IMPORT .A12
open GP (rstepF Strict)
theorem below_lower {B B' : Nat} {a b : World} (h : Below B a b) (hb : B' ≤ B) : Below B' a b := ⟨h.os, h.tape, h.output, h.size, fun k hk => h.block k (by omega)⟩
set_option maxRecDepth 100000 in
set_option maxHeartbeats 8000000 in
theorem refAbove_calls (l : List En) (hl : okL l = true) (u : U) (A : Option Addr) (c : Nat) (w : World) (hc : l.length ≤ c) (hC : k32.C w A l.length l) :
    Calls Tryz.prog 20 #[.slice A l.length c, .agg #[.string u.f0, .string u.f1]] w fun e w' => ∃ v, e = .returned v ∧ Kd.V k28 28 w' w.heap.size (fun q => w.heap.size ≤ q) v (refF l u) ∧ Below w.heap.size w w' := by
  have HL := Aside0.mk hl
  have HC := Aside0.mk hC
  have Hc := Aside0.mk hc
  have HFI := Aside0.mk (rfind_calls l hl u A c)
  have HPU : Aside0 (∀ p ∈ rstepF l u, p ∈ univ l) := ⟨rstepF_univ l u⟩
  have HUL := Aside0.mk (univ_len hl)
  have HEQ := Aside0.mk (@closed_eq l u)
  have HPL : Aside0 ((rstepF l u).length ≤ 1000) := ⟨by
    rcases rstepF_in l u with h | h
    · rw [h]; simp
    · obtain ⟨e, he, h1⟩ := List.mem_map.1 h
      injection h1 with h1 h2
      rw [← h2]; exact (okL_mem hl he).2.2.2⟩
  generalize refF l u = R at HEQ ⊢
  generalize hps : rstepF l u = ps at HFI HPU HEQ HPL
  clear hC hc hl hps
  go_enter Tryz.func20, Tryz.ntmps20
  go_wp2_with (first | (go_at_call 36; refine (HFI.out _ Hc.out (Kd.C_below HC.out (by repeat (first | exact Below.refl _ _ | apply below_alloc)))).mono ?_; rintro e w2 ⟨r1, r2, B2, d2, B3, n3, d3, r5, rfl, hd2, hP, hb⟩; have HP := Aside0.mk hP; have Hd2 := Aside0.mk hd2; have HB2 : Aside0 (Below w.heap.size w w2) := ⟨below_step (by repeat (first | exact Below.refl _ _ | apply below_alloc)) hb⟩; clear hP hb hd2))
  have HX : Aside0 ((w2.alloc (Obj.cells #[.string r1, .string r2, .slice B2 ps.length d2, .slice B3 n3 d3] 32)).heap[w2.heap.size]? = some (.cells #[.string r1, .string r2, .slice B2 ps.length d2, .slice B3 n3 d3] 32 (0, 0))) := ⟨blk_new _ _⟩
  have HB3 : Aside0 (Below w.heap.size w (w2.alloc (Obj.cells #[.string r1, .string r2, .slice B2 ps.length d2, .slice B3 n3 d3] 32))) := ⟨below_alloc HB2.out _⟩
  have HP3 : Aside0 (∀ W, Below (w2.alloc (Obj.cells #[.string r1, .string r2, .slice B2 ps.length d2, .slice B3 n3 d3] 32)).heap.size (w2.alloc (Obj.cells #[.string r1, .string r2, .slice B2 ps.length d2, .slice B3 n3 d3] 32)) W → k28.C W B2 ps.length ps) := ⟨fun W hW => HP.out W (below_step (below_alloc (Below.refl _ _) _) hW)⟩
  have HV0 : Aside0 (w.heap.size ≤ w2.heap.size) := ⟨HB2.out.size⟩
  generalize hbe : w2.heap.size = be at HX HV0 ⊢
  clear HP HB2 HFI
  generalize w2.alloc (Obj.cells #[.string r1, .string r2, .slice B2 ps.length d2, .slice B3 n3 d3] 32) = V at HX HB3 HP3 ⊢
  clear hbe
  go_loopg [7, 8] ps.length (fun g s7 s8 wr => ∃ (i : Nat) (out : List U) (A7 : Option Addr) (c7 : Nat), s7 = .slice A7 out.length c7 ∧ s8 = .int .i64 (i : Int) ∧ i ≤ ps.length ∧ g = ps.length - i ∧ Aside0 (Ro l ps w wr (.slice A7 out.length c7) out) ∧ Aside0 (∀ j (h : j < ps.length), j < i → ps[j] ∈ out) ∧ Aside0 (Below V.heap.size V wr))
  case atStart => exact ⟨0, [], none, 0, rfl, rfl, Nat.zero_le _, rfl, ⟨⟨Kd.V_nil _ _ _ _ _, by simp [Strict], by simp, HB3.out⟩⟩, ⟨fun j _ h => by omega⟩, ⟨Below.refl _ _⟩⟩
  case round =>
    obtain ⟨i, out, A7, c7, rfl, rfl, hi, rfl, HRO, HIN, HBV⟩ := hrel
    have HX1 : Aside0 (wr.heap[be]? = some (.cells #[.string r1, .string r2, .slice B2 ps.length d2, .slice B3 n3 d3] 32 (0, 0))) := ⟨(HBV.out.block _ (GT.lt_of_heapT HX.out)).trans HX.out⟩
    have q2 : wr.cell? ⟨be, 2, none⟩ = some (.slice B2 ps.length d2) := GT.hcellT HX1.out 2 _ rfl
    have Hi := Aside0.mk hi
    by_cases hil : i < ps.length
    · obtain ⟨ad, rfl, g0, g1⟩ := at_T28 (HP3.out wr HBV.out) (i : Int) (by omega) (by omega)
      rw [GP.rdU_at hil, Int.toNat_natCast] at g0 g1
      have HXM : Aside0 (ps[i] ∈ ps) := ⟨List.getElem_mem hil⟩
      obtain ⟨x, hx⟩ : ∃ x, ps[i] = x := ⟨_, rfl⟩
      rw [hx] at g0 g1 HXM
      have Hx : Aside0 (∀ h : i < ps.length, ps[i] = x) := ⟨fun _ => hx⟩
      have p0 : (0 ≤ (i : Int)) = True := eq_true (by omega)
      have p1 : ((i : Int) < (ps.length : Int)) = True := eq_true (by omega)
      have Hil := Aside0.mk hil
      have HPT := Aside0.mk (rput_ro HL.out HPU.out HRO.out x ⟨x, HXM.out, .refl x⟩)
      clear hx hil hi
      go_wp2_with (first | (go_at_call 37; refine (HPT.out).mono ?_; rintro e w4 ⟨A5, c5, r, rfl, hro, hm, hb⟩; have HRO4 := Aside0.mk hro; have HM4 := Aside0.mk hm; have HBB4 := Aside0.mk hb; clear hro hm hb))
      go_roundg (ps.length - (i + 1))
      case rel => exact ⟨i + 1, r, A5, c5, rfl, by rw [GP.wr_succ (by have := Hil.out; have := HPL.out; omega)], by have := Hil.out; omega, rfl, HRO4, ⟨fun j hj hlt => by
        by_cases hji : j = i
        · subst hji; rw [Hx.out]; exact (HM4.out x).2 (.inl rfl)
        · exact (HM4.out _).2 (.inr (HIN.out j hj (by omega)))⟩, ⟨below_step HBV.out HBB4.out⟩⟩
      case measure => have := Hil.out; omega
    · have hie : i = ps.length := by omega
      subst hie
      have p1 : ((ps.length : Int) < (ps.length : Int)) = False := eq_false (by omega)
      have HIN2 : Aside0 (∀ p ∈ ps, p ∈ out) := ⟨fun p hp => by obtain ⟨j, hj, rfl⟩ := List.getElem_of_mem hp; exact HIN.out j hj hj⟩
      clear hil hi
      clear HIN
      go_wp2
      clear HP3 HX1 q2 HX
      go_loopg [7, 9] ((univ l).length + 1) (fun g s7 s9 wx => ∃ (n : Int) (out : List U) (A7 : Option Addr) (c7 : Nat), s7 = .slice A7 out.length c7 ∧ s9 = .int .i64 n ∧ Aside0 (Ro l ps w wx (.slice A7 out.length c7) out) ∧ Aside0 (∀ p ∈ ps, p ∈ out) ∧ Aside0 (n = (out.length : Int) → ∀ y ∈ out, ∀ p ∈ rstepF l y, p ∈ out) ∧ Aside0 (n ≠ (out.length : Int) → (univ l).length + 1 - out.length ≤ g ∧ 1 ≤ g) ∧ Aside0 (Below V.heap.size V wx))
      case atStart => exact ⟨-1, out, A7, c7, rfl, rfl, HRO, HIN2, ⟨fun h => by omega⟩, ⟨fun _ => ⟨by omega, by omega⟩⟩, HBV⟩
      case round =>
        clear HRO HIN2 HBV
        obtain ⟨n, out0, A0, c0, rfl, rfl, HRO, HIN2, HCL, HG, HBV⟩ := hrel
        by_cases hn : n = (out0.length : Int)
        · subst hn
          have hpe : ((out0.length : Int) != (out0.length : Int)) = false := by simp
          have HE := Aside0.mk (HEQ.out HRO.out.2.1 HRO.out.2.2.1 HIN2.out (HCL.out rfl))
          go_wp2
          go_ret
          have hr := HE.out
          subst hr
          exact ⟨_, rfl, HRO.out.1, HRO.out.2.2.2⟩
        · have hpe : (n != (out0.length : Int)) = true := by simpa using hn
          have HGG := Aside0.mk (HG.out hn)
          clear hn HCL HG
          have HW0 : Aside0 (∀ W, Below wr.heap.size wr W → k28.C W A0 out0.length out0) := ⟨fun W hW => (Kd.V_at HRO.out.1).2.2 W (fun k _ hk => hW.block k hk)⟩
          have HS0 : Aside0 (Strict out0) := ⟨HRO.out.2.1⟩
          have HBW := Aside0.mk HBV.out
          go_wp2
          generalize wr = wa_ at HRO HBV HBW HW0 ⊢
          go_loopg [7, 11] out0.length (fun g s7 s11 wx => ∃ (i : Nat) (out : List U) (A7 : Option Addr) (c7 : Nat), s7 = .slice A7 out.length c7 ∧ s11 = .int .i64 (i : Int) ∧ i ≤ out0.length ∧ g = out0.length - i ∧ Aside0 (Ro l ps w wx (.slice A7 out.length c7) out) ∧ Aside0 (∀ y ∈ out0, y ∈ out) ∧ Aside0 (∀ j (h : j < out0.length), j < i → ∀ p ∈ rstepF l out0[j], p ∈ out) ∧ Aside0 (Below wa_.heap.size wa_ wx))
          case atStart => exact ⟨0, out0, A0, c0, rfl, rfl, Nat.zero_le _, rfl, HRO, ⟨fun y h => h⟩, ⟨fun j _ h => by omega⟩, ⟨Below.refl _ _⟩⟩
          case round =>
            clear HRO HBV
            obtain ⟨i, out, A7, c7, rfl, rfl, hi, rfl, HRO, HSB, HST, HBV⟩ := hrel
            have Hi := Aside0.mk hi
            have HOL : Aside0 (out0.length ≤ 998000) := ⟨by have h1 := HRO.out.len HL.out HPU.out; have h2 := sub_len out0 out (GP.strict_nodup HS0.out) HSB.out; have := HUL.out; omega⟩
            by_cases hil : i < out0.length
            · obtain ⟨ad, rfl, g0, g1⟩ := at_T28 (HW0.out wr HBV.out) (i : Int) (by omega) (by omega)
              rw [GP.rdU_at hil, Int.toNat_natCast] at g0 g1
              have HXM : Aside0 (out0[i] ∈ out0) := ⟨List.getElem_mem hil⟩
              obtain ⟨x, hx⟩ : ∃ x, out0[i] = x := ⟨_, rfl⟩
              rw [hx] at g0 g1 HXM
              have Hx : Aside0 (∀ h : i < out0.length, out0[i] = x) := ⟨fun _ => hx⟩
              have p0 : (0 ≤ (i : Int)) = True := eq_true (by omega)
              have p1 : ((i : Int) < (out0.length : Int)) = True := eq_true (by omega)
              have Hil := Aside0.mk hil
              have HFX := Aside0.mk (rfind_calls l HL.out x A c)
              have HXL : Aside0 ((rstepF l x).length ≤ 1000) := ⟨by
                rcases rstepF_in l x with h | h
                · rw [h]; simp
                · obtain ⟨e, he, h1⟩ := List.mem_map.1 h
                  injection h1 with h1 h2
                  rw [← h2]; exact (okL_mem HL.out he).2.2.2⟩
              clear hx hil hi
              obtain ⟨xs, hxs⟩ : ∃ xs, rstepF l x = xs := ⟨_, rfl⟩
              rw [hxs] at HFX HXL
              have Hxs := Aside0.mk hxs
              clear hxs
              go_wp2_with (first | (go_at_call 36; refine (HFX.out _ Hc.out (Kd.C_below HC.out HRO.out.2.2.2)).mono ?_; rintro e w5 ⟨s1, s2, B5, d5, B6, n6, d6, s5, rfl, hd5, hP, hb⟩; have HQ := Aside0.mk hP; have HB5 := Aside0.mk hb; clear hP hb hd5))
              have HX5 : Aside0 ((w5.alloc (Obj.cells #[.string s1, .string s2, .slice B5 xs.length d5, .slice B6 n6 d6] 32)).heap[w5.heap.size]? = some (.cells #[.string s1, .string s2, .slice B5 xs.length d5, .slice B6 n6 d6] 32 (0, 0))) := ⟨blk_new _ _⟩
              have HRO5 : Aside0 (Ro l ps w (w5.alloc (Obj.cells #[.string s1, .string s2, .slice B5 xs.length d5, .slice B6 n6 d6] 32)) (.slice A7 out.length c7) out) := ⟨(HRO.out.below HB5.out).below (below_alloc (Below.refl _ _) _)⟩
              have HBV5 : Aside0 (Below wa_.heap.size wa_ (w5.alloc (Obj.cells #[.string s1, .string s2, .slice B5 xs.length d5, .slice B6 n6 d6] 32))) := ⟨below_step (below_step HBV.out HB5.out) (below_alloc (Below.refl _ _) _)⟩
              have HP5 : Aside0 (∀ W, Below (w5.alloc (Obj.cells #[.string s1, .string s2, .slice B5 xs.length d5, .slice B6 n6 d6] 32)).heap.size (w5.alloc (Obj.cells #[.string s1, .string s2, .slice B5 xs.length d5, .slice B6 n6 d6] 32)) W → k28.C W B5 xs.length xs) := ⟨fun W hW => HQ.out W (below_step (below_alloc (Below.refl _ _) _) hW)⟩
              generalize hbe : w5.heap.size = bx at HX5 ⊢
              clear HQ HB5 HFX HBV HRO
              generalize w5.alloc (Obj.cells #[.string s1, .string s2, .slice B5 xs.length d5, .slice B6 n6 d6] 32) = V2 at HX5 HRO5 HBV5 HP5 ⊢
              clear hbe g0 g1
              go_loopg [7, 14] xs.length (fun g s7 s14 wx => ∃ (k : Nat) (out : List U) (A7 : Option Addr) (c7 : Nat), s7 = .slice A7 out.length c7 ∧ s14 = .int .i64 (k : Int) ∧ k ≤ xs.length ∧ g = xs.length - k ∧ Aside0 (Ro l ps w wx (.slice A7 out.length c7) out) ∧ Aside0 (∀ y ∈ out0, y ∈ out) ∧ Aside0 (∀ j (h : j < out0.length), j < i → ∀ p ∈ rstepF l out0[j], p ∈ out) ∧ Aside0 (∀ t (h : t < xs.length), t < k → xs[t] ∈ out) ∧ Aside0 (Below V2.heap.size V2 wx))
              case atStart => exact ⟨0, out, A7, c7, rfl, rfl, Nat.zero_le _, rfl, HRO5, HSB, HST, ⟨fun t _ h => by omega⟩, ⟨Below.refl _ _⟩⟩
              case round =>
                clear HSB HST HRO5
                obtain ⟨k, out, A7, c7, rfl, rfl, hk, rfl, HRO, HSB, HST, HSK, HBV⟩ := hrel
                have HX1 : Aside0 (wr.heap[bx]? = some (.cells #[.string s1, .string s2, .slice B5 xs.length d5, .slice B6 n6 d6] 32 (0, 0))) := ⟨(HBV.out.block _ (GT.lt_of_heapT HX5.out)).trans HX5.out⟩
                have q2 : wr.cell? ⟨bx, 2, none⟩ = some (.slice B5 xs.length d5) := GT.hcellT HX1.out 2 _ rfl
                have Hk := Aside0.mk hk
                by_cases hkl : k < xs.length
                · obtain ⟨ad2, rfl, g0, g1⟩ := at_T28 (HP5.out wr HBV.out) (k : Int) (by omega) (by omega)
                  rw [GP.rdU_at hkl, Int.toNat_natCast] at g0 g1
                  have HYM : Aside0 (xs[k] ∈ xs) := ⟨List.getElem_mem hkl⟩
                  obtain ⟨y, hy⟩ : ∃ y, xs[k] = y := ⟨_, rfl⟩
                  rw [hy] at g0 g1 HYM
                  have Hy : Aside0 (∀ h : k < xs.length, xs[k] = y) := ⟨fun _ => hy⟩
                  have p0 : (0 ≤ (k : Int)) = True := eq_true (by omega)
                  have p1 : ((k : Int) < (xs.length : Int)) = True := eq_true (by omega)
                  have Hkl := Aside0.mk hkl
                  have hup : ∃ s ∈ ps, Up (rstepF l) s y := by
                    obtain ⟨s, hs, hu⟩ := HRO.out.2.2.1 x (HSB.out x HXM.out)
                    exact ⟨s, hs, hu.snoc (by rw [Hxs.out]; exact HYM.out)⟩
                  have HPT := Aside0.mk (rput_ro HL.out HPU.out HRO.out y hup)
                  clear hy hkl hk hup
                  go_wp2_with (first | (go_at_call 37; refine (HPT.out).mono ?_; rintro e w4 ⟨A5, c5, r, rfl, hro, hm, hb⟩; have HRO4 := Aside0.mk hro; have HM4 := Aside0.mk hm; have HBB4 := Aside0.mk hb; clear hro hm hb))
                  go_roundg (xs.length - (k + 1))
                  case rel => exact ⟨k + 1, r, A5, c5, rfl, by rw [GP.wr_succ (by have := Hkl.out; have := HXL.out; omega)], by have := Hkl.out; omega, rfl, HRO4, ⟨fun z hz => (HM4.out z).2 (.inr (HSB.out z hz))⟩, ⟨fun j hj hlt p hp => (HM4.out p).2 (.inr (HST.out j hj hlt p hp))⟩, ⟨fun t ht hlt => by
                    by_cases htk : t = k
                    · subst htk; rw [Hy.out]; exact (HM4.out y).2 (.inl rfl)
                    · exact (HM4.out _).2 (.inr (HSK.out t ht (by omega)))⟩, ⟨below_step HBV.out HBB4.out⟩⟩
                  case measure => have := Hkl.out; omega
                · have hke : k = xs.length := by omega
                  subst hke
                  have p1 : ((xs.length : Int) < (xs.length : Int)) = False := eq_false (by omega)
                  clear hkl hk
                  go_wp2
                  go_roundg (out0.length - (i + 1))
                  case rel => exact ⟨i + 1, out, A7, c7, rfl, by rw [GP.wr_succ (by have := Hil.out; have := HOL.out; omega)], by have := Hil.out; omega, rfl, HRO, HSB, ⟨fun j hj hlt p hp => by
                    by_cases hji : j = i
                    · subst hji
                      rw [Hx.out, Hxs.out] at hp
                      obtain ⟨t, ht, rfl⟩ := List.getElem_of_mem hp
                      exact HSK.out t ht ht
                    · exact HST.out j hj (by omega) p hp⟩, ⟨HBV5.out.trans (below_lower HBV.out HBV5.out.size)⟩⟩
                  case measure => have := Hil.out; omega
            · have hie : i = out0.length := by omega
              subst hie
              have p1 : ((out0.length : Int) < (out0.length : Int)) = False := eq_false (by omega)
              clear hil hi
              go_wp2
              go_roundg (if out.length = out0.length then 0 else (univ l).length + 1 - out.length)
              case rel => exact ⟨(out0.length : Int), out, A7, c7, rfl, rfl, HRO, ⟨fun p hp => HSB.out p (HIN2.out p hp)⟩, ⟨fun he y hy p hp => by
                have hy0 := same_of_len (GP.strict_nodup HS0.out) HSB.out (by omega) (GP.strict_nodup HRO.out.2.1) y hy
                obtain ⟨j, hj, rfl⟩ := List.getElem_of_mem hy0
                exact HST.out j hj hj p hp⟩, ⟨fun hne => by
                have h1 := HRO.out.len HL.out HPU.out
                rw [if_neg (fun e => hne (by rw [e]))]
                omega⟩, ⟨below_step HBW.out HBV.out⟩⟩
              case measure =>
                have h1 := HRO.out.len HL.out HPU.out
                have h2 := sub_len out0 out (GP.strict_nodup HS0.out) HSB.out
                have h3 := HGG.out
                split <;> omega
end Go.Proofs.YtelibndkkokadaaGreat.GA
