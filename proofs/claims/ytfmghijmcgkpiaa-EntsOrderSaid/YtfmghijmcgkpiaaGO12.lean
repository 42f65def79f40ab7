-- Written by wip/tools/gprint.py over the kit's printer.
import Derived.Test.YtfmghijmcgkpiaaGO0
import Derived.Test.YtfmghijmcgkpiaaGO2
import Derived.Test.YtfmghijmcgkpiaaGO5
import Derived.Test.YtfmghijmcgkpiaaGO9
import Derived.Test.YtfmghijmcgkpiaaGO10
import Derived.Test.YtfmghijmcgkpiaaGO11
import Derived.Test.YtfmghijmcgkpiaaSqz
namespace Go.Proofs.Ytfmghijmcgkpiaa.GO
open Go.RowKit Go.Proofs.YtfmghijmcgkpiaaW.PrintWords Go.Proofs.YtfmghijmcgkpiaaW.PrintLast Go.Proofs.Ytfmghijmcgkpiaa.HandV Go.Proofs.YtfmghijmcgkpiaaW.PrintMore
attribute [local go_sem] max2_int min2_int max_two min_two max_three min_three max_four min_four   -- for this text's walks alone
set_option linter.unusedVariables false
set_option linter.unusedSimpArgs false

/-! ### chancellaw8_EntsOrder: function 6 -/
mutual
def chancellaw8_EntsOrder.l0 : Nat → List (S42) → List (S46) → Int → Option (Bool)
 | 0, _, _, _ => none
 | k + 1, x0, x3, x5 => if x5 < (x0.length : Int) then (if 0 ≤ x5 then ((chancellaw5_Entity.f k ((rd_T42 x0 x5).f0) ((rd_T42 x0 x5).f1) ((rd_T42 x0 x5).f2) ((rd_T42 x0 x5).f3) ((rd_T42 x0 x5).f4)).bind fun bt333 => ((ents_Put.f x3 bt333.1 bt333.2.1 bt333.2.2.1 bt333.2.2.2).bind fun t341 => (chancellaw8_EntsOrder.l0 k x0 t341 (wrap64 (x5 + 1))))) else (none)) else (chancellaw8_EntsOrder.l1 k x0 x3 ([] : List (S46)) (wrap64 ((x0.length : Int) - 1)))
def chancellaw8_EntsOrder.l1 : Nat → List (S42) → List (S46) → List (S46) → Int → Option (Bool)
 | 0, _, _, _, _ => none
 | k + 1, x0, x3, x4, x6 => if x6 ≥ 0 then (if 0 ≤ x6 then (if x6 < (x0.length : Int) then ((chancellaw5_Entity.f k ((rd_T42 x0 x6).f0) ((rd_T42 x0 x6).f1) ((rd_T42 x0 x6).f2) ((rd_T42 x0 x6).f3) ((rd_T42 x0 x6).f4)).bind fun bt345 => ((ents_Find.f x4 bt345.1 bt345.2.1).bind fun bt354 => (if bt354.2.2.2.2 = true then (chancellaw8_EntsOrder.l1 k x0 x3 x4 (wrap64 (x6 - 1))) else ((ents_Put.f x4 bt345.1 bt345.2.1 bt345.2.2.1 bt345.2.2.2).bind fun t364 => (chancellaw8_EntsOrder.l1 k x0 x3 t364 (wrap64 (x6 - 1))))))) else (none)) else (none)) else (if (x3.length : Int) = (x4.length : Int) then (chancellaw8_EntsOrder.l2 k x3 x4 0) else (some false))
def chancellaw8_EntsOrder.l2 : Nat → List (S46) → List (S46) → Int → Option (Bool)
 | 0, _, _, _ => none
 | k + 1, x3, x4, x10 => if x10 < (x3.length : Int) then (if 0 ≤ x10 then (if x10 < (x4.length : Int) then ((ents_Same.f ((rd_T46 x3 x10).f0.f0) ((rd_T46 x3 x10).f0.f1) ((rd_T46 x3 x10).f1) ((rd_T46 x3 x10).f2) ((rd_T46 x4 x10).f0.f0) ((rd_T46 x4 x10).f0.f1) ((rd_T46 x4 x10).f1) ((rd_T46 x4 x10).f2)).bind fun t369 => (if t369 = true then (if x10 > 0 then (if 0 ≤ (wrap64 (x10 - 1)) then (if (wrap64 (x10 - 1)) < (x3.length : Int) then ((chancelref3_LessUid.f ((rd_T46 x3 (wrap64 (x10 - 1))).f0.f0) ((rd_T46 x3 (wrap64 (x10 - 1))).f0.f1) ((rd_T46 x3 x10).f0.f0) ((rd_T46 x3 x10).f0.f1)).bind fun t372 => (if t372 = true then (chancellaw8_EntsOrder.l2 k x3 x4 (wrap64 (x10 + 1))) else (some false))) else (none)) else (none)) else (chancellaw8_EntsOrder.l2 k x3 x4 (wrap64 (x10 + 1)))) else (some false))) else (none)) else (none)) else (some true)
end
def chancellaw8_EntsOrder.f (k : Nat) (l0 : List (S42)) : Option (Bool) := (chancellaw8_known.f).bind fun t331 => (if t331 = true then (if (l0.length : Int) > 12 then (some true) else (chancellaw8_EntsOrder.l0 k l0 ([] : List (S46)) 0)) else (some false))
theorem chancellaw8_EntsOrder.mono_l : ∀ k, (∀ y0 y1 y2, LeO (chancellaw8_EntsOrder.l0 k y0 y1 y2) (chancellaw8_EntsOrder.l0 (k + 1) y0 y1 y2)) ∧ (∀ y0 y1 y2 y3, LeO (chancellaw8_EntsOrder.l1 k y0 y1 y2 y3) (chancellaw8_EntsOrder.l1 (k + 1) y0 y1 y2 y3)) ∧ (∀ y0 y1 y2, LeO (chancellaw8_EntsOrder.l2 k y0 y1 y2) (chancellaw8_EntsOrder.l2 (k + 1) y0 y1 y2))
 | 0 => ⟨fun _ _ _ r h => by simp [chancellaw8_EntsOrder.l0] at h, fun _ _ _ _ r h => by simp [chancellaw8_EntsOrder.l1] at h, fun _ _ _ r h => by simp [chancellaw8_EntsOrder.l2] at h⟩
 | k + 1 => by
  obtain ⟨ih0, ih1, ih2⟩ := chancellaw8_EntsOrder.mono_l k
  refine ⟨?_, ?_, ?_⟩
  ·
   intro y0 y1 y2
   unfold chancellaw8_EntsOrder.l0
   repeat' first
   | (with_reducible exact ih0 _ _ _)
   | (with_reducible exact ih1 _ _ _ _)
   | (with_reducible exact ih2 _ _ _)
   | (with_reducible exact chancellaw5_Entity.mono _ _ _ _ _ _)
   | (with_reducible exact LeO.refl _)
   | (with_reducible exact LeO.none _)
   | (with_reducible refine LeO.ite ?_ ?_)
   | (with_reducible refine LeO.bind ?_ (fun _ => ?_))
   | exact ih0 _ _ _
   | exact ih1 _ _ _ _
   | exact ih2 _ _ _
   | exact chancellaw5_Entity.mono _ _ _ _ _ _
   | exact LeO.none _
   | refine LeO.ite ?_ ?_
   | refine LeO.bind ?_ (fun _ => ?_)
  ·
   intro y0 y1 y2 y3
   unfold chancellaw8_EntsOrder.l1
   repeat' first
   | (with_reducible exact ih0 _ _ _)
   | (with_reducible exact ih1 _ _ _ _)
   | (with_reducible exact ih2 _ _ _)
   | (with_reducible exact chancellaw5_Entity.mono _ _ _ _ _ _)
   | (with_reducible exact LeO.refl _)
   | (with_reducible exact LeO.none _)
   | (with_reducible refine LeO.ite ?_ ?_)
   | (with_reducible refine LeO.bind ?_ (fun _ => ?_))
   | exact ih0 _ _ _
   | exact ih1 _ _ _ _
   | exact ih2 _ _ _
   | exact chancellaw5_Entity.mono _ _ _ _ _ _
   | exact LeO.none _
   | refine LeO.ite ?_ ?_
   | refine LeO.bind ?_ (fun _ => ?_)
  ·
   intro y0 y1 y2
   unfold chancellaw8_EntsOrder.l2
   repeat' first
   | (with_reducible exact ih0 _ _ _)
   | (with_reducible exact ih1 _ _ _ _)
   | (with_reducible exact ih2 _ _ _)
   | (with_reducible exact chancellaw5_Entity.mono _ _ _ _ _ _)
   | (with_reducible exact LeO.refl _)
   | (with_reducible exact LeO.none _)
   | (with_reducible refine LeO.ite ?_ ?_)
   | (with_reducible refine LeO.bind ?_ (fun _ => ?_))
   | exact ih0 _ _ _
   | exact ih1 _ _ _ _
   | exact ih2 _ _ _
   | exact chancellaw5_Entity.mono _ _ _ _ _ _
   | exact LeO.none _
   | refine LeO.ite ?_ ?_
   | refine LeO.bind ?_ (fun _ => ?_)
theorem chancellaw8_EntsOrder.mono : ∀ a0 k, LeO (chancellaw8_EntsOrder.f k a0) (chancellaw8_EntsOrder.f (k + 1) a0) := by
 intro a0 k
 obtain ⟨ih0, ih1, ih2⟩ := chancellaw8_EntsOrder.mono_l k
 unfold chancellaw8_EntsOrder.f
 repeat' first
   | (with_reducible exact ih0 _ _ _)
   | (with_reducible exact ih1 _ _ _ _)
   | (with_reducible exact ih2 _ _ _)
   | (with_reducible exact chancellaw5_Entity.mono _ _ _ _ _ _)
   | (with_reducible exact LeO.refl _)
   | (with_reducible exact LeO.none _)
   | (with_reducible refine LeO.ite ?_ ?_)
   | (with_reducible refine LeO.bind ?_ (fun _ => ?_))
   | exact ih0 _ _ _
   | exact ih1 _ _ _ _
   | exact ih2 _ _ _
   | exact chancellaw5_Entity.mono _ _ _ _ _ _
   | exact LeO.none _
   | refine LeO.ite ?_ ?_
   | refine LeO.bind ?_ (fun _ => ?_)
def chancellaw8_EntsOrder.T22 : Bool × List (List Nat × List Nat) := (true, [([], []), ([], []), ([0, 1], [0, 1]), ([2], [2]), ([], []), ([], []), ([4, 5], [4, 5]), ([6], [6]), ([3, 7], [3, 7]), ([8], [8]), ([9, 8], [9]), ([10], [10]), ([11, 10], [10, 11]), ([12, 10, 10], [10, 12]), ([13], [13]), ([13], [13]), ([15, 13], [13, 15]), ([14, 16, 13], [13, 14, 16]), ([17, 13], [13, 17]), ([18, 13], [13, 18]), ([13], [13]), ([13], [13]), ([20, 21, 13], [13, 20, 21]), ([22, 13], [13, 22]), ([23, 13], [13, 23]), ([19, 24, 13, 13], [13, 19, 24]), ([25, 13], [13, 25]), ([13, 26, 10], [10, 13, 26]), ([10, 27], [10, 27])])
def chancellaw8_EntsOrder.B22 : List Nat := [0, 0, 3, 7, 0, 0, 48, 112, 255, 511, 1023, 2047, 4095, 8191, 16383, 16383, 49151, 131071, 262143, 524287, 16383, 16383, 3162111, 7356415, 15745023, 33554431, 67108863, 134217727, 268435455]
theorem chancellaw8_EntsOrder.tab22 : rtab .any (opsOf Try.f6 22) = chancellaw8_EntsOrder.T22 := by kernel_rfl
theorem chancellaw8_EntsOrder.bits22 : waitsOk chancellaw8_EntsOrder.T22.2 chancellaw8_EntsOrder.B22 = true := by kernel_rfl
set_option maxHeartbeats 8000000 in
set_option maxRecDepth 100000 in
theorem chancellaw8_EntsOrder.calls (k : Nat) (A0 : Option Addr) (c0 : Nat) (l0 : List (S42)) (r : Bool) (w : World) (hr0 : Kd.C k42 w A0 l0.length l0) (hc0 : l0.length ≤ c0) (h : chancellaw8_EntsOrder.f k l0 = some r) :
  Calls Try.prog 6 #[.slice A0 l0.length c0] w fun e w' => e = .returned (.bool r) ∧ Below w.heap.size w w' := by
 have hu42 := Try.underlying42
 have hu46 := Try.underlying46
 have hu28 := Try.underlying28
 have HR0 := aZ_ hr0
 have HC0 := aZ_ hc0
 clear hr0 hc0
 have HB := aZ_ (Below.refl w.heap.size w)
 have H : ((chancellaw8_known.f).bind fun t331 => (if t331 = true then (if (l0.length : Int) > 12 then (some true) else (chancellaw8_EntsOrder.l0 k l0 ([] : List (S46)) 0)) else (some false))) = some r := h
 clear h
 replace H := Option.bind_eq_some_iff.mp H
 obtain ⟨t331, A20, H⟩ := H
 replace H : (if t331 = true then (if (l0.length : Int) > 12 then (some true) else (chancellaw8_EntsOrder.l0 k l0 ([] : List (S46)) 0)) else (some false)) = some r := H
 have A2 := aZ_ A20
 clear A20
 by_cases c3 : t331 = true
 ·
  subst c3
  have H1 : (if (l0.length : Int) > 12 then (some true) else (chancellaw8_EntsOrder.l0 k l0 ([] : List (S46)) 0)) = some r := by rw [if_pos rfl] at H; exact H
  clear H
  have H := H1
  clear H1
  by_cases c4 : (l0.length : Int) > 12
  ·
   rw [if_pos c4] at H
   have c4b0 : decide (12 < (l0.length : Int)) = true := decide_eq_true c4
   have c4b1 : decide (12 < l0.length) = true := decide_eq_true (by omega)
   clear c4
   obtain rfl := Option.some.inj H
   go_enter Try.func6, Try.ntmps6
   go_wp2_with (first | ((with_reducible refine gate_callee (f := 23) rfl ?_); refine goesL_ (some 11) rfl rfl Try.func23 (by kernel_rfl) rfl #[] rfl gm_ ?_; (with_reducible refine (chancellaw8_known.calls  true _ A2.out).mono ?_); rintro e w5 ⟨rfl, hb⟩; refine ⟨_, rfl, ?_⟩; replace HB := aZ_ (below_step (bl HB) hb); (try clear hb); (try clear hb2); (try clear hk); (try clear hi)))
   go_ret
   exact ⟨by first | rfl | (simp [errW_none, errW_some] <;> rfl) | (simp [*, errW_none, errW_some] <;> rfl), bl HB⟩
  ·
   rw [if_neg c4] at H
   have c4b0 : decide (12 < (l0.length : Int)) = false := decide_eq_false c4
   have c4b1 : decide (12 < l0.length) = false := decide_eq_false (by omega)
   clear c4
   have H' := aZ_ H
   clear H
   go_enter Try.func6, Try.ntmps6
   go_wp2_with (first | ((with_reducible refine gate_callee (f := 23) rfl ?_); refine goesL_ (some 11) rfl rfl Try.func23 (by kernel_rfl) rfl #[] rfl gm_ ?_; (with_reducible refine (chancellaw8_known.calls  true _ A2.out).mono ?_); rintro e w6 ⟨rfl, hb⟩; refine ⟨_, rfl, ?_⟩; replace HB := aZ_ (below_step (bl HB) hb); (try clear hb); (try clear hb2); (try clear hk); (try clear hi)))
   go_loopg [3, 5] k (fun kq v3 v5 w' => ∃ (x3_1 : List (S46)) (x5_1 : Int), v5 = .int .i64 x5_1 ∧ Aside0 (chancellaw8_EntsOrder.l0 kq l0 x3_1 x5_1 = some r) ∧ Aside0 (kq ≤ k) ∧ Aside0 (Kd.V k46 46 w' w.heap.size (fun _ => True) v3 x3_1) ∧ Aside0 (Below w.heap.size w w'))
   case atStart => exact ⟨(([] : List (S46))), (0), rf_, H', ⟨Nat.le_refl _⟩, ⟨by first | exact Kd.V_nil _ _ _ _ _ | exact Kd.N_V (by first | exact Kd.R_nil _ _ _ _ _ | exact Kd.N_nil _ _ _ _ _ | exact Kd.V_nil _ _ _ _ _ | exact Kd.Q_nil _ _ _ _ _ | exact Kd.S_nil _ _ _ _ _)⟩, ⟨bl HB⟩⟩
   case round =>
    clear H'
    try clear c2
    try clear p2
    try clear c3
    try clear c4
    try clear c4b0
    try clear c4b1
    try clear c6
    obtain ⟨x3_1, x5_1, rfl, HA, HK1, HO_3, HB⟩ := hrel
    cases gk with
    | zero => exact absurd HA.out (by simp [chancellaw8_EntsOrder.l0])
    | succ k1 =>
     have H := HA.out
     clear HA
     simp only [chancellaw8_EntsOrder.l0] at H
     by_cases c7 : x5_1 < (l0.length : Int)
     ·
      rw [if_pos c7] at H
      have c7b0 : decide (x5_1 < (l0.length : Int)) = true := decide_eq_true c7
      clear c7
      by_cases c8 : 0 ≤ x5_1
      ·
       rw [if_pos c8] at H
       have c8b0 : decide (0 ≤ x5_1) = true := decide_eq_true c8
       clear c8
       replace H := Option.bind_eq_some_iff.mp H
       obtain ⟨⟨t333, t334, t335, t338⟩, A90, H⟩ := H
       replace H : ((ents_Put.f x3_1 t333 t334 t335 t338).bind fun t341 => (chancellaw8_EntsOrder.l0 k1 l0 t341 (wrap64 (x5_1 + 1)))) = some r := H
       have A9 := aZ_ A90
       clear A90
       replace H := Option.bind_eq_some_iff.mp H
       obtain ⟨t341, A100, H⟩ := H
       replace H : (chancellaw8_EntsOrder.l0 k1 l0 t341 (wrap64 (x5_1 + 1))) = some r := H
       have A10 := aZ_ A100
       clear A100
       have H' := aZ_ H
       clear H
       have p332 : 0 ≤ (x5_1 : Int) := of_decide_eq_true asm_
       have q332 : x5_1 < (l0.length : Int) := of_decide_eq_true asm_
       obtain ⟨ad332, A332_2, c332_2, A332_3, c332_3, A332_4, c332_4, e332, hx332_0, hx332_1, hx332_2, hx332_3, hx332_4, hl332_2, hi332_2, hl332_3, hi332_3, hl332_4, hi332_4⟩ := at_T42 HR0.out x5_1 p332 q332
       cases e332
       replace hx332_0 := (hbc HB.out hx332_0 :)
       replace hx332_1 := (hbc HB.out hx332_1 :)
       replace hx332_2 := (hbc HB.out hx332_2 :)
       replace hx332_3 := (hbc HB.out hx332_3 :)
       replace hx332_4 := (hbc HB.out hx332_4 :)
       have HR332_2 := aZ_ hi332_2
       have HC332_2 := aZ_ hl332_2
       clear hi332_2 hl332_2
       have HR332_3 := aZ_ hi332_3
       have HC332_3 := aZ_ hl332_3
       clear hi332_3 hl332_3
       have HR332_4 := aZ_ hi332_4
       have HC332_4 := aZ_ hl332_4
       clear hi332_4 hl332_4
       replace p332 := eq_true p332
       replace q332 := eq_true q332
       go_wp2_with (first | ((with_reducible refine gate_callee (f := 24) rfl ?_); refine goesL_ (some 27) rfl rfl Try.func24 (by kernel_rfl) rfl #[.agg #[.int .i64 ((rd_T42 l0 x5_1).f0), .int .i64 ((rd_T42 l0 x5_1).f1), .slice A332_2 ((rd_T42 l0 x5_1).f2).length c332_2, .slice A332_3 ((rd_T42 l0 x5_1).f3).length c332_3, .slice A332_4 ((rd_T42 l0 x5_1).f4).length c332_4]] rfl gm_ ?_; (with_reducible refine (chancellaw5_Entity.calls k1 ((rd_T42 l0 x5_1).f0) ((rd_T42 l0 x5_1).f1) _ _ ((rd_T42 l0 x5_1).f2) _ _ ((rd_T42 l0 x5_1).f3) _ _ ((rd_T42 l0 x5_1).f4) t333 t334 t335 t338 _ ?side1 ?side2 ?side3 ?side4 ?side5 ?side6 A9.out).mono ?_); (case side1 => exact kC (Kd.C_below HR332_2.out HB.out)); (case side2 => exact HC332_2.out); (case side3 => exact kC (Kd.C_below HR332_3.out HB.out)); (case side4 => exact HC332_3.out); (case side5 => exact kC (Kd.C_below HR332_4.out HB.out)); (case side6 => exact HC332_4.out); rintro e w11 ⟨v336, v339, rfl, ho0, ho1, hb⟩; refine ⟨_, rfl, ?_⟩; replace HO_3 := aZ_ (Kd.V_mono (Kd.V_told (Kd.V_told (Kd.V_old (kV HO_3) hb) (Kd.R_base ho0)) (by first | exact Kd.N_base ho1 | exact Kd.R_base ho1)) (fun _ h_ => h_.1)); have HO337 := aZ_ (Kd.R_lower (Kd.R_mono (ok' := fun k_ => True) ho0 (fun _ hk_ => trivial)) (below_size (bl HB))); have HO340 := aZ_ (Kd.N_lower (Kd.N_mono (ok' := fun k_ => some k_ ≠ (v336 : Value).ownBlock) ho1 (fun k_ hk_ => hk_.2)) (below_size (bl HB))); replace HB := aZ_ (below_step (bl HB) hb); (try clear hb); (try clear hb2); (try clear hk); (try clear hi); (try clear ho0); (try clear ho1); obtain ⟨Ao12, co12, eo12⟩ := Kd.V_slice HO_3.out; subst eo12; obtain ⟨Ao13, co13, eo13⟩ := Kd.R_slice HO337.out; subst eo13; obtain ⟨Ao14, co14, eo14⟩ := Kd.N_slice HO340.out; subst eo14) | ((with_reducible refine gate_callee (f := 28) rfl ?_); refine goesL_ (some 28) rfl rfl Try.func28 (by kernel_rfl) rfl #[.slice Ao12 x3_1.length co12, .agg #[.string t333, .string t334, .slice Ao13 t335.length co13, .slice Ao14 t338.length co14]] rfl gm_ ?_; (with_reducible refine (ents_Put.calls _ _ x3_1 t333 t334 _ _ t335 _ _ t338 t341 _ ?side1 ?side2 ?side3 ?side4 ?side5 ?side6 A10.out).mono ?_); (case side1 => repeat (first | exact (Kd.V_reads' HO_3.out).2.2 | (with_reducible refine Kd.C_alloc ?_ _) | (with_reducible refine Kd.C_drewN ?_ _) | (with_reducible refine Kd.C_drew ?_))); (case side2 => exact (Kd.V_reads' HO_3.out).2.1); (case side3 => repeat (first | exact (Kd.R_reads' HO337.out).2.2 | (with_reducible refine Kd.C_alloc ?_ _) | (with_reducible refine Kd.C_drewN ?_ _) | (with_reducible refine Kd.C_drew ?_))); (case side4 => exact (Kd.R_reads' HO337.out).2.1); (case side5 => repeat (first | exact (Kd.N_reads' HO340.out).2.2 | (with_reducible refine Kd.C_alloc ?_ _) | (with_reducible refine Kd.C_drewN ?_ _) | (with_reducible refine Kd.C_drew ?_))); (case side6 => exact (Kd.N_reads' HO340.out).2.1); rintro e w15 ⟨v342, rfl, ho0, hb⟩; refine ⟨_, rfl, ?_⟩; replace HO_3 := aZ_ (Kd.V_below (kV HO_3) hb); have HO343 := aZ_ (Kd.V_lower (Kd.V_mono (ok' := fun k_ => some k_ ≠ (.slice Ao13 t335.length co13 : Value).ownBlock ∧ some k_ ≠ (.slice Ao14 t338.length co14 : Value).ownBlock) ho0 (fun k_ hk_ => ⟨(Kd.fresh' (Kd.R_lt (kR HO337)) k_ hk_), (Kd.fresh' (Kd.N_lt (kN HO340)) k_ hk_)⟩)) (below_size (bl HB))); replace HO337 := aZ_ (Kd.R_below (kR HO337) hb); replace HO340 := aZ_ (Kd.N_below (kN HO340) hb); replace HB := aZ_ (below_step (bl HB) hb); (try clear hb); (try clear hb2); (try clear hk); (try clear hi); (try clear ho0)))
       go_roundg k1
       case measure => have := HK1.out; omega
       case rel => exact ⟨(t341), (wrap64 (x5_1 + 1)), rf_, H', ⟨by have := HK1.out; omega⟩, ⟨by (with_reducible repeat (first | apply Kd.V_alloc | apply Kd.V_drewN | apply Kd.V_drew)); exact Kd.V_mono HO343.out (fun _ hk => trivial)⟩, ⟨bl HB⟩⟩
      ·
       rw [if_neg c8] at H
       exact absurd H (by simp)
     ·
      rw [if_neg c7] at H
      have c7b0 : decide (x5_1 < (l0.length : Int)) = false := decide_eq_false c7
      clear c7
      have H' := aZ_ H
      clear H
      go_wp2
      go_loopg [4, 6] k1 (fun kq v4 v6 w' => ∃ (x4_2 : List (S46)) (x6_2 : Int), v6 = .int .i64 x6_2 ∧ Aside0 (chancellaw8_EntsOrder.l1 kq l0 x3_1 x4_2 x6_2 = some r) ∧ Aside0 (kq ≤ k1) ∧ Aside0 (Kd.V k46 46 w' w.heap.size (fun _ => True) u3 x3_1) ∧ Aside0 (Kd.V k46 46 w' w.heap.size (fun _ => True) v4 x4_2) ∧ Aside0 (Below w.heap.size w w'))
      case atStart => exact ⟨(([] : List (S46))), (wrap64 ((l0.length : Int) - 1)), rf_, H', ⟨Nat.le_refl _⟩, ⟨kV HO_3⟩, ⟨by first | exact Kd.R_nil _ _ _ _ _ | exact Kd.N_nil _ _ _ _ _ | exact Kd.V_nil _ _ _ _ _ | exact Kd.Q_nil _ _ _ _ _ | exact Kd.S_nil _ _ _ _ _⟩, ⟨bl HB⟩⟩
      case round =>
       clear H'
       try clear c2
       try clear p2
       try clear c3
       try clear p3
       try clear q3
       try clear hx3
       try clear c4
       try clear c4b0
       try clear c4b1
       try clear c6
       try clear p6
       try clear c7
       try clear c7b0
       try clear c8
       try clear c8b0
       try clear hx332_0
       try clear hx332_1
       try clear hx332_2
       try clear hx332_3
       try clear hx332_4
       try clear p2
       try clear p332
       try clear q332
       obtain ⟨x4_2, x6_2, rfl, HA, HK2, HO_3, HO_4, HB⟩ := hrel
       cases gk with
       | zero => exact absurd HA.out (by simp [chancellaw8_EntsOrder.l1])
       | succ k2 =>
        have H := HA.out
        clear HA
        simp only [chancellaw8_EntsOrder.l1] at H
        by_cases c16 : x6_2 ≥ 0
        ·
         rw [if_pos c16] at H
         have c16b0 : decide (0 ≤ x6_2) = true := decide_eq_true c16
         clear c16
         by_cases c17 : 0 ≤ x6_2
         ·
          rw [if_pos c17] at H
          have c17b0 : decide (0 ≤ x6_2) = true := decide_eq_true c17
          clear c17
          by_cases c18 : x6_2 < (l0.length : Int)
          ·
           rw [if_pos c18] at H
           have c18b0 : decide (x6_2 < (l0.length : Int)) = true := decide_eq_true c18
           clear c18
           replace H := Option.bind_eq_some_iff.mp H
           obtain ⟨⟨t345, t346, t347, t350⟩, A190, H⟩ := H
           replace H : ((ents_Find.f x4_2 t345 t346).bind fun bt354 => (if bt354.2.2.2.2 = true then (chancellaw8_EntsOrder.l1 k2 l0 x3_1 x4_2 (wrap64 (x6_2 - 1))) else ((ents_Put.f x4_2 t345 t346 t347 t350).bind fun t364 => (chancellaw8_EntsOrder.l1 k2 l0 x3_1 t364 (wrap64 (x6_2 - 1)))))) = some r := H
           have A19 := aZ_ A190
           clear A190
           replace H := Option.bind_eq_some_iff.mp H
           obtain ⟨⟨t354, t355, t356, t359, t362⟩, A200, H⟩ := H
           replace H : (if t362 = true then (chancellaw8_EntsOrder.l1 k2 l0 x3_1 x4_2 (wrap64 (x6_2 - 1))) else ((ents_Put.f x4_2 t345 t346 t347 t350).bind fun t364 => (chancellaw8_EntsOrder.l1 k2 l0 x3_1 t364 (wrap64 (x6_2 - 1))))) = some r := H
           have A20 := aZ_ A200
           clear A200
           by_cases c21 : t362 = true
           ·
            subst c21
            have H1 : (chancellaw8_EntsOrder.l1 k2 l0 x3_1 x4_2 (wrap64 (x6_2 - 1))) = some r := by rw [if_pos rfl] at H; exact H
            clear H
            have H := H1
            clear H1
            have H' := aZ_ H
            clear H
            have p344 : 0 ≤ (x6_2 : Int) := of_decide_eq_true asm_
            have q344 : x6_2 < (l0.length : Int) := of_decide_eq_true asm_
            obtain ⟨ad344, A344_2, c344_2, A344_3, c344_3, A344_4, c344_4, e344, hx344_0, hx344_1, hx344_2, hx344_3, hx344_4, hl344_2, hi344_2, hl344_3, hi344_3, hl344_4, hi344_4⟩ := at_T42 HR0.out x6_2 p344 q344
            cases e344
            replace hx344_0 := (hbc HB.out hx344_0 :)
            replace hx344_1 := (hbc HB.out hx344_1 :)
            replace hx344_2 := (hbc HB.out hx344_2 :)
            replace hx344_3 := (hbc HB.out hx344_3 :)
            replace hx344_4 := (hbc HB.out hx344_4 :)
            have HR344_2 := aZ_ hi344_2
            have HC344_2 := aZ_ hl344_2
            clear hi344_2 hl344_2
            have HR344_3 := aZ_ hi344_3
            have HC344_3 := aZ_ hl344_3
            clear hi344_3 hl344_3
            have HR344_4 := aZ_ hi344_4
            have HC344_4 := aZ_ hl344_4
            clear hi344_4 hl344_4
            replace p344 := eq_true p344
            replace q344 := eq_true q344
            go_wp2_with (first | ((with_reducible refine gate_callee (f := 24) rfl ?_); refine goesL_ (some 40) rfl rfl Try.func24 (by kernel_rfl) rfl #[.agg #[.int .i64 ((rd_T42 l0 x6_2).f0), .int .i64 ((rd_T42 l0 x6_2).f1), .slice A344_2 ((rd_T42 l0 x6_2).f2).length c344_2, .slice A344_3 ((rd_T42 l0 x6_2).f3).length c344_3, .slice A344_4 ((rd_T42 l0 x6_2).f4).length c344_4]] rfl gm_ ?_; (with_reducible refine (chancellaw5_Entity.calls k2 ((rd_T42 l0 x6_2).f0) ((rd_T42 l0 x6_2).f1) _ _ ((rd_T42 l0 x6_2).f2) _ _ ((rd_T42 l0 x6_2).f3) _ _ ((rd_T42 l0 x6_2).f4) t345 t346 t347 t350 _ ?side1 ?side2 ?side3 ?side4 ?side5 ?side6 A19.out).mono ?_); (case side1 => exact kC (Kd.C_below HR344_2.out HB.out)); (case side2 => exact HC344_2.out); (case side3 => exact kC (Kd.C_below HR344_3.out HB.out)); (case side4 => exact HC344_3.out); (case side5 => exact kC (Kd.C_below HR344_4.out HB.out)); (case side6 => exact HC344_4.out); rintro e w22 ⟨v348, v351, rfl, ho0, ho1, hb⟩; refine ⟨_, rfl, ?_⟩; replace HO_3 := aZ_ (Kd.V_mono (Kd.V_told (Kd.V_told (Kd.V_old (kV HO_3) hb) (Kd.R_base ho0)) (by first | exact Kd.N_base ho1 | exact Kd.R_base ho1)) (fun _ h_ => h_.1)); replace HO_4 := aZ_ (Kd.V_mono (Kd.V_told (Kd.V_told (Kd.V_old (kV HO_4) hb) (Kd.R_base ho0)) (by first | exact Kd.N_base ho1 | exact Kd.R_base ho1)) (fun _ h_ => h_.1)); have HO349 := aZ_ (Kd.R_lower (Kd.R_mono (ok' := fun k_ => True) ho0 (fun _ hk_ => trivial)) (below_size (bl HB))); have HO352 := aZ_ (Kd.N_lower (Kd.N_mono (ok' := fun k_ => some k_ ≠ (v348 : Value).ownBlock) ho1 (fun k_ hk_ => hk_.2)) (below_size (bl HB))); replace HB := aZ_ (below_step (bl HB) hb); (try clear hb); (try clear hb2); (try clear hk); (try clear hi); (try clear ho0); (try clear ho1)) | ((with_reducible refine gate_dst (N := 7) rfl ?_); refine bxE 7 #[.string (⟨#[]⟩ : ByteArray), .string (⟨#[]⟩ : ByteArray), .slice none 0 0, .slice none 0 0] 46 ?_; intro gb353 hg w23 hbox hb; replace HO_3 := aZ_ (Kd.V_below (Kd.V_elderB (kV HO_3) gb353 (Nat.le_of_eq hg.symm)) hb); replace HO_4 := aZ_ (Kd.V_below (Kd.V_elderB (kV HO_4) gb353 (Nat.le_of_eq hg.symm)) hb); replace HO349 := aZ_ (Kd.R_below (kR HO349) hb); replace HO352 := aZ_ (Kd.N_below (Kd.N_elderB (kN HO352) gb353 (Nat.le_of_eq hg.symm)) hb); have BK353 := aZ_ (hbox); have GW353 := aZ_ ((by rw [hg]; exact (below_size (bl HB)) : w.heap.size ≤ gb353)); have GE353 := aZ_ ((by rw [hg]; exact (below_size (bl HB)) : w.heap.size ≤ gb353)); replace HB := aZ_ (below_step (bl HB) hb); clear hb hbox hg; obtain ⟨hcz24_0, hcz24_1, hcz24_2, hcz24_3, hfz24_0, hfz24_1, hfz24_2, hfz24_3⟩ := bc4 BK353; obtain ⟨Ao25, co25, eo25⟩ := Kd.R_slice HO349.out; subst eo25; obtain ⟨Ao26, co26, eo26⟩ := Kd.N_slice HO352.out; subst eo26; obtain ⟨Ao27, co27, eo27⟩ := Kd.V_slice HO_4.out; subst eo27) | ((with_reducible refine gate_callee (f := 29) rfl ?_); refine goesL_ (some 45) rfl rfl Try.func29 (by kernel_rfl) rfl #[.slice Ao27 x4_2.length co27, .agg #[.string t345, .string t346]] rfl gm_ ?_; (with_reducible refine (ents_Find.calls _ _ x4_2 t345 t346 t354 t355 t356 t359 true _ ?side1 ?side2 A20.out).mono ?_); (case side1 => refine (Kd.V_reads' (e := 46) (base := w.heap.size) (ok := fun k_ => (((True ∧ some k_ ≠ (.slice Ao25 t347.length co25 : Value).ownBlock) ∧ some k_ ≠ (.slice Ao26 t350.length co26 : Value).ownBlock) ∧ k_ ≠ gb353)) (n := x4_2.length) (c := co27) ?_).2.2; exact (by (with_reducible repeat (first | apply Kd.V_alloc | apply Kd.V_drewN | apply Kd.V_drew)); exact (Kd.V_mono (Kd.V_far (p := ⟨gb353, 3, none⟩) (Kd.V_far (p := ⟨gb353, 2, none⟩) (Kd.V_far (p := ⟨gb353, 1, none⟩) (Kd.V_far (p := ⟨gb353, 0, none⟩) (Kd.V_mono HO_4.out (fun k_ hk => (⟨hk, hk.2⟩ : _ ∧ k_ ≠ gb353))) (fun _ hk => hk.2) (.string t345)) (fun _ hk => hk.2) (.string t346)) (fun _ hk => hk.2) (.slice Ao25 t347.length co25)) (fun _ hk => hk.2) (.slice Ao26 t350.length co26)) (fun _ h_ => h_.1)))); (case side2 => exact (Kd.V_reads' HO_4.out).2.1); rintro e w28 ⟨v357, v360, rfl, ho0, ho1, hb⟩; refine ⟨_, rfl, ?_⟩; replace HO_3 := aZ_ (Kd.V_below (by (with_reducible repeat (first | apply Kd.V_alloc | apply Kd.V_drewN | apply Kd.V_drew)); exact (Kd.V_mono (Kd.V_far (p := ⟨gb353, 3, none⟩) (Kd.V_far (p := ⟨gb353, 2, none⟩) (Kd.V_far (p := ⟨gb353, 1, none⟩) (Kd.V_far (p := ⟨gb353, 0, none⟩) (Kd.V_mono HO_3.out (fun k_ hk => (⟨hk, hk.2⟩ : _ ∧ k_ ≠ gb353))) (fun _ hk => hk.2) (.string t345)) (fun _ hk => hk.2) (.string t346)) (fun _ hk => hk.2) (.slice Ao25 t347.length co25)) (fun _ hk => hk.2) (.slice Ao26 t350.length co26)) (fun _ h_ => h_.1))) hb); replace HO_4 := aZ_ (Kd.V_below (by (with_reducible repeat (first | apply Kd.V_alloc | apply Kd.V_drewN | apply Kd.V_drew)); exact (Kd.V_mono (Kd.V_far (p := ⟨gb353, 3, none⟩) (Kd.V_far (p := ⟨gb353, 2, none⟩) (Kd.V_far (p := ⟨gb353, 1, none⟩) (Kd.V_far (p := ⟨gb353, 0, none⟩) (Kd.V_mono HO_4.out (fun k_ hk => (⟨hk, hk.2⟩ : _ ∧ k_ ≠ gb353))) (fun _ hk => hk.2) (.string t345)) (fun _ hk => hk.2) (.string t346)) (fun _ hk => hk.2) (.slice Ao25 t347.length co25)) (fun _ hk => hk.2) (.slice Ao26 t350.length co26)) (fun _ h_ => h_.1))) hb); have HO358 := aZ_ (Kd.V_lower (Kd.V_mono (ok' := fun k_ => some k_ ≠ (.slice Ao25 t347.length co25 : Value).ownBlock ∧ some k_ ≠ (.slice Ao26 t350.length co26 : Value).ownBlock ∧ k_ ≠ gb353) ho0 (fun k_ hk_ => ⟨(Kd.fresh' (Kd.R_lt (by (with_reducible repeat (first | apply Kd.R_alloc | apply Kd.R_drewN | apply Kd.R_drew)); exact (Kd.R_mono (Kd.R_far (p := ⟨gb353, 3, none⟩) (Kd.R_far (p := ⟨gb353, 2, none⟩) (Kd.R_far (p := ⟨gb353, 1, none⟩) (Kd.R_far (p := ⟨gb353, 0, none⟩) (Kd.R_types HO349.out BK353.out (by decide)) (fun _ hk => hk.2) (.string t345)) (fun _ hk => hk.2) (.string t346)) (fun _ hk => hk.2) (.slice Ao25 t347.length co25)) (fun _ hk => hk.2) (.slice Ao26 t350.length co26)) (fun _ h_ => h_.1)))) k_ hk_), (Kd.fresh' (Kd.N_lt (by (with_reducible repeat (first | apply Kd.N_alloc | apply Kd.N_drewN | apply Kd.N_drew)); exact (Kd.N_mono (Kd.N_far (p := ⟨gb353, 3, none⟩) (Kd.N_far (p := ⟨gb353, 2, none⟩) (Kd.N_far (p := ⟨gb353, 1, none⟩) (Kd.N_far (p := ⟨gb353, 0, none⟩) (Kd.N_mono HO352.out (fun k_ hk => (⟨hk, hk.2⟩ : _ ∧ k_ ≠ gb353))) (fun _ hk => hk.2) (.string t345)) (fun _ hk => hk.2) (.string t346)) (fun _ hk => hk.2) (.slice Ao25 t347.length co25)) (fun _ hk => hk.2) (.slice Ao26 t350.length co26)) (fun _ h_ => h_.1)))) k_ hk_), (Kd.freshB (g := gb353) (o := .cells #[.string t345, .string t346, .slice Ao25 t347.length co25, .slice Ao26 t350.length co26] 46 (0, 0)) (by (with_reducible repeat (first | refine blk_drewN ?_ _ | refine blk_drew ?_ | refine blk_alloc ?_ _)); refine blk_put (cs := #[.string t345, .string t346, .slice Ao25 t347.length co25, .slice none 0 0]) ?_ 3 _ rfl; (with_reducible repeat (first | refine blk_drewN ?_ _ | refine blk_drew ?_ | refine blk_alloc ?_ _)); refine blk_put (cs := #[.string t345, .string t346, .slice none 0 0, .slice none 0 0]) ?_ 2 _ rfl; (with_reducible repeat (first | refine blk_drewN ?_ _ | refine blk_drew ?_ | refine blk_alloc ?_ _)); refine blk_put (cs := #[.string t345, .string (⟨#[]⟩ : ByteArray), .slice none 0 0, .slice none 0 0]) ?_ 1 _ rfl; (with_reducible repeat (first | refine blk_drewN ?_ _ | refine blk_drew ?_ | refine blk_alloc ?_ _)); refine blk_put (cs := #[.string (⟨#[]⟩ : ByteArray), .string (⟨#[]⟩ : ByteArray), .slice none 0 0, .slice none 0 0]) ?_ 0 _ rfl; (with_reducible repeat (first | refine blk_drewN ?_ _ | refine blk_drew ?_ | refine blk_alloc ?_ _)); exact BK353.out) k_ hk_)⟩)) (below_size (bl1 HB GE353))); have HO361 := aZ_ (Kd.V_lower (Kd.V_mono (ok' := fun k_ => some k_ ≠ (.slice Ao25 t347.length co25 : Value).ownBlock ∧ some k_ ≠ (.slice Ao26 t350.length co26 : Value).ownBlock ∧ k_ ≠ gb353) ho1 (fun k_ hk_ => ⟨(Kd.fresh' (Kd.R_lt (by (with_reducible repeat (first | apply Kd.R_alloc | apply Kd.R_drewN | apply Kd.R_drew)); exact (Kd.R_mono (Kd.R_far (p := ⟨gb353, 3, none⟩) (Kd.R_far (p := ⟨gb353, 2, none⟩) (Kd.R_far (p := ⟨gb353, 1, none⟩) (Kd.R_far (p := ⟨gb353, 0, none⟩) (Kd.R_types HO349.out BK353.out (by decide)) (fun _ hk => hk.2) (.string t345)) (fun _ hk => hk.2) (.string t346)) (fun _ hk => hk.2) (.slice Ao25 t347.length co25)) (fun _ hk => hk.2) (.slice Ao26 t350.length co26)) (fun _ h_ => h_.1)))) k_ hk_), (Kd.fresh' (Kd.N_lt (by (with_reducible repeat (first | apply Kd.N_alloc | apply Kd.N_drewN | apply Kd.N_drew)); exact (Kd.N_mono (Kd.N_far (p := ⟨gb353, 3, none⟩) (Kd.N_far (p := ⟨gb353, 2, none⟩) (Kd.N_far (p := ⟨gb353, 1, none⟩) (Kd.N_far (p := ⟨gb353, 0, none⟩) (Kd.N_mono HO352.out (fun k_ hk => (⟨hk, hk.2⟩ : _ ∧ k_ ≠ gb353))) (fun _ hk => hk.2) (.string t345)) (fun _ hk => hk.2) (.string t346)) (fun _ hk => hk.2) (.slice Ao25 t347.length co25)) (fun _ hk => hk.2) (.slice Ao26 t350.length co26)) (fun _ h_ => h_.1)))) k_ hk_), (Kd.freshB (g := gb353) (o := .cells #[.string t345, .string t346, .slice Ao25 t347.length co25, .slice Ao26 t350.length co26] 46 (0, 0)) (by (with_reducible repeat (first | refine blk_drewN ?_ _ | refine blk_drew ?_ | refine blk_alloc ?_ _)); refine blk_put (cs := #[.string t345, .string t346, .slice Ao25 t347.length co25, .slice none 0 0]) ?_ 3 _ rfl; (with_reducible repeat (first | refine blk_drewN ?_ _ | refine blk_drew ?_ | refine blk_alloc ?_ _)); refine blk_put (cs := #[.string t345, .string t346, .slice none 0 0, .slice none 0 0]) ?_ 2 _ rfl; (with_reducible repeat (first | refine blk_drewN ?_ _ | refine blk_drew ?_ | refine blk_alloc ?_ _)); refine blk_put (cs := #[.string t345, .string (⟨#[]⟩ : ByteArray), .slice none 0 0, .slice none 0 0]) ?_ 1 _ rfl; (with_reducible repeat (first | refine blk_drewN ?_ _ | refine blk_drew ?_ | refine blk_alloc ?_ _)); refine blk_put (cs := #[.string (⟨#[]⟩ : ByteArray), .string (⟨#[]⟩ : ByteArray), .slice none 0 0, .slice none 0 0]) ?_ 0 _ rfl; (with_reducible repeat (first | refine blk_drewN ?_ _ | refine blk_drew ?_ | refine blk_alloc ?_ _)); exact BK353.out) k_ hk_)⟩)) (below_size (bl1 HB GE353))); replace HO349 := aZ_ (Kd.R_below (by (with_reducible repeat (first | apply Kd.R_alloc | apply Kd.R_drewN | apply Kd.R_drew)); exact (Kd.R_mono (Kd.R_far (p := ⟨gb353, 3, none⟩) (Kd.R_far (p := ⟨gb353, 2, none⟩) (Kd.R_far (p := ⟨gb353, 1, none⟩) (Kd.R_far (p := ⟨gb353, 0, none⟩) (Kd.R_types HO349.out BK353.out (by decide)) (fun _ hk => hk.2) (.string t345)) (fun _ hk => hk.2) (.string t346)) (fun _ hk => hk.2) (.slice Ao25 t347.length co25)) (fun _ hk => hk.2) (.slice Ao26 t350.length co26)) (fun _ h_ => h_.1))) hb); replace HO352 := aZ_ (Kd.N_below (by (with_reducible repeat (first | apply Kd.N_alloc | apply Kd.N_drewN | apply Kd.N_drew)); exact (Kd.N_mono (Kd.N_far (p := ⟨gb353, 3, none⟩) (Kd.N_far (p := ⟨gb353, 2, none⟩) (Kd.N_far (p := ⟨gb353, 1, none⟩) (Kd.N_far (p := ⟨gb353, 0, none⟩) (Kd.N_mono HO352.out (fun k_ hk => (⟨hk, hk.2⟩ : _ ∧ k_ ≠ gb353))) (fun _ hk => hk.2) (.string t345)) (fun _ hk => hk.2) (.string t346)) (fun _ hk => hk.2) (.slice Ao25 t347.length co25)) (fun _ hk => hk.2) (.slice Ao26 t350.length co26)) (fun _ h_ => h_.1))) hb); replace BK353 := aZ_ (blk_below (g := gb353) (o := .cells #[.string t345, .string t346, .slice Ao25 t347.length co25, .slice Ao26 t350.length co26] 46 (0, 0)) (by (with_reducible repeat (first | refine blk_drewN ?_ _ | refine blk_drew ?_ | refine blk_alloc ?_ _)); refine blk_put (cs := #[.string t345, .string t346, .slice Ao25 t347.length co25, .slice none 0 0]) ?_ 3 _ rfl; (with_reducible repeat (first | refine blk_drewN ?_ _ | refine blk_drew ?_ | refine blk_alloc ?_ _)); refine blk_put (cs := #[.string t345, .string t346, .slice none 0 0, .slice none 0 0]) ?_ 2 _ rfl; (with_reducible repeat (first | refine blk_drewN ?_ _ | refine blk_drew ?_ | refine blk_alloc ?_ _)); refine blk_put (cs := #[.string t345, .string (⟨#[]⟩ : ByteArray), .slice none 0 0, .slice none 0 0]) ?_ 1 _ rfl; (with_reducible repeat (first | refine blk_drewN ?_ _ | refine blk_drew ?_ | refine blk_alloc ?_ _)); refine blk_put (cs := #[.string (⟨#[]⟩ : ByteArray), .string (⟨#[]⟩ : ByteArray), .slice none 0 0, .slice none 0 0]) ?_ 0 _ rfl; (with_reducible repeat (first | refine blk_drewN ?_ _ | refine blk_drew ?_ | refine blk_alloc ?_ _)); exact BK353.out) hb); replace HB := aZ_ (below_step (bl1 HB GE353) hb); (try clear hb); (try clear hb2); (try clear hk); (try clear hi); (try clear ho0); (try clear ho1)) | ((with_reducible refine gate_dst (N := 8) rfl ?_); refine bxE 8 #[.string (⟨#[]⟩ : ByteArray), .string (⟨#[]⟩ : ByteArray), .slice none 0 0, .slice none 0 0] 46 ?_; intro gb363 hg w29 hbox hb; replace HO_3 := aZ_ (Kd.V_below (Kd.V_elderB (kV HO_3) gb363 (Nat.le_of_eq hg.symm)) hb); replace HO_4 := aZ_ (Kd.V_below (Kd.V_elderB (kV HO_4) gb363 (Nat.le_of_eq hg.symm)) hb); replace HO349 := aZ_ (Kd.R_below (kR HO349) hb); replace HO352 := aZ_ (Kd.N_below (Kd.N_elderB (kN HO352) gb363 (Nat.le_of_eq hg.symm)) hb); replace HO358 := aZ_ (Kd.V_below (Kd.V_elderB (kV HO358) gb363 (Nat.le_of_eq hg.symm)) hb); replace HO361 := aZ_ (Kd.V_below (Kd.V_elderB (kV HO361) gb363 (Nat.le_of_eq hg.symm)) hb); have BK363 := aZ_ (hbox); have GW363 := aZ_ ((by rw [hg]; exact (below_size (bl1 HB GE353)) : w.heap.size ≤ gb363)); have GE363 := aZ_ ((by rw [hg]; exact (below_size (bl1 HB GE353)) : w.heap.size ≤ gb363)); replace HB := aZ_ (below_step (bl1 HB GE353) hb); have NB353_363 := aZ_ ((by rw [hg]; exact Nat.ne_of_lt (blk_lt (g := gb353) (o := .cells #[.string t345, .string t346, .slice Ao25 t347.length co25, .slice Ao26 t350.length co26] 46 (0, 0)) (bk BK353)) : gb353 ≠ gb363)); have NB363_353 := aZ_ ((by rw [hg]; exact Nat.ne_of_gt (blk_lt (g := gb353) (o := .cells #[.string t345, .string t346, .slice Ao25 t347.length co25, .slice Ao26 t350.length co26] 46 (0, 0)) (bk BK353)) : gb363 ≠ gb353)); replace BK353 := aZ_ (blk_below (g := gb353) (o := .cells #[.string t345, .string t346, .slice Ao25 t347.length co25, .slice Ao26 t350.length co26] 46 (0, 0)) (bk BK353) hb); clear hb hbox hg; have hnb30 := NB363_353.out; have hnc30 := NB353_363.out; obtain ⟨hcz31_0, hcz31_1, hcz31_2, hcz31_3, hfz31_0, hfz31_1, hfz31_2, hfz31_3⟩ := bc4 BK363; obtain ⟨Ao32, co32, eo32⟩ := Kd.V_slice HO358.out; subst eo32; obtain ⟨Ao33, co33, eo33⟩ := Kd.V_slice HO361.out; subst eo33))
            go_roundg k2
            case measure => have := HK1.out; have := HK2.out; omega
            case rel => exact ⟨(x4_2), (wrap64 (x6_2 - 1)), rf_, H', ⟨by have := HK1.out; have := HK2.out; omega⟩, ⟨by (with_reducible repeat (first | apply Kd.V_alloc | apply Kd.V_drewN | apply Kd.V_drew)); exact Kd.V_mono (Kd.V_far (p := ⟨gb363, 3, none⟩) (Kd.V_far (p := ⟨gb363, 2, none⟩) (Kd.V_far (p := ⟨gb363, 1, none⟩) (Kd.V_far (p := ⟨gb363, 0, none⟩) (Kd.V_mono HO_3.out (fun k_ hk => (⟨hk, hk.2⟩ : _ ∧ k_ ≠ gb363))) (fun _ hk => hk.2) (.string t354)) (fun _ hk => hk.2) (.string t355)) (fun _ hk => hk.2) (.slice Ao32 t356.length co32)) (fun _ hk => hk.2) (.slice Ao33 t359.length co33)) (fun _ hk => trivial)⟩, ⟨by (with_reducible repeat (first | apply Kd.V_alloc | apply Kd.V_drewN | apply Kd.V_drew)); exact Kd.V_mono (Kd.V_far (p := ⟨gb363, 3, none⟩) (Kd.V_far (p := ⟨gb363, 2, none⟩) (Kd.V_far (p := ⟨gb363, 1, none⟩) (Kd.V_far (p := ⟨gb363, 0, none⟩) (Kd.V_mono HO_4.out (fun k_ hk => (⟨hk, hk.2⟩ : _ ∧ k_ ≠ gb363))) (fun _ hk => hk.2) (.string t354)) (fun _ hk => hk.2) (.string t355)) (fun _ hk => hk.2) (.slice Ao32 t356.length co32)) (fun _ hk => hk.2) (.slice Ao33 t359.length co33)) (fun _ hk => trivial)⟩, ⟨bl2 HB GE353 GE363⟩⟩
           ·
            replace c21 := Bool.eq_false_iff.mpr c21
            subst c21
            have H1 : ((ents_Put.f x4_2 t345 t346 t347 t350).bind fun t364 => (chancellaw8_EntsOrder.l1 k2 l0 x3_1 t364 (wrap64 (x6_2 - 1)))) = some r := by rw [if_neg (show ¬ (false = true) by decide)] at H; exact H
            clear H
            have H := H1
            clear H1
            replace H := Option.bind_eq_some_iff.mp H
            obtain ⟨t364, A340, H⟩ := H
            replace H : (chancellaw8_EntsOrder.l1 k2 l0 x3_1 t364 (wrap64 (x6_2 - 1))) = some r := H
            have A34 := aZ_ A340
            clear A340
            have H' := aZ_ H
            clear H
            have p344 : 0 ≤ (x6_2 : Int) := of_decide_eq_true asm_
            have q344 : x6_2 < (l0.length : Int) := of_decide_eq_true asm_
            obtain ⟨ad344, A344_2, c344_2, A344_3, c344_3, A344_4, c344_4, e344, hx344_0, hx344_1, hx344_2, hx344_3, hx344_4, hl344_2, hi344_2, hl344_3, hi344_3, hl344_4, hi344_4⟩ := at_T42 HR0.out x6_2 p344 q344
            cases e344
            replace hx344_0 := (hbc HB.out hx344_0 :)
            replace hx344_1 := (hbc HB.out hx344_1 :)
            replace hx344_2 := (hbc HB.out hx344_2 :)
            replace hx344_3 := (hbc HB.out hx344_3 :)
            replace hx344_4 := (hbc HB.out hx344_4 :)
            have HR344_2 := aZ_ hi344_2
            have HC344_2 := aZ_ hl344_2
            clear hi344_2 hl344_2
            have HR344_3 := aZ_ hi344_3
            have HC344_3 := aZ_ hl344_3
            clear hi344_3 hl344_3
            have HR344_4 := aZ_ hi344_4
            have HC344_4 := aZ_ hl344_4
            clear hi344_4 hl344_4
            replace p344 := eq_true p344
            replace q344 := eq_true q344
            go_wp2_with (first | ((with_reducible refine gate_callee (f := 24) rfl ?_); refine goesL_ (some 40) rfl rfl Try.func24 (by kernel_rfl) rfl #[.agg #[.int .i64 ((rd_T42 l0 x6_2).f0), .int .i64 ((rd_T42 l0 x6_2).f1), .slice A344_2 ((rd_T42 l0 x6_2).f2).length c344_2, .slice A344_3 ((rd_T42 l0 x6_2).f3).length c344_3, .slice A344_4 ((rd_T42 l0 x6_2).f4).length c344_4]] rfl gm_ ?_; (with_reducible refine (chancellaw5_Entity.calls k2 ((rd_T42 l0 x6_2).f0) ((rd_T42 l0 x6_2).f1) _ _ ((rd_T42 l0 x6_2).f2) _ _ ((rd_T42 l0 x6_2).f3) _ _ ((rd_T42 l0 x6_2).f4) t345 t346 t347 t350 _ ?side1 ?side2 ?side3 ?side4 ?side5 ?side6 A19.out).mono ?_); (case side1 => exact kC (Kd.C_below HR344_2.out HB.out)); (case side2 => exact HC344_2.out); (case side3 => exact kC (Kd.C_below HR344_3.out HB.out)); (case side4 => exact HC344_3.out); (case side5 => exact kC (Kd.C_below HR344_4.out HB.out)); (case side6 => exact HC344_4.out); rintro e w35 ⟨v348, v351, rfl, ho0, ho1, hb⟩; refine ⟨_, rfl, ?_⟩; replace HO_3 := aZ_ (Kd.V_mono (Kd.V_told (Kd.V_told (Kd.V_old (kV HO_3) hb) (Kd.R_base ho0)) (by first | exact Kd.N_base ho1 | exact Kd.R_base ho1)) (fun _ h_ => h_.1)); replace HO_4 := aZ_ (Kd.V_mono (Kd.V_told (Kd.V_told (Kd.V_old (kV HO_4) hb) (Kd.R_base ho0)) (by first | exact Kd.N_base ho1 | exact Kd.R_base ho1)) (fun _ h_ => h_.1)); have HO349 := aZ_ (Kd.R_lower (Kd.R_mono (ok' := fun k_ => True) ho0 (fun _ hk_ => trivial)) (below_size (bl HB))); have HO352 := aZ_ (Kd.N_lower (Kd.N_mono (ok' := fun k_ => some k_ ≠ (v348 : Value).ownBlock) ho1 (fun k_ hk_ => hk_.2)) (below_size (bl HB))); replace HB := aZ_ (below_step (bl HB) hb); (try clear hb); (try clear hb2); (try clear hk); (try clear hi); (try clear ho0); (try clear ho1)) | ((with_reducible refine gate_dst (N := 7) rfl ?_); refine bxE 7 #[.string (⟨#[]⟩ : ByteArray), .string (⟨#[]⟩ : ByteArray), .slice none 0 0, .slice none 0 0] 46 ?_; intro gb353 hg w36 hbox hb; replace HO_3 := aZ_ (Kd.V_below (Kd.V_elderB (kV HO_3) gb353 (Nat.le_of_eq hg.symm)) hb); replace HO_4 := aZ_ (Kd.V_below (Kd.V_elderB (kV HO_4) gb353 (Nat.le_of_eq hg.symm)) hb); replace HO349 := aZ_ (Kd.R_below (kR HO349) hb); replace HO352 := aZ_ (Kd.N_below (Kd.N_elderB (kN HO352) gb353 (Nat.le_of_eq hg.symm)) hb); have BK353 := aZ_ (hbox); have GW353 := aZ_ ((by rw [hg]; exact (below_size (bl HB)) : w.heap.size ≤ gb353)); have GE353 := aZ_ ((by rw [hg]; exact (below_size (bl HB)) : w.heap.size ≤ gb353)); replace HB := aZ_ (below_step (bl HB) hb); clear hb hbox hg; obtain ⟨hcz37_0, hcz37_1, hcz37_2, hcz37_3, hfz37_0, hfz37_1, hfz37_2, hfz37_3⟩ := bc4 BK353; obtain ⟨Ao38, co38, eo38⟩ := Kd.R_slice HO349.out; subst eo38; obtain ⟨Ao39, co39, eo39⟩ := Kd.N_slice HO352.out; subst eo39; obtain ⟨Ao40, co40, eo40⟩ := Kd.V_slice HO_4.out; subst eo40) | ((with_reducible refine gate_callee (f := 29) rfl ?_); refine goesL_ (some 45) rfl rfl Try.func29 (by kernel_rfl) rfl #[.slice Ao40 x4_2.length co40, .agg #[.string t345, .string t346]] rfl gm_ ?_; (with_reducible refine (ents_Find.calls _ _ x4_2 t345 t346 t354 t355 t356 t359 false _ ?side1 ?side2 A20.out).mono ?_); (case side1 => refine (Kd.V_reads' (e := 46) (base := w.heap.size) (ok := fun k_ => (((True ∧ some k_ ≠ (.slice Ao38 t347.length co38 : Value).ownBlock) ∧ some k_ ≠ (.slice Ao39 t350.length co39 : Value).ownBlock) ∧ k_ ≠ gb353)) (n := x4_2.length) (c := co40) ?_).2.2; exact (by (with_reducible repeat (first | apply Kd.V_alloc | apply Kd.V_drewN | apply Kd.V_drew)); exact (Kd.V_mono (Kd.V_far (p := ⟨gb353, 3, none⟩) (Kd.V_far (p := ⟨gb353, 2, none⟩) (Kd.V_far (p := ⟨gb353, 1, none⟩) (Kd.V_far (p := ⟨gb353, 0, none⟩) (Kd.V_mono HO_4.out (fun k_ hk => (⟨hk, hk.2⟩ : _ ∧ k_ ≠ gb353))) (fun _ hk => hk.2) (.string t345)) (fun _ hk => hk.2) (.string t346)) (fun _ hk => hk.2) (.slice Ao38 t347.length co38)) (fun _ hk => hk.2) (.slice Ao39 t350.length co39)) (fun _ h_ => h_.1)))); (case side2 => exact (Kd.V_reads' HO_4.out).2.1); rintro e w41 ⟨v357, v360, rfl, ho0, ho1, hb⟩; refine ⟨_, rfl, ?_⟩; replace HO_3 := aZ_ (Kd.V_below (by (with_reducible repeat (first | apply Kd.V_alloc | apply Kd.V_drewN | apply Kd.V_drew)); exact (Kd.V_mono (Kd.V_far (p := ⟨gb353, 3, none⟩) (Kd.V_far (p := ⟨gb353, 2, none⟩) (Kd.V_far (p := ⟨gb353, 1, none⟩) (Kd.V_far (p := ⟨gb353, 0, none⟩) (Kd.V_mono HO_3.out (fun k_ hk => (⟨hk, hk.2⟩ : _ ∧ k_ ≠ gb353))) (fun _ hk => hk.2) (.string t345)) (fun _ hk => hk.2) (.string t346)) (fun _ hk => hk.2) (.slice Ao38 t347.length co38)) (fun _ hk => hk.2) (.slice Ao39 t350.length co39)) (fun _ h_ => h_.1))) hb); replace HO_4 := aZ_ (Kd.V_below (by (with_reducible repeat (first | apply Kd.V_alloc | apply Kd.V_drewN | apply Kd.V_drew)); exact (Kd.V_mono (Kd.V_far (p := ⟨gb353, 3, none⟩) (Kd.V_far (p := ⟨gb353, 2, none⟩) (Kd.V_far (p := ⟨gb353, 1, none⟩) (Kd.V_far (p := ⟨gb353, 0, none⟩) (Kd.V_mono HO_4.out (fun k_ hk => (⟨hk, hk.2⟩ : _ ∧ k_ ≠ gb353))) (fun _ hk => hk.2) (.string t345)) (fun _ hk => hk.2) (.string t346)) (fun _ hk => hk.2) (.slice Ao38 t347.length co38)) (fun _ hk => hk.2) (.slice Ao39 t350.length co39)) (fun _ h_ => h_.1))) hb); have HO358 := aZ_ (Kd.V_lower (Kd.V_mono (ok' := fun k_ => some k_ ≠ (.slice Ao38 t347.length co38 : Value).ownBlock ∧ some k_ ≠ (.slice Ao39 t350.length co39 : Value).ownBlock ∧ k_ ≠ gb353) ho0 (fun k_ hk_ => ⟨(Kd.fresh' (Kd.R_lt (by (with_reducible repeat (first | apply Kd.R_alloc | apply Kd.R_drewN | apply Kd.R_drew)); exact (Kd.R_mono (Kd.R_far (p := ⟨gb353, 3, none⟩) (Kd.R_far (p := ⟨gb353, 2, none⟩) (Kd.R_far (p := ⟨gb353, 1, none⟩) (Kd.R_far (p := ⟨gb353, 0, none⟩) (Kd.R_types HO349.out BK353.out (by decide)) (fun _ hk => hk.2) (.string t345)) (fun _ hk => hk.2) (.string t346)) (fun _ hk => hk.2) (.slice Ao38 t347.length co38)) (fun _ hk => hk.2) (.slice Ao39 t350.length co39)) (fun _ h_ => h_.1)))) k_ hk_), (Kd.fresh' (Kd.N_lt (by (with_reducible repeat (first | apply Kd.N_alloc | apply Kd.N_drewN | apply Kd.N_drew)); exact (Kd.N_mono (Kd.N_far (p := ⟨gb353, 3, none⟩) (Kd.N_far (p := ⟨gb353, 2, none⟩) (Kd.N_far (p := ⟨gb353, 1, none⟩) (Kd.N_far (p := ⟨gb353, 0, none⟩) (Kd.N_mono HO352.out (fun k_ hk => (⟨hk, hk.2⟩ : _ ∧ k_ ≠ gb353))) (fun _ hk => hk.2) (.string t345)) (fun _ hk => hk.2) (.string t346)) (fun _ hk => hk.2) (.slice Ao38 t347.length co38)) (fun _ hk => hk.2) (.slice Ao39 t350.length co39)) (fun _ h_ => h_.1)))) k_ hk_), (Kd.freshB (g := gb353) (o := .cells #[.string t345, .string t346, .slice Ao38 t347.length co38, .slice Ao39 t350.length co39] 46 (0, 0)) (by (with_reducible repeat (first | refine blk_drewN ?_ _ | refine blk_drew ?_ | refine blk_alloc ?_ _)); refine blk_put (cs := #[.string t345, .string t346, .slice Ao38 t347.length co38, .slice none 0 0]) ?_ 3 _ rfl; (with_reducible repeat (first | refine blk_drewN ?_ _ | refine blk_drew ?_ | refine blk_alloc ?_ _)); refine blk_put (cs := #[.string t345, .string t346, .slice none 0 0, .slice none 0 0]) ?_ 2 _ rfl; (with_reducible repeat (first | refine blk_drewN ?_ _ | refine blk_drew ?_ | refine blk_alloc ?_ _)); refine blk_put (cs := #[.string t345, .string (⟨#[]⟩ : ByteArray), .slice none 0 0, .slice none 0 0]) ?_ 1 _ rfl; (with_reducible repeat (first | refine blk_drewN ?_ _ | refine blk_drew ?_ | refine blk_alloc ?_ _)); refine blk_put (cs := #[.string (⟨#[]⟩ : ByteArray), .string (⟨#[]⟩ : ByteArray), .slice none 0 0, .slice none 0 0]) ?_ 0 _ rfl; (with_reducible repeat (first | refine blk_drewN ?_ _ | refine blk_drew ?_ | refine blk_alloc ?_ _)); exact BK353.out) k_ hk_)⟩)) (below_size (bl1 HB GE353))); have HO361 := aZ_ (Kd.V_lower (Kd.V_mono (ok' := fun k_ => some k_ ≠ (.slice Ao38 t347.length co38 : Value).ownBlock ∧ some k_ ≠ (.slice Ao39 t350.length co39 : Value).ownBlock ∧ k_ ≠ gb353) ho1 (fun k_ hk_ => ⟨(Kd.fresh' (Kd.R_lt (by (with_reducible repeat (first | apply Kd.R_alloc | apply Kd.R_drewN | apply Kd.R_drew)); exact (Kd.R_mono (Kd.R_far (p := ⟨gb353, 3, none⟩) (Kd.R_far (p := ⟨gb353, 2, none⟩) (Kd.R_far (p := ⟨gb353, 1, none⟩) (Kd.R_far (p := ⟨gb353, 0, none⟩) (Kd.R_types HO349.out BK353.out (by decide)) (fun _ hk => hk.2) (.string t345)) (fun _ hk => hk.2) (.string t346)) (fun _ hk => hk.2) (.slice Ao38 t347.length co38)) (fun _ hk => hk.2) (.slice Ao39 t350.length co39)) (fun _ h_ => h_.1)))) k_ hk_), (Kd.fresh' (Kd.N_lt (by (with_reducible repeat (first | apply Kd.N_alloc | apply Kd.N_drewN | apply Kd.N_drew)); exact (Kd.N_mono (Kd.N_far (p := ⟨gb353, 3, none⟩) (Kd.N_far (p := ⟨gb353, 2, none⟩) (Kd.N_far (p := ⟨gb353, 1, none⟩) (Kd.N_far (p := ⟨gb353, 0, none⟩) (Kd.N_mono HO352.out (fun k_ hk => (⟨hk, hk.2⟩ : _ ∧ k_ ≠ gb353))) (fun _ hk => hk.2) (.string t345)) (fun _ hk => hk.2) (.string t346)) (fun _ hk => hk.2) (.slice Ao38 t347.length co38)) (fun _ hk => hk.2) (.slice Ao39 t350.length co39)) (fun _ h_ => h_.1)))) k_ hk_), (Kd.freshB (g := gb353) (o := .cells #[.string t345, .string t346, .slice Ao38 t347.length co38, .slice Ao39 t350.length co39] 46 (0, 0)) (by (with_reducible repeat (first | refine blk_drewN ?_ _ | refine blk_drew ?_ | refine blk_alloc ?_ _)); refine blk_put (cs := #[.string t345, .string t346, .slice Ao38 t347.length co38, .slice none 0 0]) ?_ 3 _ rfl; (with_reducible repeat (first | refine blk_drewN ?_ _ | refine blk_drew ?_ | refine blk_alloc ?_ _)); refine blk_put (cs := #[.string t345, .string t346, .slice none 0 0, .slice none 0 0]) ?_ 2 _ rfl; (with_reducible repeat (first | refine blk_drewN ?_ _ | refine blk_drew ?_ | refine blk_alloc ?_ _)); refine blk_put (cs := #[.string t345, .string (⟨#[]⟩ : ByteArray), .slice none 0 0, .slice none 0 0]) ?_ 1 _ rfl; (with_reducible repeat (first | refine blk_drewN ?_ _ | refine blk_drew ?_ | refine blk_alloc ?_ _)); refine blk_put (cs := #[.string (⟨#[]⟩ : ByteArray), .string (⟨#[]⟩ : ByteArray), .slice none 0 0, .slice none 0 0]) ?_ 0 _ rfl; (with_reducible repeat (first | refine blk_drewN ?_ _ | refine blk_drew ?_ | refine blk_alloc ?_ _)); exact BK353.out) k_ hk_)⟩)) (below_size (bl1 HB GE353))); replace HO349 := aZ_ (Kd.R_below (by (with_reducible repeat (first | apply Kd.R_alloc | apply Kd.R_drewN | apply Kd.R_drew)); exact (Kd.R_mono (Kd.R_far (p := ⟨gb353, 3, none⟩) (Kd.R_far (p := ⟨gb353, 2, none⟩) (Kd.R_far (p := ⟨gb353, 1, none⟩) (Kd.R_far (p := ⟨gb353, 0, none⟩) (Kd.R_types HO349.out BK353.out (by decide)) (fun _ hk => hk.2) (.string t345)) (fun _ hk => hk.2) (.string t346)) (fun _ hk => hk.2) (.slice Ao38 t347.length co38)) (fun _ hk => hk.2) (.slice Ao39 t350.length co39)) (fun _ h_ => h_.1))) hb); replace HO352 := aZ_ (Kd.N_below (by (with_reducible repeat (first | apply Kd.N_alloc | apply Kd.N_drewN | apply Kd.N_drew)); exact (Kd.N_mono (Kd.N_far (p := ⟨gb353, 3, none⟩) (Kd.N_far (p := ⟨gb353, 2, none⟩) (Kd.N_far (p := ⟨gb353, 1, none⟩) (Kd.N_far (p := ⟨gb353, 0, none⟩) (Kd.N_mono HO352.out (fun k_ hk => (⟨hk, hk.2⟩ : _ ∧ k_ ≠ gb353))) (fun _ hk => hk.2) (.string t345)) (fun _ hk => hk.2) (.string t346)) (fun _ hk => hk.2) (.slice Ao38 t347.length co38)) (fun _ hk => hk.2) (.slice Ao39 t350.length co39)) (fun _ h_ => h_.1))) hb); replace BK353 := aZ_ (blk_below (g := gb353) (o := .cells #[.string t345, .string t346, .slice Ao38 t347.length co38, .slice Ao39 t350.length co39] 46 (0, 0)) (by (with_reducible repeat (first | refine blk_drewN ?_ _ | refine blk_drew ?_ | refine blk_alloc ?_ _)); refine blk_put (cs := #[.string t345, .string t346, .slice Ao38 t347.length co38, .slice none 0 0]) ?_ 3 _ rfl; (with_reducible repeat (first | refine blk_drewN ?_ _ | refine blk_drew ?_ | refine blk_alloc ?_ _)); refine blk_put (cs := #[.string t345, .string t346, .slice none 0 0, .slice none 0 0]) ?_ 2 _ rfl; (with_reducible repeat (first | refine blk_drewN ?_ _ | refine blk_drew ?_ | refine blk_alloc ?_ _)); refine blk_put (cs := #[.string t345, .string (⟨#[]⟩ : ByteArray), .slice none 0 0, .slice none 0 0]) ?_ 1 _ rfl; (with_reducible repeat (first | refine blk_drewN ?_ _ | refine blk_drew ?_ | refine blk_alloc ?_ _)); refine blk_put (cs := #[.string (⟨#[]⟩ : ByteArray), .string (⟨#[]⟩ : ByteArray), .slice none 0 0, .slice none 0 0]) ?_ 0 _ rfl; (with_reducible repeat (first | refine blk_drewN ?_ _ | refine blk_drew ?_ | refine blk_alloc ?_ _)); exact BK353.out) hb); replace HB := aZ_ (below_step (bl1 HB GE353) hb); (try clear hb); (try clear hb2); (try clear hk); (try clear hi); (try clear ho0); (try clear ho1)) | ((with_reducible refine gate_dst (N := 8) rfl ?_); refine bxE 8 #[.string (⟨#[]⟩ : ByteArray), .string (⟨#[]⟩ : ByteArray), .slice none 0 0, .slice none 0 0] 46 ?_; intro gb363 hg w42 hbox hb; replace HO_3 := aZ_ (Kd.V_below (Kd.V_elderB (kV HO_3) gb363 (Nat.le_of_eq hg.symm)) hb); replace HO_4 := aZ_ (Kd.V_below (Kd.V_elderB (kV HO_4) gb363 (Nat.le_of_eq hg.symm)) hb); replace HO349 := aZ_ (Kd.R_below (kR HO349) hb); replace HO352 := aZ_ (Kd.N_below (Kd.N_elderB (kN HO352) gb363 (Nat.le_of_eq hg.symm)) hb); replace HO358 := aZ_ (Kd.V_below (Kd.V_elderB (kV HO358) gb363 (Nat.le_of_eq hg.symm)) hb); replace HO361 := aZ_ (Kd.V_below (Kd.V_elderB (kV HO361) gb363 (Nat.le_of_eq hg.symm)) hb); have BK363 := aZ_ (hbox); have GW363 := aZ_ ((by rw [hg]; exact (below_size (bl1 HB GE353)) : w.heap.size ≤ gb363)); have GE363 := aZ_ ((by rw [hg]; exact (below_size (bl1 HB GE353)) : w.heap.size ≤ gb363)); replace HB := aZ_ (below_step (bl1 HB GE353) hb); have NB353_363 := aZ_ ((by rw [hg]; exact Nat.ne_of_lt (blk_lt (g := gb353) (o := .cells #[.string t345, .string t346, .slice Ao38 t347.length co38, .slice Ao39 t350.length co39] 46 (0, 0)) (bk BK353)) : gb353 ≠ gb363)); have NB363_353 := aZ_ ((by rw [hg]; exact Nat.ne_of_gt (blk_lt (g := gb353) (o := .cells #[.string t345, .string t346, .slice Ao38 t347.length co38, .slice Ao39 t350.length co39] 46 (0, 0)) (bk BK353)) : gb363 ≠ gb353)); replace BK353 := aZ_ (blk_below (g := gb353) (o := .cells #[.string t345, .string t346, .slice Ao38 t347.length co38, .slice Ao39 t350.length co39] 46 (0, 0)) (bk BK353) hb); clear hb hbox hg; have hnb43 := NB363_353.out; have hnc43 := NB353_363.out; obtain ⟨hcz44_0, hcz44_1, hcz44_2, hcz44_3, hfz44_0, hfz44_1, hfz44_2, hfz44_3⟩ := bc4 BK363; obtain ⟨Ao45, co45, eo45⟩ := Kd.V_slice HO358.out; subst eo45; obtain ⟨Ao46, co46, eo46⟩ := Kd.V_slice HO361.out; subst eo46; obtain ⟨hcz47_0, hcz47_1, hcz47_2, hcz47_3, hfz47_0, hfz47_1, hfz47_2, hfz47_3⟩ := bc4 BK353) | ((with_reducible refine gate_callee (f := 28) rfl ?_); refine goesL_ (some 52) rfl rfl Try.func28 (by kernel_rfl) rfl #[.slice Ao40 x4_2.length co40, .agg #[.string t345, .string t346, .slice Ao38 t347.length co38, .slice Ao39 t350.length co39]] rfl gm_ ?_; (with_reducible refine (ents_Put.calls _ _ x4_2 t345 t346 _ _ t347 _ _ t350 t364 _ ?side1 ?side2 ?side3 ?side4 ?side5 ?side6 A34.out).mono ?_); (case side1 => refine (Kd.V_reads' (e := 46) (base := w.heap.size) (ok := fun k_ => ((((True ∧ some k_ ≠ (.slice Ao38 t347.length co38 : Value).ownBlock) ∧ some k_ ≠ (.slice Ao39 t350.length co39 : Value).ownBlock) ∧ k_ ≠ gb353) ∧ k_ ≠ gb363)) (n := x4_2.length) (c := co40) ?_).2.2; exact (by (with_reducible repeat (first | apply Kd.V_alloc | apply Kd.V_drewN | apply Kd.V_drew)); exact (Kd.V_mono (Kd.V_far (p := ⟨gb363, 3, none⟩) (Kd.V_far (p := ⟨gb363, 2, none⟩) (Kd.V_far (p := ⟨gb363, 1, none⟩) (Kd.V_far (p := ⟨gb363, 0, none⟩) (Kd.V_mono HO_4.out (fun k_ hk => (⟨hk, hk.2⟩ : _ ∧ k_ ≠ gb363))) (fun _ hk => hk.2) (.string t354)) (fun _ hk => hk.2) (.string t355)) (fun _ hk => hk.2) (.slice Ao45 t356.length co45)) (fun _ hk => hk.2) (.slice Ao46 t359.length co46)) (fun _ h_ => h_.1)))); (case side2 => exact (Kd.V_reads' HO_4.out).2.1); (case side3 => refine (Kd.R_reads' (e := 28) (base := w.heap.size) (ok := fun k_ => True) (n := t347.length) (c := co38) ?_).2.2; exact (by (with_reducible repeat (first | apply Kd.R_alloc | apply Kd.R_drewN | apply Kd.R_drew)); exact (Kd.R_mono (Kd.R_far (p := ⟨gb363, 3, none⟩) (Kd.R_far (p := ⟨gb363, 2, none⟩) (Kd.R_far (p := ⟨gb363, 1, none⟩) (Kd.R_far (p := ⟨gb363, 0, none⟩) (Kd.R_types HO349.out BK363.out (by decide)) (fun _ hk => hk.2) (.string t354)) (fun _ hk => hk.2) (.string t355)) (fun _ hk => hk.2) (.slice Ao45 t356.length co45)) (fun _ hk => hk.2) (.slice Ao46 t359.length co46)) (fun _ h_ => h_.1)))); (case side4 => exact (Kd.R_reads' HO349.out).2.1); (case side5 => refine (Kd.N_reads' (e := 49) (base := w.heap.size) (ok := fun k_ => ((some k_ ≠ (.slice Ao38 t347.length co38 : Value).ownBlock ∧ k_ ≠ gb353) ∧ k_ ≠ gb363)) (n := t350.length) (c := co39) ?_).2.2; exact (by (with_reducible repeat (first | apply Kd.N_alloc | apply Kd.N_drewN | apply Kd.N_drew)); exact (Kd.N_mono (Kd.N_far (p := ⟨gb363, 3, none⟩) (Kd.N_far (p := ⟨gb363, 2, none⟩) (Kd.N_far (p := ⟨gb363, 1, none⟩) (Kd.N_far (p := ⟨gb363, 0, none⟩) (Kd.N_mono HO352.out (fun k_ hk => (⟨hk, hk.2⟩ : _ ∧ k_ ≠ gb363))) (fun _ hk => hk.2) (.string t354)) (fun _ hk => hk.2) (.string t355)) (fun _ hk => hk.2) (.slice Ao45 t356.length co45)) (fun _ hk => hk.2) (.slice Ao46 t359.length co46)) (fun _ h_ => h_.1)))); (case side6 => exact (Kd.N_reads' HO352.out).2.1); rintro e w48 ⟨v365, rfl, ho0, hb⟩; refine ⟨_, rfl, ?_⟩; replace HO_3 := aZ_ (Kd.V_below (by (with_reducible repeat (first | apply Kd.V_alloc | apply Kd.V_drewN | apply Kd.V_drew)); exact (Kd.V_mono (Kd.V_far (p := ⟨gb363, 3, none⟩) (Kd.V_far (p := ⟨gb363, 2, none⟩) (Kd.V_far (p := ⟨gb363, 1, none⟩) (Kd.V_far (p := ⟨gb363, 0, none⟩) (Kd.V_mono HO_3.out (fun k_ hk => (⟨hk, hk.2⟩ : _ ∧ k_ ≠ gb363))) (fun _ hk => hk.2) (.string t354)) (fun _ hk => hk.2) (.string t355)) (fun _ hk => hk.2) (.slice Ao45 t356.length co45)) (fun _ hk => hk.2) (.slice Ao46 t359.length co46)) (fun _ h_ => h_.1))) hb); replace HO_4 := aZ_ (Kd.V_below (by (with_reducible repeat (first | apply Kd.V_alloc | apply Kd.V_drewN | apply Kd.V_drew)); exact (Kd.V_mono (Kd.V_far (p := ⟨gb363, 3, none⟩) (Kd.V_far (p := ⟨gb363, 2, none⟩) (Kd.V_far (p := ⟨gb363, 1, none⟩) (Kd.V_far (p := ⟨gb363, 0, none⟩) (Kd.V_mono HO_4.out (fun k_ hk => (⟨hk, hk.2⟩ : _ ∧ k_ ≠ gb363))) (fun _ hk => hk.2) (.string t354)) (fun _ hk => hk.2) (.string t355)) (fun _ hk => hk.2) (.slice Ao45 t356.length co45)) (fun _ hk => hk.2) (.slice Ao46 t359.length co46)) (fun _ h_ => h_.1))) hb); replace HO358 := aZ_ (Kd.V_below (by (with_reducible repeat (first | apply Kd.V_alloc | apply Kd.V_drewN | apply Kd.V_drew)); exact (Kd.V_mono (Kd.V_far (p := ⟨gb363, 3, none⟩) (Kd.V_far (p := ⟨gb363, 2, none⟩) (Kd.V_far (p := ⟨gb363, 1, none⟩) (Kd.V_far (p := ⟨gb363, 0, none⟩) (Kd.V_mono HO358.out (fun k_ hk => (⟨hk, hk.2⟩ : _ ∧ k_ ≠ gb363))) (fun _ hk => hk.2) (.string t354)) (fun _ hk => hk.2) (.string t355)) (fun _ hk => hk.2) (.slice Ao45 t356.length co45)) (fun _ hk => hk.2) (.slice Ao46 t359.length co46)) (fun _ h_ => h_.1))) hb); replace HO361 := aZ_ (Kd.V_below (by (with_reducible repeat (first | apply Kd.V_alloc | apply Kd.V_drewN | apply Kd.V_drew)); exact (Kd.V_mono (Kd.V_far (p := ⟨gb363, 3, none⟩) (Kd.V_far (p := ⟨gb363, 2, none⟩) (Kd.V_far (p := ⟨gb363, 1, none⟩) (Kd.V_far (p := ⟨gb363, 0, none⟩) (Kd.V_mono HO361.out (fun k_ hk => (⟨hk, hk.2⟩ : _ ∧ k_ ≠ gb363))) (fun _ hk => hk.2) (.string t354)) (fun _ hk => hk.2) (.string t355)) (fun _ hk => hk.2) (.slice Ao45 t356.length co45)) (fun _ hk => hk.2) (.slice Ao46 t359.length co46)) (fun _ h_ => h_.1))) hb); have HO366 := aZ_ (Kd.V_lower (Kd.V_mono (ok' := fun k_ => some k_ ≠ (.slice Ao38 t347.length co38 : Value).ownBlock ∧ some k_ ≠ (.slice Ao39 t350.length co39 : Value).ownBlock ∧ k_ ≠ gb353 ∧ k_ ≠ gb363) ho0 (fun k_ hk_ => ⟨(Kd.fresh' (Kd.R_lt (by (with_reducible repeat (first | apply Kd.R_alloc | apply Kd.R_drewN | apply Kd.R_drew)); exact (Kd.R_mono (Kd.R_far (p := ⟨gb363, 3, none⟩) (Kd.R_far (p := ⟨gb363, 2, none⟩) (Kd.R_far (p := ⟨gb363, 1, none⟩) (Kd.R_far (p := ⟨gb363, 0, none⟩) (Kd.R_types HO349.out BK363.out (by decide)) (fun _ hk => hk.2) (.string t354)) (fun _ hk => hk.2) (.string t355)) (fun _ hk => hk.2) (.slice Ao45 t356.length co45)) (fun _ hk => hk.2) (.slice Ao46 t359.length co46)) (fun _ h_ => h_.1)))) k_ hk_), (Kd.fresh' (Kd.N_lt (by (with_reducible repeat (first | apply Kd.N_alloc | apply Kd.N_drewN | apply Kd.N_drew)); exact (Kd.N_mono (Kd.N_far (p := ⟨gb363, 3, none⟩) (Kd.N_far (p := ⟨gb363, 2, none⟩) (Kd.N_far (p := ⟨gb363, 1, none⟩) (Kd.N_far (p := ⟨gb363, 0, none⟩) (Kd.N_mono HO352.out (fun k_ hk => (⟨hk, hk.2⟩ : _ ∧ k_ ≠ gb363))) (fun _ hk => hk.2) (.string t354)) (fun _ hk => hk.2) (.string t355)) (fun _ hk => hk.2) (.slice Ao45 t356.length co45)) (fun _ hk => hk.2) (.slice Ao46 t359.length co46)) (fun _ h_ => h_.1)))) k_ hk_), (Kd.freshB (g := gb353) (o := .cells #[.string t345, .string t346, .slice Ao38 t347.length co38, .slice Ao39 t350.length co39] 46 (0, 0)) (by (with_reducible repeat (first | refine blk_drewN ?_ _ | refine blk_drew ?_ | refine blk_alloc ?_ _)); refine blk_far ?_ NB353_363.out _; (with_reducible repeat (first | refine blk_drewN ?_ _ | refine blk_drew ?_ | refine blk_alloc ?_ _)); refine blk_far ?_ NB353_363.out _; (with_reducible repeat (first | refine blk_drewN ?_ _ | refine blk_drew ?_ | refine blk_alloc ?_ _)); refine blk_far ?_ NB353_363.out _; (with_reducible repeat (first | refine blk_drewN ?_ _ | refine blk_drew ?_ | refine blk_alloc ?_ _)); refine blk_far ?_ NB353_363.out _; (with_reducible repeat (first | refine blk_drewN ?_ _ | refine blk_drew ?_ | refine blk_alloc ?_ _)); exact BK353.out) k_ hk_), (Kd.freshB (g := gb363) (o := .cells #[.string t354, .string t355, .slice Ao45 t356.length co45, .slice Ao46 t359.length co46] 46 (0, 0)) (by (with_reducible repeat (first | refine blk_drewN ?_ _ | refine blk_drew ?_ | refine blk_alloc ?_ _)); refine blk_put (cs := #[.string t354, .string t355, .slice Ao45 t356.length co45, .slice none 0 0]) ?_ 3 _ rfl; (with_reducible repeat (first | refine blk_drewN ?_ _ | refine blk_drew ?_ | refine blk_alloc ?_ _)); refine blk_put (cs := #[.string t354, .string t355, .slice none 0 0, .slice none 0 0]) ?_ 2 _ rfl; (with_reducible repeat (first | refine blk_drewN ?_ _ | refine blk_drew ?_ | refine blk_alloc ?_ _)); refine blk_put (cs := #[.string t354, .string (⟨#[]⟩ : ByteArray), .slice none 0 0, .slice none 0 0]) ?_ 1 _ rfl; (with_reducible repeat (first | refine blk_drewN ?_ _ | refine blk_drew ?_ | refine blk_alloc ?_ _)); refine blk_put (cs := #[.string (⟨#[]⟩ : ByteArray), .string (⟨#[]⟩ : ByteArray), .slice none 0 0, .slice none 0 0]) ?_ 0 _ rfl; (with_reducible repeat (first | refine blk_drewN ?_ _ | refine blk_drew ?_ | refine blk_alloc ?_ _)); exact BK363.out) k_ hk_)⟩)) (below_size (bl2 HB GE353 GE363))); replace HO349 := aZ_ (Kd.R_below (by (with_reducible repeat (first | apply Kd.R_alloc | apply Kd.R_drewN | apply Kd.R_drew)); exact (Kd.R_mono (Kd.R_far (p := ⟨gb363, 3, none⟩) (Kd.R_far (p := ⟨gb363, 2, none⟩) (Kd.R_far (p := ⟨gb363, 1, none⟩) (Kd.R_far (p := ⟨gb363, 0, none⟩) (Kd.R_types HO349.out BK363.out (by decide)) (fun _ hk => hk.2) (.string t354)) (fun _ hk => hk.2) (.string t355)) (fun _ hk => hk.2) (.slice Ao45 t356.length co45)) (fun _ hk => hk.2) (.slice Ao46 t359.length co46)) (fun _ h_ => h_.1))) hb); replace HO352 := aZ_ (Kd.N_below (by (with_reducible repeat (first | apply Kd.N_alloc | apply Kd.N_drewN | apply Kd.N_drew)); exact (Kd.N_mono (Kd.N_far (p := ⟨gb363, 3, none⟩) (Kd.N_far (p := ⟨gb363, 2, none⟩) (Kd.N_far (p := ⟨gb363, 1, none⟩) (Kd.N_far (p := ⟨gb363, 0, none⟩) (Kd.N_mono HO352.out (fun k_ hk => (⟨hk, hk.2⟩ : _ ∧ k_ ≠ gb363))) (fun _ hk => hk.2) (.string t354)) (fun _ hk => hk.2) (.string t355)) (fun _ hk => hk.2) (.slice Ao45 t356.length co45)) (fun _ hk => hk.2) (.slice Ao46 t359.length co46)) (fun _ h_ => h_.1))) hb); replace BK353 := aZ_ (blk_below (g := gb353) (o := .cells #[.string t345, .string t346, .slice Ao38 t347.length co38, .slice Ao39 t350.length co39] 46 (0, 0)) (by (with_reducible repeat (first | refine blk_drewN ?_ _ | refine blk_drew ?_ | refine blk_alloc ?_ _)); refine blk_far ?_ NB353_363.out _; (with_reducible repeat (first | refine blk_drewN ?_ _ | refine blk_drew ?_ | refine blk_alloc ?_ _)); refine blk_far ?_ NB353_363.out _; (with_reducible repeat (first | refine blk_drewN ?_ _ | refine blk_drew ?_ | refine blk_alloc ?_ _)); refine blk_far ?_ NB353_363.out _; (with_reducible repeat (first | refine blk_drewN ?_ _ | refine blk_drew ?_ | refine blk_alloc ?_ _)); refine blk_far ?_ NB353_363.out _; (with_reducible repeat (first | refine blk_drewN ?_ _ | refine blk_drew ?_ | refine blk_alloc ?_ _)); exact BK353.out) hb); replace BK363 := aZ_ (blk_below (g := gb363) (o := .cells #[.string t354, .string t355, .slice Ao45 t356.length co45, .slice Ao46 t359.length co46] 46 (0, 0)) (by (with_reducible repeat (first | refine blk_drewN ?_ _ | refine blk_drew ?_ | refine blk_alloc ?_ _)); refine blk_put (cs := #[.string t354, .string t355, .slice Ao45 t356.length co45, .slice none 0 0]) ?_ 3 _ rfl; (with_reducible repeat (first | refine blk_drewN ?_ _ | refine blk_drew ?_ | refine blk_alloc ?_ _)); refine blk_put (cs := #[.string t354, .string t355, .slice none 0 0, .slice none 0 0]) ?_ 2 _ rfl; (with_reducible repeat (first | refine blk_drewN ?_ _ | refine blk_drew ?_ | refine blk_alloc ?_ _)); refine blk_put (cs := #[.string t354, .string (⟨#[]⟩ : ByteArray), .slice none 0 0, .slice none 0 0]) ?_ 1 _ rfl; (with_reducible repeat (first | refine blk_drewN ?_ _ | refine blk_drew ?_ | refine blk_alloc ?_ _)); refine blk_put (cs := #[.string (⟨#[]⟩ : ByteArray), .string (⟨#[]⟩ : ByteArray), .slice none 0 0, .slice none 0 0]) ?_ 0 _ rfl; (with_reducible repeat (first | refine blk_drewN ?_ _ | refine blk_drew ?_ | refine blk_alloc ?_ _)); exact BK363.out) hb); replace HB := aZ_ (below_step (bl2 HB GE353 GE363) hb); (try clear hb); (try clear hb2); (try clear hk); (try clear hi); (try clear ho0)))
            go_roundg k2
            case measure => have := HK1.out; have := HK2.out; omega
            case rel => exact ⟨(t364), (wrap64 (x6_2 - 1)), rf_, H', ⟨by have := HK1.out; have := HK2.out; omega⟩, ⟨by (with_reducible repeat (first | apply Kd.V_alloc | apply Kd.V_drewN | apply Kd.V_drew)); exact Kd.V_mono HO_3.out (fun _ hk => trivial)⟩, ⟨by (with_reducible repeat (first | apply Kd.V_alloc | apply Kd.V_drewN | apply Kd.V_drew)); exact Kd.V_mono HO366.out (fun _ hk => trivial)⟩, ⟨bl2 HB GE353 GE363⟩⟩
          ·
           rw [if_neg c18] at H
           exact absurd H (by simp)
         ·
          rw [if_neg c17] at H
          exact absurd H (by simp)
        ·
         rw [if_neg c16] at H
         have c16b0 : decide (0 ≤ x6_2) = false := decide_eq_false c16
         clear c16
         by_cases c49 : (x3_1.length : Int) = (x4_2.length : Int)
         ·
          rw [if_pos c49] at H
          have c49b0 : ((x3_1.length : Int) == (x4_2.length : Int)) = true := beq_iff_eq.mpr c49
          have c49b1 : ((x3_1.length : Int) != (x4_2.length : Int)) = false := bne_eq_false_iff_eq.mpr c49
          have c49b2 : (x3_1.length == x4_2.length) = true := by first | simpa using c49 | (simp at c49 ⊢; omega)
          clear c49
          have H' := aZ_ H
          clear H
          obtain ⟨Ao50, co50, eo50⟩ := Kd.V_slice HO_3.out
          subst eo50
          obtain ⟨Ao51, co51, eo51⟩ := Kd.V_slice HO_4.out
          subst eo51
          go_wp2
          go_loopg [10] k2 (fun kq v10 w' => ∃ (x10_3 : Int), v10 = .int .i64 x10_3 ∧ Aside0 (chancellaw8_EntsOrder.l2 kq x3_1 x4_2 x10_3 = some r) ∧ Aside0 (kq ≤ k2) ∧ Aside0 (Kd.V k46 46 w' w.heap.size (fun _ => True) (.slice Ao50 x3_1.length co50) x3_1) ∧ Aside0 (Kd.V k46 46 w' w.heap.size (fun _ => True) (.slice Ao51 x4_2.length co51) x4_2) ∧ Aside0 (Below w.heap.size w w'))
          case atStart => exact ⟨(0), rf_, H', ⟨Nat.le_refl _⟩, ⟨kV HO_3⟩, ⟨kV HO_4⟩, ⟨bl HB⟩⟩
          case round =>
           clear H'
           try clear c1
           try clear c2
           try clear p2
           try clear c3
           try clear p3
           try clear q3
           try clear hx3
           try clear c4
           try clear c4b0
           try clear c4b1
           try clear c6
           try clear p6
           try clear c7
           try clear c7b0
           try clear c8
           try clear c8b0
           try clear c16
           try clear c16b0
           try clear c17
           try clear c17b0
           try clear c18
           try clear c18b0
           try clear c21
           try clear c23
           try clear c24
           try clear c28
           try clear c29
           try clear c30
           try clear c33
           try clear p33
           try clear q33
           try clear hx33
           try clear c34
           try clear p34
           try clear q34
           try clear hx34
           try clear c43
           try clear c49
           try clear c49b0
           try clear c49b1
           try clear c49b2
           try clear hcz24_0
           try clear hcz24_1
           try clear hcz24_2
           try clear hcz24_3
           try clear hcz31_0
           try clear hcz31_1
           try clear hcz31_2
           try clear hcz31_3
           try clear hcz37_0
           try clear hcz37_1
           try clear hcz37_2
           try clear hcz37_3
           try clear hcz44_0
           try clear hcz44_1
           try clear hcz44_2
           try clear hcz44_3
           try clear hcz47_0
           try clear hcz47_1
           try clear hcz47_2
           try clear hcz47_3
           try clear hfz24_0
           try clear hfz24_1
           try clear hfz24_2
           try clear hfz24_3
           try clear hfz31_0
           try clear hfz31_1
           try clear hfz31_2
           try clear hfz31_3
           try clear hfz37_0
           try clear hfz37_1
           try clear hfz37_2
           try clear hfz37_3
           try clear hfz44_0
           try clear hfz44_1
           try clear hfz44_2
           try clear hfz44_3
           try clear hfz47_0
           try clear hfz47_1
           try clear hfz47_2
           try clear hfz47_3
           try clear hx332_0
           try clear hx332_1
           try clear hx332_2
           try clear hx332_3
           try clear hx332_4
           try clear hx344_0
           try clear hx344_1
           try clear hx344_2
           try clear hx344_3
           try clear hx344_4
           try clear p2
           try clear p3
           try clear p332
           try clear p344
           try clear p6
           try clear q3
           try clear q332
           try clear q344
           obtain ⟨x10_3, rfl, HA, HK3, HO_3, HO_4, HB⟩ := hrel
           cases gk with
           | zero => exact absurd HA.out (by simp [chancellaw8_EntsOrder.l2])
           | succ k3 =>
            have H := HA.out
            clear HA
            simp only [chancellaw8_EntsOrder.l2] at H
            by_cases c52 : x10_3 < (x3_1.length : Int)
            ·
             rw [if_pos c52] at H
             have c52b0 : decide (x10_3 < (x3_1.length : Int)) = true := decide_eq_true c52
             clear c52
             by_cases c53 : 0 ≤ x10_3
             ·
              rw [if_pos c53] at H
              have c53b0 : decide (0 ≤ x10_3) = true := decide_eq_true c53
              clear c53
              by_cases c54 : x10_3 < (x4_2.length : Int)
              ·
               rw [if_pos c54] at H
               have c54b0 : decide (x10_3 < (x4_2.length : Int)) = true := decide_eq_true c54
               clear c54
               replace H := Option.bind_eq_some_iff.mp H
               obtain ⟨t369, A550, H⟩ := H
               replace H : (if t369 = true then (if x10_3 > 0 then (if 0 ≤ (wrap64 (x10_3 - 1)) then (if (wrap64 (x10_3 - 1)) < (x3_1.length : Int) then ((chancelref3_LessUid.f ((rd_T46 x3_1 (wrap64 (x10_3 - 1))).f0.f0) ((rd_T46 x3_1 (wrap64 (x10_3 - 1))).f0.f1) ((rd_T46 x3_1 x10_3).f0.f0) ((rd_T46 x3_1 x10_3).f0.f1)).bind fun t372 => (if t372 = true then (chancellaw8_EntsOrder.l2 k3 x3_1 x4_2 (wrap64 (x10_3 + 1))) else (some false))) else (none)) else (none)) else (chancellaw8_EntsOrder.l2 k3 x3_1 x4_2 (wrap64 (x10_3 + 1)))) else (some false)) = some r := H
               have A55 := aZ_ A550
               clear A550
               by_cases c56 : t369 = true
               ·
                subst c56
                have H1 : (if x10_3 > 0 then (if 0 ≤ (wrap64 (x10_3 - 1)) then (if (wrap64 (x10_3 - 1)) < (x3_1.length : Int) then ((chancelref3_LessUid.f ((rd_T46 x3_1 (wrap64 (x10_3 - 1))).f0.f0) ((rd_T46 x3_1 (wrap64 (x10_3 - 1))).f0.f1) ((rd_T46 x3_1 x10_3).f0.f0) ((rd_T46 x3_1 x10_3).f0.f1)).bind fun t372 => (if t372 = true then (chancellaw8_EntsOrder.l2 k3 x3_1 x4_2 (wrap64 (x10_3 + 1))) else (some false))) else (none)) else (none)) else (chancellaw8_EntsOrder.l2 k3 x3_1 x4_2 (wrap64 (x10_3 + 1)))) = some r := by rw [if_pos rfl] at H; exact H
                clear H
                have H := H1
                clear H1
                by_cases c57 : x10_3 > 0
                ·
                 rw [if_pos c57] at H
                 have c57b0 : decide (0 < x10_3) = true := decide_eq_true c57
                 clear c57
                 obtain ⟨ji58, hji58⟩ : ∃ j_ : Int, (wrap64 (x10_3 - 1)) = j_ := ⟨_, rfl⟩
                 replace H : (if 0 ≤ (ji58) then (if (ji58) < (x3_1.length : Int) then ((chancelref3_LessUid.f ((rd_T46 x3_1 (ji58)).f0.f0) ((rd_T46 x3_1 (ji58)).f0.f1) ((rd_T46 x3_1 x10_3).f0.f0) ((rd_T46 x3_1 x10_3).f0.f1)).bind fun t372 => (if t372 = true then (chancellaw8_EntsOrder.l2 k3 x3_1 x4_2 (wrap64 (x10_3 + 1))) else (some false))) else (none)) else (none)) = some r := by first | (rw [hji58] at H; exact H) | (simp only [hji58] at H ⊢; exact H)
                 (try rw [hji58] at A55)
                 have hji58w : (IntKind.i64.wrap (x10_3 - 1)) = ji58 := (i64_w _).trans hji58
                 by_cases c59 : 0 ≤ (ji58)
                 ·
                  rw [if_pos c59] at H
                  have c59b0 : decide (0 ≤ (ji58)) = true := decide_eq_true c59
                  clear c59
                  by_cases c60 : (ji58) < (x3_1.length : Int)
                  ·
                   rw [if_pos c60] at H
                   have c60b0 : decide ((ji58) < (x3_1.length : Int)) = true := decide_eq_true c60
                   clear c60
                   replace H := Option.bind_eq_some_iff.mp H
                   obtain ⟨t372, A610, H⟩ := H
                   replace H : (if t372 = true then (chancellaw8_EntsOrder.l2 k3 x3_1 x4_2 (wrap64 (x10_3 + 1))) else (some false)) = some r := H
                   have A61 := aZ_ A610
                   clear A610
                   by_cases c62 : t372 = true
                   ·
                    subst c62
                    have H1 : (chancellaw8_EntsOrder.l2 k3 x3_1 x4_2 (wrap64 (x10_3 + 1))) = some r := by rw [if_pos rfl] at H; exact H
                    clear H
                    have H := H1
                    clear H1
                    have H' := aZ_ H
                    clear H
                    try go_wp2
                    replace HO_3 := aZ_ (Kd.V_drew HO_3.out)
                    replace HO_4 := aZ_ (Kd.V_drew HO_4.out)
                    replace HB := aZ_ (below_drew1 HB.out)
                    have p367 : 0 ≤ (x10_3 : Int) := of_decide_eq_true asm_
                    have q367 : x10_3 < (x3_1.length : Int) := of_decide_eq_true asm_
                    obtain ⟨ad367, A367_2, c367_2, A367_3, c367_3, e367, hx367_0, hx367_1, hx367_2, hx367_3, hl367_2, hi367_2, hl367_3, hi367_3⟩ := at_T46 (Kd.V_reads' HO_3.out).2.2 x10_3 p367 q367
                    cases e367
                    obtain ⟨ce367, hce367, hMe367, hcc367⟩ := Kd.V_get HO_3.out z46 x10_3 p367 (by first | exact q367 | exact of_decide_eq_true asm_ | (have e_ := (Kd.V_reads' HO_3.out).1; omega))
                    obtain ⟨ua367_2, uc367_2, ua367_3, uc367_3, rfl, ul367_2, ge367_2, ul367_3, ge367_3⟩ := k46_openF hMe367
                    have hv367_2 := hcc367 2 _ rfl
                    rw [add_field _ _ 2 (by omega)] at hv367_2
                    replace hv367_2 := Option.some.inj (hv367_2.symm.trans hx367_2)
                    injection hv367_2 with hva_ hvn_ hvc_
                    rw [hva_] at ge367_2
                    rw [hvc_] at ul367_2
                    have HL367_2 := aZ_ (show Kd.V k28 28 _ w.heap.size _ _ ((rd_T46 x3_1 x10_3).f1) from Kd.V_mk ul367_2 ge367_2)
                    clear hva_ hvn_ hvc_ ge367_2 ul367_2
                    have hv367_3 := hcc367 3 _ rfl
                    rw [add_field _ _ 3 (by omega)] at hv367_3
                    replace hv367_3 := Option.some.inj (hv367_3.symm.trans hx367_3)
                    injection hv367_3 with hva_ hvn_ hvc_
                    rw [hva_] at ge367_3
                    rw [hvc_] at ul367_3
                    have HL367_3 := aZ_ (show Kd.V k49 49 _ w.heap.size _ _ ((rd_T46 x3_1 x10_3).f2) from Kd.V_mk ul367_3 ge367_3)
                    clear hva_ hvn_ hvc_ ge367_3 ul367_3
                    clear hcc367 hce367
                    have HR367_2 := aZ_ hi367_2
                    have HC367_2 := aZ_ hl367_2
                    clear hi367_2 hl367_2
                    have HR367_3 := aZ_ hi367_3
                    have HC367_3 := aZ_ hl367_3
                    clear hi367_3 hl367_3
                    replace p367 := eq_true p367
                    replace q367 := eq_true q367
                    have p368 : 0 ≤ (x10_3 : Int) := of_decide_eq_true asm_
                    have q368 : x10_3 < (x4_2.length : Int) := of_decide_eq_true asm_
                    obtain ⟨ad368, A368_2, c368_2, A368_3, c368_3, e368, hx368_0, hx368_1, hx368_2, hx368_3, hl368_2, hi368_2, hl368_3, hi368_3⟩ := at_T46 (Kd.V_reads' HO_4.out).2.2 x10_3 p368 q368
                    cases e368
                    obtain ⟨ce368, hce368, hMe368, hcc368⟩ := Kd.V_get HO_4.out z46 x10_3 p368 (by first | exact q368 | exact of_decide_eq_true asm_ | (have e_ := (Kd.V_reads' HO_4.out).1; omega))
                    obtain ⟨ua368_2, uc368_2, ua368_3, uc368_3, rfl, ul368_2, ge368_2, ul368_3, ge368_3⟩ := k46_openF hMe368
                    have hv368_2 := hcc368 2 _ rfl
                    rw [add_field _ _ 2 (by omega)] at hv368_2
                    replace hv368_2 := Option.some.inj (hv368_2.symm.trans hx368_2)
                    injection hv368_2 with hva_ hvn_ hvc_
                    rw [hva_] at ge368_2
                    rw [hvc_] at ul368_2
                    have HL368_2 := aZ_ (show Kd.V k28 28 _ w.heap.size _ _ ((rd_T46 x4_2 x10_3).f1) from Kd.V_mk ul368_2 ge368_2)
                    clear hva_ hvn_ hvc_ ge368_2 ul368_2
                    have hv368_3 := hcc368 3 _ rfl
                    rw [add_field _ _ 3 (by omega)] at hv368_3
                    replace hv368_3 := Option.some.inj (hv368_3.symm.trans hx368_3)
                    injection hv368_3 with hva_ hvn_ hvc_
                    rw [hva_] at ge368_3
                    rw [hvc_] at ul368_3
                    have HL368_3 := aZ_ (show Kd.V k49 49 _ w.heap.size _ _ ((rd_T46 x4_2 x10_3).f2) from Kd.V_mk ul368_3 ge368_3)
                    clear hva_ hvn_ hvc_ ge368_3 ul368_3
                    clear hcc368 hce368
                    have HR368_2 := aZ_ hi368_2
                    have HC368_2 := aZ_ hl368_2
                    clear hi368_2 hl368_2
                    have HR368_3 := aZ_ hi368_3
                    have HC368_3 := aZ_ hl368_3
                    clear hi368_3 hl368_3
                    replace p368 := eq_true p368
                    replace q368 := eq_true q368
                    have p370 : 0 ≤ ((ji58) : Int) := of_decide_eq_true asm_
                    have q370 : (ji58) < (x3_1.length : Int) := of_decide_eq_true asm_
                    obtain ⟨ad370, A370_2, c370_2, A370_3, c370_3, e370, hx370_0, hx370_1, hx370_2, hx370_3, hl370_2, hi370_2, hl370_3, hi370_3⟩ := at_T46 (Kd.V_reads' HO_3.out).2.2 (ji58) p370 q370
                    obtain rfl : ad367 = ad370 := (by injection e370)
                    obtain ⟨ce370, hce370, hMe370, hcc370⟩ := Kd.V_get HO_3.out z46 (ji58) p370 (by first | exact q370 | exact of_decide_eq_true asm_ | (have e_ := (Kd.V_reads' HO_3.out).1; omega))
                    obtain ⟨ua370_2, uc370_2, ua370_3, uc370_3, rfl, ul370_2, ge370_2, ul370_3, ge370_3⟩ := k46_openF hMe370
                    have hv370_2 := hcc370 2 _ rfl
                    rw [add_field _ _ 2 (by omega)] at hv370_2
                    replace hv370_2 := Option.some.inj (hv370_2.symm.trans hx370_2)
                    injection hv370_2 with hva_ hvn_ hvc_
                    rw [hva_] at ge370_2
                    rw [hvc_] at ul370_2
                    have HL370_2 := aZ_ (show Kd.V k28 28 _ w.heap.size _ _ ((rd_T46 x3_1 (ji58)).f1) from Kd.V_mk ul370_2 ge370_2)
                    clear hva_ hvn_ hvc_ ge370_2 ul370_2
                    have hv370_3 := hcc370 3 _ rfl
                    rw [add_field _ _ 3 (by omega)] at hv370_3
                    replace hv370_3 := Option.some.inj (hv370_3.symm.trans hx370_3)
                    injection hv370_3 with hva_ hvn_ hvc_
                    rw [hva_] at ge370_3
                    rw [hvc_] at ul370_3
                    have HL370_3 := aZ_ (show Kd.V k49 49 _ w.heap.size _ _ ((rd_T46 x3_1 (ji58)).f2) from Kd.V_mk ul370_3 ge370_3)
                    clear hva_ hvn_ hvc_ ge370_3 ul370_3
                    clear hcc370 hce370
                    have HR370_2 := aZ_ hi370_2
                    have HC370_2 := aZ_ hl370_2
                    clear hi370_2 hl370_2
                    have HR370_3 := aZ_ hi370_3
                    have HC370_3 := aZ_ hl370_3
                    clear hi370_3 hl370_3
                    replace p370 := eq_true p370
                    replace q370 := eq_true q370
                    have p371 : 0 ≤ (x10_3 : Int) := of_decide_eq_true asm_
                    have q371 : x10_3 < (x3_1.length : Int) := of_decide_eq_true asm_
                    obtain ⟨ad371, A371_2, c371_2, A371_3, c371_3, e371, hx371_0, hx371_1, hx371_2, hx371_3, hl371_2, hi371_2, hl371_3, hi371_3⟩ := at_T46 (Kd.V_reads' HO_3.out).2.2 x10_3 p371 q371
                    obtain rfl : ad367 = ad371 := (by injection e371)
                    obtain ⟨ce371, hce371, hMe371, hcc371⟩ := Kd.V_get HO_3.out z46 x10_3 p371 (by first | exact q371 | exact of_decide_eq_true asm_ | (have e_ := (Kd.V_reads' HO_3.out).1; omega))
                    obtain ⟨ua371_2, uc371_2, ua371_3, uc371_3, rfl, ul371_2, ge371_2, ul371_3, ge371_3⟩ := k46_openF hMe371
                    have hv371_2 := hcc371 2 _ rfl
                    rw [add_field _ _ 2 (by omega)] at hv371_2
                    replace hv371_2 := Option.some.inj (hv371_2.symm.trans hx371_2)
                    injection hv371_2 with hva_ hvn_ hvc_
                    rw [hva_] at ge371_2
                    rw [hvc_] at ul371_2
                    have HL371_2 := aZ_ (show Kd.V k28 28 _ w.heap.size _ _ ((rd_T46 x3_1 x10_3).f1) from Kd.V_mk ul371_2 ge371_2)
                    clear hva_ hvn_ hvc_ ge371_2 ul371_2
                    have hv371_3 := hcc371 3 _ rfl
                    rw [add_field _ _ 3 (by omega)] at hv371_3
                    replace hv371_3 := Option.some.inj (hv371_3.symm.trans hx371_3)
                    injection hv371_3 with hva_ hvn_ hvc_
                    rw [hva_] at ge371_3
                    rw [hvc_] at ul371_3
                    have HL371_3 := aZ_ (show Kd.V k49 49 _ w.heap.size _ _ ((rd_T46 x3_1 x10_3).f2) from Kd.V_mk ul371_3 ge371_3)
                    clear hva_ hvn_ hvc_ ge371_3 ul371_3
                    clear hcc371 hce371
                    have HR371_2 := aZ_ hi371_2
                    have HC371_2 := aZ_ hl371_2
                    clear hi371_2 hl371_2
                    have HR371_3 := aZ_ hi371_3
                    have HC371_3 := aZ_ hl371_3
                    clear hi371_3 hl371_3
                    replace p371 := eq_true p371
                    replace q371 := eq_true q371
                    refine start_ (n := 29) (S := fun w' => w'.cell? (ad367.add ((x10_3).toNat * 4)) = some (.string ((rd_T46 x3_1 x10_3).f0.f0)) ∧ w'.cell? ⟨(ad367.add ((x10_3).toNat * 4)).block, (ad367.add ((x10_3).toNat * 4)).off + 1, none⟩ = some (.string ((rd_T46 x3_1 x10_3).f0.f1)) ∧ w'.cell? ⟨(ad367.add ((x10_3).toNat * 4)).block, (ad367.add ((x10_3).toNat * 4)).off + 2, none⟩ = some (.slice A367_2 ((rd_T46 x3_1 x10_3).f1).length c367_2) ∧ w'.cell? ⟨(ad367.add ((x10_3).toNat * 4)).block, (ad367.add ((x10_3).toNat * 4)).off + 3, none⟩ = some (.slice A367_3 ((rd_T46 x3_1 x10_3).f2).length c367_3) ∧ w'.cell? (ad368.add ((x10_3).toNat * 4)) = some (.string ((rd_T46 x4_2 x10_3).f0.f0)) ∧ w'.cell? ⟨(ad368.add ((x10_3).toNat * 4)).block, (ad368.add ((x10_3).toNat * 4)).off + 1, none⟩ = some (.string ((rd_T46 x4_2 x10_3).f0.f1)) ∧ w'.cell? ⟨(ad368.add ((x10_3).toNat * 4)).block, (ad368.add ((x10_3).toNat * 4)).off + 2, none⟩ = some (.slice A368_2 ((rd_T46 x4_2 x10_3).f1).length c368_2) ∧ w'.cell? ⟨(ad368.add ((x10_3).toNat * 4)).block, (ad368.add ((x10_3).toNat * 4)).off + 3, none⟩ = some (.slice A368_3 ((rd_T46 x4_2 x10_3).f2).length c368_3) ∧ w'.cell? (ad367.add (((ji58)).toNat * 4)) = some (.string ((rd_T46 x3_1 (ji58)).f0.f0)) ∧ w'.cell? ⟨(ad367.add (((ji58)).toNat * 4)).block, (ad367.add (((ji58)).toNat * 4)).off + 1, none⟩ = some (.string ((rd_T46 x3_1 (ji58)).f0.f1)) ∧ w'.cell? ⟨(ad367.add (((ji58)).toNat * 4)).block, (ad367.add (((ji58)).toNat * 4)).off + 2, none⟩ = some (.slice A370_2 ((rd_T46 x3_1 (ji58)).f1).length c370_2) ∧ w'.cell? ⟨(ad367.add (((ji58)).toNat * 4)).block, (ad367.add (((ji58)).toNat * 4)).off + 3, none⟩ = some (.slice A370_3 ((rd_T46 x3_1 (ji58)).f2).length c370_3) ∧ w'.cell? (ad367.add ((x10_3).toNat * 4)) = some (.string ((rd_T46 x3_1 x10_3).f0.f0)) ∧ w'.cell? ⟨(ad367.add ((x10_3).toNat * 4)).block, (ad367.add ((x10_3).toNat * 4)).off + 1, none⟩ = some (.string ((rd_T46 x3_1 x10_3).f0.f1)) ∧ w'.cell? ⟨(ad367.add ((x10_3).toNat * 4)).block, (ad367.add ((x10_3).toNat * 4)).off + 2, none⟩ = some (.slice A371_2 ((rd_T46 x3_1 x10_3).f1).length c371_2) ∧ w'.cell? ⟨(ad367.add ((x10_3).toNat * 4)).block, (ad367.add ((x10_3).toNat * 4)).off + 3, none⟩ = some (.slice A371_3 ((rd_T46 x3_1 x10_3).f2).length c371_3)) (ds := []) #[false, false, false, false, false, false, false, false, false, false, false, false, false, false, false, false, false, false, false, false, false, false, false, false, false, false, false, false, false] (by kernel_rfl) rfl rfl ⟨hx367_0, hx367_1, hx367_2, hx367_3, hx368_0, hx368_1, hx368_2, hx368_3, hx370_0, hx370_1, hx370_2, hx370_3, hx371_0, hx371_1, hx371_2, hx371_3⟩ (fun hHeld => ?_); refine with_tabW chancellaw8_EntsOrder.tab22 chancellaw8_EntsOrder.bits22 (fun HT_ HW_ => ?_)
                    generalize wr.drew = w63 at HO_3 HO_4 HB HL367_2 HL367_3 HL368_2 HL368_3 HL370_2 HL370_3 HL371_2 HL371_3 HR367_2 HR367_3 HR368_2 HR368_3 HR370_2 HR370_3 HR371_2 HR371_3 hx367_0 hx367_1 hx367_2 hx367_3 hx368_0 hx368_1 hx368_2 hx368_3 hx370_0 hx370_1 hx370_2 hx370_3 hx371_0 hx371_1 hx371_2 hx371_3 hHeld ⊢
                    refine pS_ 0 64 (fa 29 1) HT_ ?_
                    refine pS_ 1 65 (fa 29 3) HT_ ?_
                    refine pS_ 2 66 (fa 29 7) HT_ ?_
                    refine pS_ 4 68 (fa 29 23) HT_ ?_
                    refine pS_ 5 69 (fa 29 55) HT_ ?_
                    refine pS_ 6 70 (fa 29 119) HT_ ?_
                    refine tS_ 3 67 (fa 29 127) HT_ HW_ hHeld ?_
                    refine tS_ 7 71 (fa 29 255) HT_ HW_ hHeld ?_
                    refine one_ (i := 8) (N := some 72) #[true, true, true, true, true, true, true, true, true, false, false, false, false, false, false, false, false, false, false, false, false, false, false, false, false, false, false, false, false] rfl rfl (one_of HT_.out (by kernel_rfl)) (by decide) (fun K hK => ?_)
                    refine goes_ Try.func30 (by kernel_rfl) rfl #[.agg #[.string ((rd_T46 x3_1 x10_3).f0.f0), .string ((rd_T46 x3_1 x10_3).f0.f1), .slice A367_2 ((rd_T46 x3_1 x10_3).f1).length c367_2, .slice A367_3 ((rd_T46 x3_1 x10_3).f2).length c367_3], .agg #[.string ((rd_T46 x4_2 x10_3).f0.f0), .string ((rd_T46 x4_2 x10_3).f0.f1), .slice A368_2 ((rd_T46 x4_2 x10_3).f1).length c368_2, .slice A368_3 ((rd_T46 x4_2 x10_3).f2).length c368_3]] (by rfl) rfl rfl gm_ ?_
                    with_reducible refine (ents_Same.calls ((rd_T46 x3_1 x10_3).f0.f0) ((rd_T46 x3_1 x10_3).f0.f1) _ _ ((rd_T46 x3_1 x10_3).f1) _ _ ((rd_T46 x3_1 x10_3).f2) ((rd_T46 x4_2 x10_3).f0.f0) ((rd_T46 x4_2 x10_3).f0.f1) _ _ ((rd_T46 x4_2 x10_3).f1) _ _ ((rd_T46 x4_2 x10_3).f2) true _ ?side1 ?side2 ?side3 ?side4 ?side5 ?side6 ?side7 ?side8 A55.out).mono ?_
                    (case side1 => exact kD HR367_2)
                    (case side2 => exact HC367_2.out)
                    (case side3 => exact kD HR367_3)
                    (case side4 => exact HC367_3.out)
                    (case side5 => exact kD HR368_2)
                    (case side6 => exact HC368_2.out)
                    (case side7 => exact kD HR368_3)
                    (case side8 => exact HC368_3.out)
                    rintro e w64 ⟨rfl, hb⟩
                    replace HL370_2 := aZ_ (Kd.V_below (kV HL370_2) hb)
                    replace HL370_3 := aZ_ (Kd.V_below (kV HL370_3) hb)
                    replace HL371_2 := aZ_ (Kd.V_below (kV HL371_2) hb)
                    replace HL371_3 := aZ_ (Kd.V_below (kV HL371_3) hb)
                    replace HR370_2 := aZ_ (Kd.C_below (kD HR370_2) hb)
                    replace HR370_3 := aZ_ (Kd.C_below (kD HR370_3) hb)
                    replace HR371_2 := aZ_ (Kd.C_below (kD HR371_2) hb)
                    replace HR371_3 := aZ_ (Kd.C_below (kD HR371_3) hb)
                    have HS0_ := (hbc hb (hHeld.1) :)
                    have HS1_ := (hbc hb (hHeld.2.1) :)
                    have HS2_ := (hbc hb (hHeld.2.2.1) :)
                    have HS3_ := (hbc hb (hHeld.2.2.2.1) :)
                    have HS4_ := (hbc hb (hHeld.2.2.2.2.1) :)
                    have HS5_ := (hbc hb (hHeld.2.2.2.2.2.1) :)
                    have HS6_ := (hbc hb (hHeld.2.2.2.2.2.2.1) :)
                    have HS7_ := (hbc hb (hHeld.2.2.2.2.2.2.2.1) :)
                    have HS8_ := (hbc hb (hHeld.2.2.2.2.2.2.2.2.1) :)
                    have HS9_ := (hbc hb (hHeld.2.2.2.2.2.2.2.2.2.1) :)
                    have HS10_ := (hbc hb (hHeld.2.2.2.2.2.2.2.2.2.2.1) :)
                    have HS11_ := (hbc hb (hHeld.2.2.2.2.2.2.2.2.2.2.2.1) :)
                    have HS12_ := (hbc hb (hHeld.2.2.2.2.2.2.2.2.2.2.2.2.1) :)
                    have HS13_ := (hbc hb (hHeld.2.2.2.2.2.2.2.2.2.2.2.2.2.1) :)
                    have HS14_ := (hbc hb (hHeld.2.2.2.2.2.2.2.2.2.2.2.2.2.2.1) :)
                    have HS15_ := (hbc hb (hHeld.2.2.2.2.2.2.2.2.2.2.2.2.2.2.2) :)
                    refine ⟨_, rfl, ?_⟩
                    replace HO_3 := aZ_ (Kd.V_below (kV HO_3) hb)
                    replace HO_4 := aZ_ (Kd.V_below (kV HO_4) hb)
                    replace HL367_2 := aZ_ (Kd.V_below (kV HL367_2) hb)
                    replace HL367_3 := aZ_ (Kd.V_below (kV HL367_3) hb)
                    replace HL368_2 := aZ_ (Kd.V_below (kV HL368_2) hb)
                    replace HL368_3 := aZ_ (Kd.V_below (kV HL368_3) hb)
                    replace HR367_2 := aZ_ (Kd.C_below (kD HR367_2) hb)
                    replace HR367_3 := aZ_ (Kd.C_below (kD HR367_3) hb)
                    replace HR368_2 := aZ_ (Kd.C_below (kD HR368_2) hb)
                    replace HR368_3 := aZ_ (Kd.C_below (kD HR368_3) hb)
                    replace HB := aZ_ (below_step (bl HB) hb)
                    (try clear hb)
                    (try clear hb2)
                    (try clear hk)
                    (try clear hi)
                    refine hK.out _ _ ⟨HS0_, HS1_, HS2_, HS3_, HS4_, HS5_, HS6_, HS7_, HS8_, HS9_, HS10_, HS11_, HS12_, HS13_, HS14_, HS15_⟩ (fun hHeld => ?_)
                    clear hK K
                    refine norm_ (a' := ?_) ?_ ?_
                    rotate_left
                    ·
                     show Act.put _ (some 72) _ = _
                     simp only [Act.put, List.setIfInBounds_toArray, List.set_cons_zero, List.set_cons_succ, i64_w, i32_w]
                     rfl
                    refine pS_ 9 73 (fa 29 1023) HT_ ?_
                    refine pS_ 10 74 (fa 29 2047) HT_ ?_
                    refine pS_ 11 75 (fa 29 4095) HT_ ?_
                    refine pS_ 12 76 (fa 29 8191) HT_ ?_
                    refine pS_ 13 77 (fa 29 16383) HT_ ?_
                    refine pS_ 14 78 (fa 29 32767) HT_ ?_
                    refine pS_ 15 79 (fa 29 65535) HT_ ?_
                    refine pS_ 16 80 (fa 29 131071) HT_ ?_
                    refine pS_ 17 81 (fa 29 262143) HT_ ?_
                    refine pS_ 18 82 (fa 29 524287) HT_ ?_
                    refine pS_ 20 84 (fa 29 1572863) HT_ ?_
                    refine pS_ 21 85 (fa 29 3670015) HT_ ?_
                    refine pS_ 22 86 (fa 29 7864319) HT_ ?_
                    refine pS_ 23 87 (fa 29 16252927) HT_ ?_
                    refine tS_ 19 83 (fa 29 16777215) HT_ HW_ hHeld ?_
                    refine tS_ 24 88 (fa 29 33554431) HT_ HW_ hHeld ?_
                    refine one_ (i := 25) (N := some 89) #[true, true, true, true, true, true, true, true, true, true, true, true, true, true, true, true, true, true, true, true, true, true, true, true, true, true, false, false, false] rfl rfl (one_of HT_.out (by kernel_rfl)) (by decide) (fun K hK => ?_)
                    refine goes_ Try.func31 (by kernel_rfl) rfl #[.agg #[.string ((rd_T46 x3_1 (ji58)).f0.f0), .string ((rd_T46 x3_1 (ji58)).f0.f1)], .agg #[.string ((rd_T46 x3_1 x10_3).f0.f0), .string ((rd_T46 x3_1 x10_3).f0.f1)]] (by rfl) rfl rfl (by (try simp only [List.map_toArray, List.map_cons, List.map_nil]); first | done | (simp only [hji58]; rfl) | rfl | (simp only [List.length_drop, List.length_take]; rfl)) ?_
                    with_reducible refine (chancelref3_LessUid.calls ((rd_T46 x3_1 (ji58)).f0.f0) ((rd_T46 x3_1 (ji58)).f0.f1) ((rd_T46 x3_1 x10_3).f0.f0) ((rd_T46 x3_1 x10_3).f0.f1) true _ A61.out).mono ?_
                    rintro e w65 ⟨rfl, hb⟩
                    have HS0_ := (hbc hb (hHeld.1) :)
                    have HS1_ := (hbc hb (hHeld.2.1) :)
                    have HS2_ := (hbc hb (hHeld.2.2.1) :)
                    have HS3_ := (hbc hb (hHeld.2.2.2.1) :)
                    have HS4_ := (hbc hb (hHeld.2.2.2.2.1) :)
                    have HS5_ := (hbc hb (hHeld.2.2.2.2.2.1) :)
                    have HS6_ := (hbc hb (hHeld.2.2.2.2.2.2.1) :)
                    have HS7_ := (hbc hb (hHeld.2.2.2.2.2.2.2.1) :)
                    have HS8_ := (hbc hb (hHeld.2.2.2.2.2.2.2.2.1) :)
                    have HS9_ := (hbc hb (hHeld.2.2.2.2.2.2.2.2.2.1) :)
                    have HS10_ := (hbc hb (hHeld.2.2.2.2.2.2.2.2.2.2.1) :)
                    have HS11_ := (hbc hb (hHeld.2.2.2.2.2.2.2.2.2.2.2.1) :)
                    have HS12_ := (hbc hb (hHeld.2.2.2.2.2.2.2.2.2.2.2.2.1) :)
                    have HS13_ := (hbc hb (hHeld.2.2.2.2.2.2.2.2.2.2.2.2.2.1) :)
                    have HS14_ := (hbc hb (hHeld.2.2.2.2.2.2.2.2.2.2.2.2.2.2.1) :)
                    have HS15_ := (hbc hb (hHeld.2.2.2.2.2.2.2.2.2.2.2.2.2.2.2) :)
                    refine ⟨_, rfl, ?_⟩
                    replace HO_3 := aZ_ (Kd.V_below (kV HO_3) hb)
                    replace HO_4 := aZ_ (Kd.V_below (kV HO_4) hb)
                    replace HL367_2 := aZ_ (Kd.V_below (kV HL367_2) hb)
                    replace HL367_3 := aZ_ (Kd.V_below (kV HL367_3) hb)
                    replace HL368_2 := aZ_ (Kd.V_below (kV HL368_2) hb)
                    replace HL368_3 := aZ_ (Kd.V_below (kV HL368_3) hb)
                    replace HL370_2 := aZ_ (Kd.V_below (kV HL370_2) hb)
                    replace HL370_3 := aZ_ (Kd.V_below (kV HL370_3) hb)
                    replace HL371_2 := aZ_ (Kd.V_below (kV HL371_2) hb)
                    replace HL371_3 := aZ_ (Kd.V_below (kV HL371_3) hb)
                    replace HR367_2 := aZ_ (Kd.C_below (kD HR367_2) hb)
                    replace HR367_3 := aZ_ (Kd.C_below (kD HR367_3) hb)
                    replace HR368_2 := aZ_ (Kd.C_below (kD HR368_2) hb)
                    replace HR368_3 := aZ_ (Kd.C_below (kD HR368_3) hb)
                    replace HR370_2 := aZ_ (Kd.C_below (kD HR370_2) hb)
                    replace HR370_3 := aZ_ (Kd.C_below (kD HR370_3) hb)
                    replace HR371_2 := aZ_ (Kd.C_below (kD HR371_2) hb)
                    replace HR371_3 := aZ_ (Kd.C_below (kD HR371_3) hb)
                    replace HB := aZ_ (below_step (bl HB) hb)
                    (try clear hb)
                    (try clear hb2)
                    (try clear hk)
                    (try clear hi)
                    refine hK.out _ _ ⟨HS0_, HS1_, HS2_, HS3_, HS4_, HS5_, HS6_, HS7_, HS8_, HS9_, HS10_, HS11_, HS12_, HS13_, HS14_, HS15_⟩ (fun hHeld => ?_)
                    clear hK K
                    refine norm_ (a' := ?_) ?_ ?_
                    rotate_left
                    ·
                     show Act.put _ (some 89) _ = _
                     simp only [Act.put, List.setIfInBounds_toArray, List.set_cons_zero, List.set_cons_succ, i64_w, i32_w]
                     rfl
                    refine pS_ 26 90 (fa 29 134217727) HT_ ?_
                    refine pS_ 27 91 (fa 29 268435455) HT_ ?_
                    refine pS_ 28 92 (fa 29 536870911) HT_ ?_
                    refine done_ (done_of HT_.out (by kernel_rfl)) ?_
                    try go_wp2
                    go_roundg k3
                    case measure => have := HK1.out; have := HK2.out; have := HK3.out; omega
                    case rel => exact ⟨(wrap64 (x10_3 + 1)), rf_, H', ⟨by have := HK1.out; have := HK2.out; have := HK3.out; omega⟩, ⟨kV HO_3⟩, ⟨kV HO_4⟩, ⟨bl HB⟩⟩
                   ·
                    replace c62 := Bool.eq_false_iff.mpr c62
                    subst c62
                    have H1 : (some false) = some r := by rw [if_neg (show ¬ (false = true) by decide)] at H; exact H
                    clear H
                    have H := H1
                    clear H1
                    obtain rfl := Option.some.inj H
                    try go_wp2
                    replace HO_3 := aZ_ (Kd.V_drew HO_3.out)
                    replace HO_4 := aZ_ (Kd.V_drew HO_4.out)
                    replace HB := aZ_ (below_drew1 HB.out)
                    have p367 : 0 ≤ (x10_3 : Int) := of_decide_eq_true asm_
                    have q367 : x10_3 < (x3_1.length : Int) := of_decide_eq_true asm_
                    obtain ⟨ad367, A367_2, c367_2, A367_3, c367_3, e367, hx367_0, hx367_1, hx367_2, hx367_3, hl367_2, hi367_2, hl367_3, hi367_3⟩ := at_T46 (Kd.V_reads' HO_3.out).2.2 x10_3 p367 q367
                    cases e367
                    obtain ⟨ce367, hce367, hMe367, hcc367⟩ := Kd.V_get HO_3.out z46 x10_3 p367 (by first | exact q367 | exact of_decide_eq_true asm_ | (have e_ := (Kd.V_reads' HO_3.out).1; omega))
                    obtain ⟨ua367_2, uc367_2, ua367_3, uc367_3, rfl, ul367_2, ge367_2, ul367_3, ge367_3⟩ := k46_openF hMe367
                    have hv367_2 := hcc367 2 _ rfl
                    rw [add_field _ _ 2 (by omega)] at hv367_2
                    replace hv367_2 := Option.some.inj (hv367_2.symm.trans hx367_2)
                    injection hv367_2 with hva_ hvn_ hvc_
                    rw [hva_] at ge367_2
                    rw [hvc_] at ul367_2
                    have HL367_2 := aZ_ (show Kd.V k28 28 _ w.heap.size _ _ ((rd_T46 x3_1 x10_3).f1) from Kd.V_mk ul367_2 ge367_2)
                    clear hva_ hvn_ hvc_ ge367_2 ul367_2
                    have hv367_3 := hcc367 3 _ rfl
                    rw [add_field _ _ 3 (by omega)] at hv367_3
                    replace hv367_3 := Option.some.inj (hv367_3.symm.trans hx367_3)
                    injection hv367_3 with hva_ hvn_ hvc_
                    rw [hva_] at ge367_3
                    rw [hvc_] at ul367_3
                    have HL367_3 := aZ_ (show Kd.V k49 49 _ w.heap.size _ _ ((rd_T46 x3_1 x10_3).f2) from Kd.V_mk ul367_3 ge367_3)
                    clear hva_ hvn_ hvc_ ge367_3 ul367_3
                    clear hcc367 hce367
                    have HR367_2 := aZ_ hi367_2
                    have HC367_2 := aZ_ hl367_2
                    clear hi367_2 hl367_2
                    have HR367_3 := aZ_ hi367_3
                    have HC367_3 := aZ_ hl367_3
                    clear hi367_3 hl367_3
                    replace p367 := eq_true p367
                    replace q367 := eq_true q367
                    have p368 : 0 ≤ (x10_3 : Int) := of_decide_eq_true asm_
                    have q368 : x10_3 < (x4_2.length : Int) := of_decide_eq_true asm_
                    obtain ⟨ad368, A368_2, c368_2, A368_3, c368_3, e368, hx368_0, hx368_1, hx368_2, hx368_3, hl368_2, hi368_2, hl368_3, hi368_3⟩ := at_T46 (Kd.V_reads' HO_4.out).2.2 x10_3 p368 q368
                    cases e368
                    obtain ⟨ce368, hce368, hMe368, hcc368⟩ := Kd.V_get HO_4.out z46 x10_3 p368 (by first | exact q368 | exact of_decide_eq_true asm_ | (have e_ := (Kd.V_reads' HO_4.out).1; omega))
                    obtain ⟨ua368_2, uc368_2, ua368_3, uc368_3, rfl, ul368_2, ge368_2, ul368_3, ge368_3⟩ := k46_openF hMe368
                    have hv368_2 := hcc368 2 _ rfl
                    rw [add_field _ _ 2 (by omega)] at hv368_2
                    replace hv368_2 := Option.some.inj (hv368_2.symm.trans hx368_2)
                    injection hv368_2 with hva_ hvn_ hvc_
                    rw [hva_] at ge368_2
                    rw [hvc_] at ul368_2
                    have HL368_2 := aZ_ (show Kd.V k28 28 _ w.heap.size _ _ ((rd_T46 x4_2 x10_3).f1) from Kd.V_mk ul368_2 ge368_2)
                    clear hva_ hvn_ hvc_ ge368_2 ul368_2
                    have hv368_3 := hcc368 3 _ rfl
                    rw [add_field _ _ 3 (by omega)] at hv368_3
                    replace hv368_3 := Option.some.inj (hv368_3.symm.trans hx368_3)
                    injection hv368_3 with hva_ hvn_ hvc_
                    rw [hva_] at ge368_3
                    rw [hvc_] at ul368_3
                    have HL368_3 := aZ_ (show Kd.V k49 49 _ w.heap.size _ _ ((rd_T46 x4_2 x10_3).f2) from Kd.V_mk ul368_3 ge368_3)
                    clear hva_ hvn_ hvc_ ge368_3 ul368_3
                    clear hcc368 hce368
                    have HR368_2 := aZ_ hi368_2
                    have HC368_2 := aZ_ hl368_2
                    clear hi368_2 hl368_2
                    have HR368_3 := aZ_ hi368_3
                    have HC368_3 := aZ_ hl368_3
                    clear hi368_3 hl368_3
                    replace p368 := eq_true p368
                    replace q368 := eq_true q368
                    have p370 : 0 ≤ ((ji58) : Int) := of_decide_eq_true asm_
                    have q370 : (ji58) < (x3_1.length : Int) := of_decide_eq_true asm_
                    obtain ⟨ad370, A370_2, c370_2, A370_3, c370_3, e370, hx370_0, hx370_1, hx370_2, hx370_3, hl370_2, hi370_2, hl370_3, hi370_3⟩ := at_T46 (Kd.V_reads' HO_3.out).2.2 (ji58) p370 q370
                    obtain rfl : ad367 = ad370 := (by injection e370)
                    obtain ⟨ce370, hce370, hMe370, hcc370⟩ := Kd.V_get HO_3.out z46 (ji58) p370 (by first | exact q370 | exact of_decide_eq_true asm_ | (have e_ := (Kd.V_reads' HO_3.out).1; omega))
                    obtain ⟨ua370_2, uc370_2, ua370_3, uc370_3, rfl, ul370_2, ge370_2, ul370_3, ge370_3⟩ := k46_openF hMe370
                    have hv370_2 := hcc370 2 _ rfl
                    rw [add_field _ _ 2 (by omega)] at hv370_2
                    replace hv370_2 := Option.some.inj (hv370_2.symm.trans hx370_2)
                    injection hv370_2 with hva_ hvn_ hvc_
                    rw [hva_] at ge370_2
                    rw [hvc_] at ul370_2
                    have HL370_2 := aZ_ (show Kd.V k28 28 _ w.heap.size _ _ ((rd_T46 x3_1 (ji58)).f1) from Kd.V_mk ul370_2 ge370_2)
                    clear hva_ hvn_ hvc_ ge370_2 ul370_2
                    have hv370_3 := hcc370 3 _ rfl
                    rw [add_field _ _ 3 (by omega)] at hv370_3
                    replace hv370_3 := Option.some.inj (hv370_3.symm.trans hx370_3)
                    injection hv370_3 with hva_ hvn_ hvc_
                    rw [hva_] at ge370_3
                    rw [hvc_] at ul370_3
                    have HL370_3 := aZ_ (show Kd.V k49 49 _ w.heap.size _ _ ((rd_T46 x3_1 (ji58)).f2) from Kd.V_mk ul370_3 ge370_3)
                    clear hva_ hvn_ hvc_ ge370_3 ul370_3
                    clear hcc370 hce370
                    have HR370_2 := aZ_ hi370_2
                    have HC370_2 := aZ_ hl370_2
                    clear hi370_2 hl370_2
                    have HR370_3 := aZ_ hi370_3
                    have HC370_3 := aZ_ hl370_3
                    clear hi370_3 hl370_3
                    replace p370 := eq_true p370
                    replace q370 := eq_true q370
                    have p371 : 0 ≤ (x10_3 : Int) := of_decide_eq_true asm_
                    have q371 : x10_3 < (x3_1.length : Int) := of_decide_eq_true asm_
                    obtain ⟨ad371, A371_2, c371_2, A371_3, c371_3, e371, hx371_0, hx371_1, hx371_2, hx371_3, hl371_2, hi371_2, hl371_3, hi371_3⟩ := at_T46 (Kd.V_reads' HO_3.out).2.2 x10_3 p371 q371
                    obtain rfl : ad367 = ad371 := (by injection e371)
                    obtain ⟨ce371, hce371, hMe371, hcc371⟩ := Kd.V_get HO_3.out z46 x10_3 p371 (by first | exact q371 | exact of_decide_eq_true asm_ | (have e_ := (Kd.V_reads' HO_3.out).1; omega))
                    obtain ⟨ua371_2, uc371_2, ua371_3, uc371_3, rfl, ul371_2, ge371_2, ul371_3, ge371_3⟩ := k46_openF hMe371
                    have hv371_2 := hcc371 2 _ rfl
                    rw [add_field _ _ 2 (by omega)] at hv371_2
                    replace hv371_2 := Option.some.inj (hv371_2.symm.trans hx371_2)
                    injection hv371_2 with hva_ hvn_ hvc_
                    rw [hva_] at ge371_2
                    rw [hvc_] at ul371_2
                    have HL371_2 := aZ_ (show Kd.V k28 28 _ w.heap.size _ _ ((rd_T46 x3_1 x10_3).f1) from Kd.V_mk ul371_2 ge371_2)
                    clear hva_ hvn_ hvc_ ge371_2 ul371_2
                    have hv371_3 := hcc371 3 _ rfl
                    rw [add_field _ _ 3 (by omega)] at hv371_3
                    replace hv371_3 := Option.some.inj (hv371_3.symm.trans hx371_3)
                    injection hv371_3 with hva_ hvn_ hvc_
                    rw [hva_] at ge371_3
                    rw [hvc_] at ul371_3
                    have HL371_3 := aZ_ (show Kd.V k49 49 _ w.heap.size _ _ ((rd_T46 x3_1 x10_3).f2) from Kd.V_mk ul371_3 ge371_3)
                    clear hva_ hvn_ hvc_ ge371_3 ul371_3
                    clear hcc371 hce371
                    have HR371_2 := aZ_ hi371_2
                    have HC371_2 := aZ_ hl371_2
                    clear hi371_2 hl371_2
                    have HR371_3 := aZ_ hi371_3
                    have HC371_3 := aZ_ hl371_3
                    clear hi371_3 hl371_3
                    replace p371 := eq_true p371
                    replace q371 := eq_true q371
                    refine start_ (n := 29) (S := fun w' => w'.cell? (ad367.add ((x10_3).toNat * 4)) = some (.string ((rd_T46 x3_1 x10_3).f0.f0)) ∧ w'.cell? ⟨(ad367.add ((x10_3).toNat * 4)).block, (ad367.add ((x10_3).toNat * 4)).off + 1, none⟩ = some (.string ((rd_T46 x3_1 x10_3).f0.f1)) ∧ w'.cell? ⟨(ad367.add ((x10_3).toNat * 4)).block, (ad367.add ((x10_3).toNat * 4)).off + 2, none⟩ = some (.slice A367_2 ((rd_T46 x3_1 x10_3).f1).length c367_2) ∧ w'.cell? ⟨(ad367.add ((x10_3).toNat * 4)).block, (ad367.add ((x10_3).toNat * 4)).off + 3, none⟩ = some (.slice A367_3 ((rd_T46 x3_1 x10_3).f2).length c367_3) ∧ w'.cell? (ad368.add ((x10_3).toNat * 4)) = some (.string ((rd_T46 x4_2 x10_3).f0.f0)) ∧ w'.cell? ⟨(ad368.add ((x10_3).toNat * 4)).block, (ad368.add ((x10_3).toNat * 4)).off + 1, none⟩ = some (.string ((rd_T46 x4_2 x10_3).f0.f1)) ∧ w'.cell? ⟨(ad368.add ((x10_3).toNat * 4)).block, (ad368.add ((x10_3).toNat * 4)).off + 2, none⟩ = some (.slice A368_2 ((rd_T46 x4_2 x10_3).f1).length c368_2) ∧ w'.cell? ⟨(ad368.add ((x10_3).toNat * 4)).block, (ad368.add ((x10_3).toNat * 4)).off + 3, none⟩ = some (.slice A368_3 ((rd_T46 x4_2 x10_3).f2).length c368_3) ∧ w'.cell? (ad367.add (((ji58)).toNat * 4)) = some (.string ((rd_T46 x3_1 (ji58)).f0.f0)) ∧ w'.cell? ⟨(ad367.add (((ji58)).toNat * 4)).block, (ad367.add (((ji58)).toNat * 4)).off + 1, none⟩ = some (.string ((rd_T46 x3_1 (ji58)).f0.f1)) ∧ w'.cell? ⟨(ad367.add (((ji58)).toNat * 4)).block, (ad367.add (((ji58)).toNat * 4)).off + 2, none⟩ = some (.slice A370_2 ((rd_T46 x3_1 (ji58)).f1).length c370_2) ∧ w'.cell? ⟨(ad367.add (((ji58)).toNat * 4)).block, (ad367.add (((ji58)).toNat * 4)).off + 3, none⟩ = some (.slice A370_3 ((rd_T46 x3_1 (ji58)).f2).length c370_3) ∧ w'.cell? (ad367.add ((x10_3).toNat * 4)) = some (.string ((rd_T46 x3_1 x10_3).f0.f0)) ∧ w'.cell? ⟨(ad367.add ((x10_3).toNat * 4)).block, (ad367.add ((x10_3).toNat * 4)).off + 1, none⟩ = some (.string ((rd_T46 x3_1 x10_3).f0.f1)) ∧ w'.cell? ⟨(ad367.add ((x10_3).toNat * 4)).block, (ad367.add ((x10_3).toNat * 4)).off + 2, none⟩ = some (.slice A371_2 ((rd_T46 x3_1 x10_3).f1).length c371_2) ∧ w'.cell? ⟨(ad367.add ((x10_3).toNat * 4)).block, (ad367.add ((x10_3).toNat * 4)).off + 3, none⟩ = some (.slice A371_3 ((rd_T46 x3_1 x10_3).f2).length c371_3)) (ds := []) #[false, false, false, false, false, false, false, false, false, false, false, false, false, false, false, false, false, false, false, false, false, false, false, false, false, false, false, false, false] (by kernel_rfl) rfl rfl ⟨hx367_0, hx367_1, hx367_2, hx367_3, hx368_0, hx368_1, hx368_2, hx368_3, hx370_0, hx370_1, hx370_2, hx370_3, hx371_0, hx371_1, hx371_2, hx371_3⟩ (fun hHeld => ?_); refine with_tabW chancellaw8_EntsOrder.tab22 chancellaw8_EntsOrder.bits22 (fun HT_ HW_ => ?_)
                    generalize wr.drew = w66 at HO_3 HO_4 HB HL367_2 HL367_3 HL368_2 HL368_3 HL370_2 HL370_3 HL371_2 HL371_3 HR367_2 HR367_3 HR368_2 HR368_3 HR370_2 HR370_3 HR371_2 HR371_3 hx367_0 hx367_1 hx367_2 hx367_3 hx368_0 hx368_1 hx368_2 hx368_3 hx370_0 hx370_1 hx370_2 hx370_3 hx371_0 hx371_1 hx371_2 hx371_3 hHeld ⊢
                    refine pS_ 0 64 (fa 29 1) HT_ ?_
                    refine pS_ 1 65 (fa 29 3) HT_ ?_
                    refine pS_ 2 66 (fa 29 7) HT_ ?_
                    refine pS_ 4 68 (fa 29 23) HT_ ?_
                    refine pS_ 5 69 (fa 29 55) HT_ ?_
                    refine pS_ 6 70 (fa 29 119) HT_ ?_
                    refine tS_ 3 67 (fa 29 127) HT_ HW_ hHeld ?_
                    refine tS_ 7 71 (fa 29 255) HT_ HW_ hHeld ?_
                    refine one_ (i := 8) (N := some 72) #[true, true, true, true, true, true, true, true, true, false, false, false, false, false, false, false, false, false, false, false, false, false, false, false, false, false, false, false, false] rfl rfl (one_of HT_.out (by kernel_rfl)) (by decide) (fun K hK => ?_)
                    refine goes_ Try.func30 (by kernel_rfl) rfl #[.agg #[.string ((rd_T46 x3_1 x10_3).f0.f0), .string ((rd_T46 x3_1 x10_3).f0.f1), .slice A367_2 ((rd_T46 x3_1 x10_3).f1).length c367_2, .slice A367_3 ((rd_T46 x3_1 x10_3).f2).length c367_3], .agg #[.string ((rd_T46 x4_2 x10_3).f0.f0), .string ((rd_T46 x4_2 x10_3).f0.f1), .slice A368_2 ((rd_T46 x4_2 x10_3).f1).length c368_2, .slice A368_3 ((rd_T46 x4_2 x10_3).f2).length c368_3]] (by rfl) rfl rfl gm_ ?_
                    with_reducible refine (ents_Same.calls ((rd_T46 x3_1 x10_3).f0.f0) ((rd_T46 x3_1 x10_3).f0.f1) _ _ ((rd_T46 x3_1 x10_3).f1) _ _ ((rd_T46 x3_1 x10_3).f2) ((rd_T46 x4_2 x10_3).f0.f0) ((rd_T46 x4_2 x10_3).f0.f1) _ _ ((rd_T46 x4_2 x10_3).f1) _ _ ((rd_T46 x4_2 x10_3).f2) true _ ?side1 ?side2 ?side3 ?side4 ?side5 ?side6 ?side7 ?side8 A55.out).mono ?_
                    (case side1 => exact kD HR367_2)
                    (case side2 => exact HC367_2.out)
                    (case side3 => exact kD HR367_3)
                    (case side4 => exact HC367_3.out)
                    (case side5 => exact kD HR368_2)
                    (case side6 => exact HC368_2.out)
                    (case side7 => exact kD HR368_3)
                    (case side8 => exact HC368_3.out)
                    rintro e w67 ⟨rfl, hb⟩
                    replace HL370_2 := aZ_ (Kd.V_below (kV HL370_2) hb)
                    replace HL370_3 := aZ_ (Kd.V_below (kV HL370_3) hb)
                    replace HL371_2 := aZ_ (Kd.V_below (kV HL371_2) hb)
                    replace HL371_3 := aZ_ (Kd.V_below (kV HL371_3) hb)
                    replace HR370_2 := aZ_ (Kd.C_below (kD HR370_2) hb)
                    replace HR370_3 := aZ_ (Kd.C_below (kD HR370_3) hb)
                    replace HR371_2 := aZ_ (Kd.C_below (kD HR371_2) hb)
                    replace HR371_3 := aZ_ (Kd.C_below (kD HR371_3) hb)
                    have HS0_ := (hbc hb (hHeld.1) :)
                    have HS1_ := (hbc hb (hHeld.2.1) :)
                    have HS2_ := (hbc hb (hHeld.2.2.1) :)
                    have HS3_ := (hbc hb (hHeld.2.2.2.1) :)
                    have HS4_ := (hbc hb (hHeld.2.2.2.2.1) :)
                    have HS5_ := (hbc hb (hHeld.2.2.2.2.2.1) :)
                    have HS6_ := (hbc hb (hHeld.2.2.2.2.2.2.1) :)
                    have HS7_ := (hbc hb (hHeld.2.2.2.2.2.2.2.1) :)
                    have HS8_ := (hbc hb (hHeld.2.2.2.2.2.2.2.2.1) :)
                    have HS9_ := (hbc hb (hHeld.2.2.2.2.2.2.2.2.2.1) :)
                    have HS10_ := (hbc hb (hHeld.2.2.2.2.2.2.2.2.2.2.1) :)
                    have HS11_ := (hbc hb (hHeld.2.2.2.2.2.2.2.2.2.2.2.1) :)
                    have HS12_ := (hbc hb (hHeld.2.2.2.2.2.2.2.2.2.2.2.2.1) :)
                    have HS13_ := (hbc hb (hHeld.2.2.2.2.2.2.2.2.2.2.2.2.2.1) :)
                    have HS14_ := (hbc hb (hHeld.2.2.2.2.2.2.2.2.2.2.2.2.2.2.1) :)
                    have HS15_ := (hbc hb (hHeld.2.2.2.2.2.2.2.2.2.2.2.2.2.2.2) :)
                    refine ⟨_, rfl, ?_⟩
                    replace HO_3 := aZ_ (Kd.V_below (kV HO_3) hb)
                    replace HO_4 := aZ_ (Kd.V_below (kV HO_4) hb)
                    replace HL367_2 := aZ_ (Kd.V_below (kV HL367_2) hb)
                    replace HL367_3 := aZ_ (Kd.V_below (kV HL367_3) hb)
                    replace HL368_2 := aZ_ (Kd.V_below (kV HL368_2) hb)
                    replace HL368_3 := aZ_ (Kd.V_below (kV HL368_3) hb)
                    replace HR367_2 := aZ_ (Kd.C_below (kD HR367_2) hb)
                    replace HR367_3 := aZ_ (Kd.C_below (kD HR367_3) hb)
                    replace HR368_2 := aZ_ (Kd.C_below (kD HR368_2) hb)
                    replace HR368_3 := aZ_ (Kd.C_below (kD HR368_3) hb)
                    replace HB := aZ_ (below_step (bl HB) hb)
                    (try clear hb)
                    (try clear hb2)
                    (try clear hk)
                    (try clear hi)
                    refine hK.out _ _ ⟨HS0_, HS1_, HS2_, HS3_, HS4_, HS5_, HS6_, HS7_, HS8_, HS9_, HS10_, HS11_, HS12_, HS13_, HS14_, HS15_⟩ (fun hHeld => ?_)
                    clear hK K
                    refine norm_ (a' := ?_) ?_ ?_
                    rotate_left
                    ·
                     show Act.put _ (some 72) _ = _
                     simp only [Act.put, List.setIfInBounds_toArray, List.set_cons_zero, List.set_cons_succ, i64_w, i32_w]
                     rfl
                    refine pS_ 9 73 (fa 29 1023) HT_ ?_
                    refine pS_ 10 74 (fa 29 2047) HT_ ?_
                    refine pS_ 11 75 (fa 29 4095) HT_ ?_
                    refine pS_ 12 76 (fa 29 8191) HT_ ?_
                    refine pS_ 13 77 (fa 29 16383) HT_ ?_
                    refine pS_ 14 78 (fa 29 32767) HT_ ?_
                    refine pS_ 15 79 (fa 29 65535) HT_ ?_
                    refine pS_ 16 80 (fa 29 131071) HT_ ?_
                    refine pS_ 17 81 (fa 29 262143) HT_ ?_
                    refine pS_ 18 82 (fa 29 524287) HT_ ?_
                    refine pS_ 20 84 (fa 29 1572863) HT_ ?_
                    refine pS_ 21 85 (fa 29 3670015) HT_ ?_
                    refine pS_ 22 86 (fa 29 7864319) HT_ ?_
                    refine pS_ 23 87 (fa 29 16252927) HT_ ?_
                    refine tS_ 19 83 (fa 29 16777215) HT_ HW_ hHeld ?_
                    refine tS_ 24 88 (fa 29 33554431) HT_ HW_ hHeld ?_
                    refine one_ (i := 25) (N := some 89) #[true, true, true, true, true, true, true, true, true, true, true, true, true, true, true, true, true, true, true, true, true, true, true, true, true, true, false, false, false] rfl rfl (one_of HT_.out (by kernel_rfl)) (by decide) (fun K hK => ?_)
                    refine goes_ Try.func31 (by kernel_rfl) rfl #[.agg #[.string ((rd_T46 x3_1 (ji58)).f0.f0), .string ((rd_T46 x3_1 (ji58)).f0.f1)], .agg #[.string ((rd_T46 x3_1 x10_3).f0.f0), .string ((rd_T46 x3_1 x10_3).f0.f1)]] (by rfl) rfl rfl (by (try simp only [List.map_toArray, List.map_cons, List.map_nil]); first | done | (simp only [hji58]; rfl) | rfl | (simp only [List.length_drop, List.length_take]; rfl)) ?_
                    with_reducible refine (chancelref3_LessUid.calls ((rd_T46 x3_1 (ji58)).f0.f0) ((rd_T46 x3_1 (ji58)).f0.f1) ((rd_T46 x3_1 x10_3).f0.f0) ((rd_T46 x3_1 x10_3).f0.f1) false _ A61.out).mono ?_
                    rintro e w68 ⟨rfl, hb⟩
                    have HS0_ := (hbc hb (hHeld.1) :)
                    have HS1_ := (hbc hb (hHeld.2.1) :)
                    have HS2_ := (hbc hb (hHeld.2.2.1) :)
                    have HS3_ := (hbc hb (hHeld.2.2.2.1) :)
                    have HS4_ := (hbc hb (hHeld.2.2.2.2.1) :)
                    have HS5_ := (hbc hb (hHeld.2.2.2.2.2.1) :)
                    have HS6_ := (hbc hb (hHeld.2.2.2.2.2.2.1) :)
                    have HS7_ := (hbc hb (hHeld.2.2.2.2.2.2.2.1) :)
                    have HS8_ := (hbc hb (hHeld.2.2.2.2.2.2.2.2.1) :)
                    have HS9_ := (hbc hb (hHeld.2.2.2.2.2.2.2.2.2.1) :)
                    have HS10_ := (hbc hb (hHeld.2.2.2.2.2.2.2.2.2.2.1) :)
                    have HS11_ := (hbc hb (hHeld.2.2.2.2.2.2.2.2.2.2.2.1) :)
                    have HS12_ := (hbc hb (hHeld.2.2.2.2.2.2.2.2.2.2.2.2.1) :)
                    have HS13_ := (hbc hb (hHeld.2.2.2.2.2.2.2.2.2.2.2.2.2.1) :)
                    have HS14_ := (hbc hb (hHeld.2.2.2.2.2.2.2.2.2.2.2.2.2.2.1) :)
                    have HS15_ := (hbc hb (hHeld.2.2.2.2.2.2.2.2.2.2.2.2.2.2.2) :)
                    refine ⟨_, rfl, ?_⟩
                    replace HO_3 := aZ_ (Kd.V_below (kV HO_3) hb)
                    replace HO_4 := aZ_ (Kd.V_below (kV HO_4) hb)
                    replace HL367_2 := aZ_ (Kd.V_below (kV HL367_2) hb)
                    replace HL367_3 := aZ_ (Kd.V_below (kV HL367_3) hb)
                    replace HL368_2 := aZ_ (Kd.V_below (kV HL368_2) hb)
                    replace HL368_3 := aZ_ (Kd.V_below (kV HL368_3) hb)
                    replace HL370_2 := aZ_ (Kd.V_below (kV HL370_2) hb)
                    replace HL370_3 := aZ_ (Kd.V_below (kV HL370_3) hb)
                    replace HL371_2 := aZ_ (Kd.V_below (kV HL371_2) hb)
                    replace HL371_3 := aZ_ (Kd.V_below (kV HL371_3) hb)
                    replace HR367_2 := aZ_ (Kd.C_below (kD HR367_2) hb)
                    replace HR367_3 := aZ_ (Kd.C_below (kD HR367_3) hb)
                    replace HR368_2 := aZ_ (Kd.C_below (kD HR368_2) hb)
                    replace HR368_3 := aZ_ (Kd.C_below (kD HR368_3) hb)
                    replace HR370_2 := aZ_ (Kd.C_below (kD HR370_2) hb)
                    replace HR370_3 := aZ_ (Kd.C_below (kD HR370_3) hb)
                    replace HR371_2 := aZ_ (Kd.C_below (kD HR371_2) hb)
                    replace HR371_3 := aZ_ (Kd.C_below (kD HR371_3) hb)
                    replace HB := aZ_ (below_step (bl HB) hb)
                    (try clear hb)
                    (try clear hb2)
                    (try clear hk)
                    (try clear hi)
                    refine hK.out _ _ ⟨HS0_, HS1_, HS2_, HS3_, HS4_, HS5_, HS6_, HS7_, HS8_, HS9_, HS10_, HS11_, HS12_, HS13_, HS14_, HS15_⟩ (fun hHeld => ?_)
                    clear hK K
                    refine norm_ (a' := ?_) ?_ ?_
                    rotate_left
                    ·
                     show Act.put _ (some 89) _ = _
                     simp only [Act.put, List.setIfInBounds_toArray, List.set_cons_zero, List.set_cons_succ, i64_w, i32_w]
                     rfl
                    refine pS_ 26 90 (fa 29 134217727) HT_ ?_
                    refine pS_ 27 91 (fa 29 268435455) HT_ ?_
                    refine pS_ 28 92 (fa 29 536870911) HT_ ?_
                    refine done_ (done_of HT_.out (by kernel_rfl)) ?_
                    try go_wp2
                    go_ret
                    exact ⟨by first | rfl | (simp [errW_none, errW_some] <;> rfl) | (simp only [← hji58]; first | rfl | (simp [errW_none, errW_some] <;> rfl)) | (simp [*, errW_none, errW_some] <;> rfl), bl HB⟩
                  ·
                   rw [if_neg c60] at H
                   exact absurd H (by simp)
                 ·
                  rw [if_neg c59] at H
                  exact absurd H (by simp)
                ·
                 rw [if_neg c57] at H
                 have c57b0 : decide (0 < x10_3) = false := decide_eq_false c57
                 clear c57
                 have H' := aZ_ H
                 clear H
                 try go_wp2
                 replace HO_3 := aZ_ (Kd.V_drew HO_3.out)
                 replace HO_4 := aZ_ (Kd.V_drew HO_4.out)
                 replace HB := aZ_ (below_drew1 HB.out)
                 have p367 : 0 ≤ (x10_3 : Int) := of_decide_eq_true asm_
                 have q367 : x10_3 < (x3_1.length : Int) := of_decide_eq_true asm_
                 obtain ⟨ad367, A367_2, c367_2, A367_3, c367_3, e367, hx367_0, hx367_1, hx367_2, hx367_3, hl367_2, hi367_2, hl367_3, hi367_3⟩ := at_T46 (Kd.V_reads' HO_3.out).2.2 x10_3 p367 q367
                 cases e367
                 obtain ⟨ce367, hce367, hMe367, hcc367⟩ := Kd.V_get HO_3.out z46 x10_3 p367 (by first | exact q367 | exact of_decide_eq_true asm_ | (have e_ := (Kd.V_reads' HO_3.out).1; omega))
                 obtain ⟨ua367_2, uc367_2, ua367_3, uc367_3, rfl, ul367_2, ge367_2, ul367_3, ge367_3⟩ := k46_openF hMe367
                 have hv367_2 := hcc367 2 _ rfl
                 rw [add_field _ _ 2 (by omega)] at hv367_2
                 replace hv367_2 := Option.some.inj (hv367_2.symm.trans hx367_2)
                 injection hv367_2 with hva_ hvn_ hvc_
                 rw [hva_] at ge367_2
                 rw [hvc_] at ul367_2
                 have HL367_2 := aZ_ (show Kd.V k28 28 _ w.heap.size _ _ ((rd_T46 x3_1 x10_3).f1) from Kd.V_mk ul367_2 ge367_2)
                 clear hva_ hvn_ hvc_ ge367_2 ul367_2
                 have hv367_3 := hcc367 3 _ rfl
                 rw [add_field _ _ 3 (by omega)] at hv367_3
                 replace hv367_3 := Option.some.inj (hv367_3.symm.trans hx367_3)
                 injection hv367_3 with hva_ hvn_ hvc_
                 rw [hva_] at ge367_3
                 rw [hvc_] at ul367_3
                 have HL367_3 := aZ_ (show Kd.V k49 49 _ w.heap.size _ _ ((rd_T46 x3_1 x10_3).f2) from Kd.V_mk ul367_3 ge367_3)
                 clear hva_ hvn_ hvc_ ge367_3 ul367_3
                 clear hcc367 hce367
                 have HR367_2 := aZ_ hi367_2
                 have HC367_2 := aZ_ hl367_2
                 clear hi367_2 hl367_2
                 have HR367_3 := aZ_ hi367_3
                 have HC367_3 := aZ_ hl367_3
                 clear hi367_3 hl367_3
                 replace p367 := eq_true p367
                 replace q367 := eq_true q367
                 have p368 : 0 ≤ (x10_3 : Int) := of_decide_eq_true asm_
                 have q368 : x10_3 < (x4_2.length : Int) := of_decide_eq_true asm_
                 obtain ⟨ad368, A368_2, c368_2, A368_3, c368_3, e368, hx368_0, hx368_1, hx368_2, hx368_3, hl368_2, hi368_2, hl368_3, hi368_3⟩ := at_T46 (Kd.V_reads' HO_4.out).2.2 x10_3 p368 q368
                 cases e368
                 obtain ⟨ce368, hce368, hMe368, hcc368⟩ := Kd.V_get HO_4.out z46 x10_3 p368 (by first | exact q368 | exact of_decide_eq_true asm_ | (have e_ := (Kd.V_reads' HO_4.out).1; omega))
                 obtain ⟨ua368_2, uc368_2, ua368_3, uc368_3, rfl, ul368_2, ge368_2, ul368_3, ge368_3⟩ := k46_openF hMe368
                 have hv368_2 := hcc368 2 _ rfl
                 rw [add_field _ _ 2 (by omega)] at hv368_2
                 replace hv368_2 := Option.some.inj (hv368_2.symm.trans hx368_2)
                 injection hv368_2 with hva_ hvn_ hvc_
                 rw [hva_] at ge368_2
                 rw [hvc_] at ul368_2
                 have HL368_2 := aZ_ (show Kd.V k28 28 _ w.heap.size _ _ ((rd_T46 x4_2 x10_3).f1) from Kd.V_mk ul368_2 ge368_2)
                 clear hva_ hvn_ hvc_ ge368_2 ul368_2
                 have hv368_3 := hcc368 3 _ rfl
                 rw [add_field _ _ 3 (by omega)] at hv368_3
                 replace hv368_3 := Option.some.inj (hv368_3.symm.trans hx368_3)
                 injection hv368_3 with hva_ hvn_ hvc_
                 rw [hva_] at ge368_3
                 rw [hvc_] at ul368_3
                 have HL368_3 := aZ_ (show Kd.V k49 49 _ w.heap.size _ _ ((rd_T46 x4_2 x10_3).f2) from Kd.V_mk ul368_3 ge368_3)
                 clear hva_ hvn_ hvc_ ge368_3 ul368_3
                 clear hcc368 hce368
                 have HR368_2 := aZ_ hi368_2
                 have HC368_2 := aZ_ hl368_2
                 clear hi368_2 hl368_2
                 have HR368_3 := aZ_ hi368_3
                 have HC368_3 := aZ_ hl368_3
                 clear hi368_3 hl368_3
                 replace p368 := eq_true p368
                 replace q368 := eq_true q368
                 refine start_ (n := 29) (S := fun w' => w'.cell? (ad367.add ((x10_3).toNat * 4)) = some (.string ((rd_T46 x3_1 x10_3).f0.f0)) ∧ w'.cell? ⟨(ad367.add ((x10_3).toNat * 4)).block, (ad367.add ((x10_3).toNat * 4)).off + 1, none⟩ = some (.string ((rd_T46 x3_1 x10_3).f0.f1)) ∧ w'.cell? ⟨(ad367.add ((x10_3).toNat * 4)).block, (ad367.add ((x10_3).toNat * 4)).off + 2, none⟩ = some (.slice A367_2 ((rd_T46 x3_1 x10_3).f1).length c367_2) ∧ w'.cell? ⟨(ad367.add ((x10_3).toNat * 4)).block, (ad367.add ((x10_3).toNat * 4)).off + 3, none⟩ = some (.slice A367_3 ((rd_T46 x3_1 x10_3).f2).length c367_3) ∧ w'.cell? (ad368.add ((x10_3).toNat * 4)) = some (.string ((rd_T46 x4_2 x10_3).f0.f0)) ∧ w'.cell? ⟨(ad368.add ((x10_3).toNat * 4)).block, (ad368.add ((x10_3).toNat * 4)).off + 1, none⟩ = some (.string ((rd_T46 x4_2 x10_3).f0.f1)) ∧ w'.cell? ⟨(ad368.add ((x10_3).toNat * 4)).block, (ad368.add ((x10_3).toNat * 4)).off + 2, none⟩ = some (.slice A368_2 ((rd_T46 x4_2 x10_3).f1).length c368_2) ∧ w'.cell? ⟨(ad368.add ((x10_3).toNat * 4)).block, (ad368.add ((x10_3).toNat * 4)).off + 3, none⟩ = some (.slice A368_3 ((rd_T46 x4_2 x10_3).f2).length c368_3)) (ds := []) #[false, false, false, false, false, false, false, false, false, false, false, false, false, false, false, false, false, false, false, false, false, false, false, false, false, false, false, false, false] (by kernel_rfl) rfl rfl ⟨hx367_0, hx367_1, hx367_2, hx367_3, hx368_0, hx368_1, hx368_2, hx368_3⟩ (fun hHeld => ?_); refine with_tabW chancellaw8_EntsOrder.tab22 chancellaw8_EntsOrder.bits22 (fun HT_ HW_ => ?_)
                 generalize wr.drew = w69 at HO_3 HO_4 HB HL367_2 HL367_3 HL368_2 HL368_3 HR367_2 HR367_3 HR368_2 HR368_3 hx367_0 hx367_1 hx367_2 hx367_3 hx368_0 hx368_1 hx368_2 hx368_3 hHeld ⊢
                 refine pS_ 0 64 (fa 29 1) HT_ ?_
                 refine pS_ 1 65 (fa 29 3) HT_ ?_
                 refine pS_ 2 66 (fa 29 7) HT_ ?_
                 refine pS_ 4 68 (fa 29 23) HT_ ?_
                 refine pS_ 5 69 (fa 29 55) HT_ ?_
                 refine pS_ 6 70 (fa 29 119) HT_ ?_
                 refine tS_ 3 67 (fa 29 127) HT_ HW_ hHeld ?_
                 refine tS_ 7 71 (fa 29 255) HT_ HW_ hHeld ?_
                 refine one_ (i := 8) (N := some 72) #[true, true, true, true, true, true, true, true, true, false, false, false, false, false, false, false, false, false, false, false, false, false, false, false, false, false, false, false, false] rfl rfl (one_of HT_.out (by kernel_rfl)) (by decide) (fun K hK => ?_)
                 refine goes_ Try.func30 (by kernel_rfl) rfl #[.agg #[.string ((rd_T46 x3_1 x10_3).f0.f0), .string ((rd_T46 x3_1 x10_3).f0.f1), .slice A367_2 ((rd_T46 x3_1 x10_3).f1).length c367_2, .slice A367_3 ((rd_T46 x3_1 x10_3).f2).length c367_3], .agg #[.string ((rd_T46 x4_2 x10_3).f0.f0), .string ((rd_T46 x4_2 x10_3).f0.f1), .slice A368_2 ((rd_T46 x4_2 x10_3).f1).length c368_2, .slice A368_3 ((rd_T46 x4_2 x10_3).f2).length c368_3]] (by rfl) rfl rfl gm_ ?_
                 with_reducible refine (ents_Same.calls ((rd_T46 x3_1 x10_3).f0.f0) ((rd_T46 x3_1 x10_3).f0.f1) _ _ ((rd_T46 x3_1 x10_3).f1) _ _ ((rd_T46 x3_1 x10_3).f2) ((rd_T46 x4_2 x10_3).f0.f0) ((rd_T46 x4_2 x10_3).f0.f1) _ _ ((rd_T46 x4_2 x10_3).f1) _ _ ((rd_T46 x4_2 x10_3).f2) true _ ?side1 ?side2 ?side3 ?side4 ?side5 ?side6 ?side7 ?side8 A55.out).mono ?_
                 (case side1 => exact kD HR367_2)
                 (case side2 => exact HC367_2.out)
                 (case side3 => exact kD HR367_3)
                 (case side4 => exact HC367_3.out)
                 (case side5 => exact kD HR368_2)
                 (case side6 => exact HC368_2.out)
                 (case side7 => exact kD HR368_3)
                 (case side8 => exact HC368_3.out)
                 rintro e w70 ⟨rfl, hb⟩
                 have HS0_ := (hbc hb (hHeld.1) :)
                 have HS1_ := (hbc hb (hHeld.2.1) :)
                 have HS2_ := (hbc hb (hHeld.2.2.1) :)
                 have HS3_ := (hbc hb (hHeld.2.2.2.1) :)
                 have HS4_ := (hbc hb (hHeld.2.2.2.2.1) :)
                 have HS5_ := (hbc hb (hHeld.2.2.2.2.2.1) :)
                 have HS6_ := (hbc hb (hHeld.2.2.2.2.2.2.1) :)
                 have HS7_ := (hbc hb (hHeld.2.2.2.2.2.2.2) :)
                 refine ⟨_, rfl, ?_⟩
                 replace HO_3 := aZ_ (Kd.V_below (kV HO_3) hb)
                 replace HO_4 := aZ_ (Kd.V_below (kV HO_4) hb)
                 replace HL367_2 := aZ_ (Kd.V_below (kV HL367_2) hb)
                 replace HL367_3 := aZ_ (Kd.V_below (kV HL367_3) hb)
                 replace HL368_2 := aZ_ (Kd.V_below (kV HL368_2) hb)
                 replace HL368_3 := aZ_ (Kd.V_below (kV HL368_3) hb)
                 replace HR367_2 := aZ_ (Kd.C_below (kD HR367_2) hb)
                 replace HR367_3 := aZ_ (Kd.C_below (kD HR367_3) hb)
                 replace HR368_2 := aZ_ (Kd.C_below (kD HR368_2) hb)
                 replace HR368_3 := aZ_ (Kd.C_below (kD HR368_3) hb)
                 replace HB := aZ_ (below_step (bl HB) hb)
                 (try clear hb)
                 (try clear hb2)
                 (try clear hk)
                 (try clear hi)
                 refine hK.out _ _ ⟨HS0_, HS1_, HS2_, HS3_, HS4_, HS5_, HS6_, HS7_⟩ (fun hHeld => ?_)
                 clear hK K
                 refine norm_ (a' := ?_) ?_ ?_
                 rotate_left
                 ·
                  show Act.put _ (some 72) _ = _
                  simp only [Act.put, List.setIfInBounds_toArray, List.set_cons_zero, List.set_cons_succ, i64_w, i32_w]
                  rfl
                 refine pS_ 9 73 (fa 29 1023) HT_ ?_
                 refine pS_ 10 74 (fa 29 2047) HT_ ?_
                 refine pS_ 11 75 (fa 29 4095) HT_ ?_
                 refine pS_ 12 76 (fa 29 8191) HT_ ?_
                 refine pS_ 13 77 (fa 29 16383) HT_ ?_
                 refine pU_ 14 78 (fa 29 32767) HT_ ?_
                 refine pU_ 15 79 (fa 29 65535) HT_ ?_
                 refine pU_ 16 80 (fa 29 131071) HT_ ?_
                 refine pU_ 17 81 (fa 29 262143) HT_ ?_
                 refine pU_ 18 82 (fa 29 524287) HT_ ?_
                 refine pU_ 19 83 (fa 29 1048575) HT_ ?_
                 refine pU_ 20 84 (fa 29 2097151) HT_ ?_
                 refine pU_ 21 85 (fa 29 4194303) HT_ ?_
                 refine pU_ 22 86 (fa 29 8388607) HT_ ?_
                 refine pU_ 23 87 (fa 29 16777215) HT_ ?_
                 refine pU_ 24 88 (fa 29 33554431) HT_ ?_
                 refine pU_ 25 89 (fa 29 67108863) HT_ ?_
                 refine pU_ 26 90 (fa 29 134217727) HT_ ?_
                 refine pS_ 27 91 (fa 29 268435455) HT_ ?_
                 refine pS_ 28 92 (fa 29 536870911) HT_ ?_
                 refine done_ (done_of HT_.out (by kernel_rfl)) ?_
                 try go_wp2
                 go_roundg k3
                 case measure => have := HK1.out; have := HK2.out; have := HK3.out; omega
                 case rel => exact ⟨(wrap64 (x10_3 + 1)), rf_, H', ⟨by have := HK1.out; have := HK2.out; have := HK3.out; omega⟩, ⟨kV HO_3⟩, ⟨kV HO_4⟩, ⟨bl HB⟩⟩
               ·
                replace c56 := Bool.eq_false_iff.mpr c56
                subst c56
                have H1 : (some false) = some r := by rw [if_neg (show ¬ (false = true) by decide)] at H; exact H
                clear H
                have H := H1
                clear H1
                obtain rfl := Option.some.inj H
                try go_wp2
                replace HO_3 := aZ_ (Kd.V_drew HO_3.out)
                replace HO_4 := aZ_ (Kd.V_drew HO_4.out)
                replace HB := aZ_ (below_drew1 HB.out)
                have p367 : 0 ≤ (x10_3 : Int) := of_decide_eq_true asm_
                have q367 : x10_3 < (x3_1.length : Int) := of_decide_eq_true asm_
                obtain ⟨ad367, A367_2, c367_2, A367_3, c367_3, e367, hx367_0, hx367_1, hx367_2, hx367_3, hl367_2, hi367_2, hl367_3, hi367_3⟩ := at_T46 (Kd.V_reads' HO_3.out).2.2 x10_3 p367 q367
                cases e367
                obtain ⟨ce367, hce367, hMe367, hcc367⟩ := Kd.V_get HO_3.out z46 x10_3 p367 (by first | exact q367 | exact of_decide_eq_true asm_ | (have e_ := (Kd.V_reads' HO_3.out).1; omega))
                obtain ⟨ua367_2, uc367_2, ua367_3, uc367_3, rfl, ul367_2, ge367_2, ul367_3, ge367_3⟩ := k46_openF hMe367
                have hv367_2 := hcc367 2 _ rfl
                rw [add_field _ _ 2 (by omega)] at hv367_2
                replace hv367_2 := Option.some.inj (hv367_2.symm.trans hx367_2)
                injection hv367_2 with hva_ hvn_ hvc_
                rw [hva_] at ge367_2
                rw [hvc_] at ul367_2
                have HL367_2 := aZ_ (show Kd.V k28 28 _ w.heap.size _ _ ((rd_T46 x3_1 x10_3).f1) from Kd.V_mk ul367_2 ge367_2)
                clear hva_ hvn_ hvc_ ge367_2 ul367_2
                have hv367_3 := hcc367 3 _ rfl
                rw [add_field _ _ 3 (by omega)] at hv367_3
                replace hv367_3 := Option.some.inj (hv367_3.symm.trans hx367_3)
                injection hv367_3 with hva_ hvn_ hvc_
                rw [hva_] at ge367_3
                rw [hvc_] at ul367_3
                have HL367_3 := aZ_ (show Kd.V k49 49 _ w.heap.size _ _ ((rd_T46 x3_1 x10_3).f2) from Kd.V_mk ul367_3 ge367_3)
                clear hva_ hvn_ hvc_ ge367_3 ul367_3
                clear hcc367 hce367
                have HR367_2 := aZ_ hi367_2
                have HC367_2 := aZ_ hl367_2
                clear hi367_2 hl367_2
                have HR367_3 := aZ_ hi367_3
                have HC367_3 := aZ_ hl367_3
                clear hi367_3 hl367_3
                replace p367 := eq_true p367
                replace q367 := eq_true q367
                have p368 : 0 ≤ (x10_3 : Int) := of_decide_eq_true asm_
                have q368 : x10_3 < (x4_2.length : Int) := of_decide_eq_true asm_
                obtain ⟨ad368, A368_2, c368_2, A368_3, c368_3, e368, hx368_0, hx368_1, hx368_2, hx368_3, hl368_2, hi368_2, hl368_3, hi368_3⟩ := at_T46 (Kd.V_reads' HO_4.out).2.2 x10_3 p368 q368
                cases e368
                obtain ⟨ce368, hce368, hMe368, hcc368⟩ := Kd.V_get HO_4.out z46 x10_3 p368 (by first | exact q368 | exact of_decide_eq_true asm_ | (have e_ := (Kd.V_reads' HO_4.out).1; omega))
                obtain ⟨ua368_2, uc368_2, ua368_3, uc368_3, rfl, ul368_2, ge368_2, ul368_3, ge368_3⟩ := k46_openF hMe368
                have hv368_2 := hcc368 2 _ rfl
                rw [add_field _ _ 2 (by omega)] at hv368_2
                replace hv368_2 := Option.some.inj (hv368_2.symm.trans hx368_2)
                injection hv368_2 with hva_ hvn_ hvc_
                rw [hva_] at ge368_2
                rw [hvc_] at ul368_2
                have HL368_2 := aZ_ (show Kd.V k28 28 _ w.heap.size _ _ ((rd_T46 x4_2 x10_3).f1) from Kd.V_mk ul368_2 ge368_2)
                clear hva_ hvn_ hvc_ ge368_2 ul368_2
                have hv368_3 := hcc368 3 _ rfl
                rw [add_field _ _ 3 (by omega)] at hv368_3
                replace hv368_3 := Option.some.inj (hv368_3.symm.trans hx368_3)
                injection hv368_3 with hva_ hvn_ hvc_
                rw [hva_] at ge368_3
                rw [hvc_] at ul368_3
                have HL368_3 := aZ_ (show Kd.V k49 49 _ w.heap.size _ _ ((rd_T46 x4_2 x10_3).f2) from Kd.V_mk ul368_3 ge368_3)
                clear hva_ hvn_ hvc_ ge368_3 ul368_3
                clear hcc368 hce368
                have HR368_2 := aZ_ hi368_2
                have HC368_2 := aZ_ hl368_2
                clear hi368_2 hl368_2
                have HR368_3 := aZ_ hi368_3
                have HC368_3 := aZ_ hl368_3
                clear hi368_3 hl368_3
                replace p368 := eq_true p368
                replace q368 := eq_true q368
                refine start_ (n := 29) (S := fun w' => w'.cell? (ad367.add ((x10_3).toNat * 4)) = some (.string ((rd_T46 x3_1 x10_3).f0.f0)) ∧ w'.cell? ⟨(ad367.add ((x10_3).toNat * 4)).block, (ad367.add ((x10_3).toNat * 4)).off + 1, none⟩ = some (.string ((rd_T46 x3_1 x10_3).f0.f1)) ∧ w'.cell? ⟨(ad367.add ((x10_3).toNat * 4)).block, (ad367.add ((x10_3).toNat * 4)).off + 2, none⟩ = some (.slice A367_2 ((rd_T46 x3_1 x10_3).f1).length c367_2) ∧ w'.cell? ⟨(ad367.add ((x10_3).toNat * 4)).block, (ad367.add ((x10_3).toNat * 4)).off + 3, none⟩ = some (.slice A367_3 ((rd_T46 x3_1 x10_3).f2).length c367_3) ∧ w'.cell? (ad368.add ((x10_3).toNat * 4)) = some (.string ((rd_T46 x4_2 x10_3).f0.f0)) ∧ w'.cell? ⟨(ad368.add ((x10_3).toNat * 4)).block, (ad368.add ((x10_3).toNat * 4)).off + 1, none⟩ = some (.string ((rd_T46 x4_2 x10_3).f0.f1)) ∧ w'.cell? ⟨(ad368.add ((x10_3).toNat * 4)).block, (ad368.add ((x10_3).toNat * 4)).off + 2, none⟩ = some (.slice A368_2 ((rd_T46 x4_2 x10_3).f1).length c368_2) ∧ w'.cell? ⟨(ad368.add ((x10_3).toNat * 4)).block, (ad368.add ((x10_3).toNat * 4)).off + 3, none⟩ = some (.slice A368_3 ((rd_T46 x4_2 x10_3).f2).length c368_3)) (ds := []) #[false, false, false, false, false, false, false, false, false, false, false, false, false, false, false, false, false, false, false, false, false, false, false, false, false, false, false, false, false] (by kernel_rfl) rfl rfl ⟨hx367_0, hx367_1, hx367_2, hx367_3, hx368_0, hx368_1, hx368_2, hx368_3⟩ (fun hHeld => ?_); refine with_tabW chancellaw8_EntsOrder.tab22 chancellaw8_EntsOrder.bits22 (fun HT_ HW_ => ?_)
                generalize wr.drew = w71 at HO_3 HO_4 HB HL367_2 HL367_3 HL368_2 HL368_3 HR367_2 HR367_3 HR368_2 HR368_3 hx367_0 hx367_1 hx367_2 hx367_3 hx368_0 hx368_1 hx368_2 hx368_3 hHeld ⊢
                refine pS_ 0 64 (fa 29 1) HT_ ?_
                refine pS_ 1 65 (fa 29 3) HT_ ?_
                refine pS_ 2 66 (fa 29 7) HT_ ?_
                refine pS_ 4 68 (fa 29 23) HT_ ?_
                refine pS_ 5 69 (fa 29 55) HT_ ?_
                refine pS_ 6 70 (fa 29 119) HT_ ?_
                refine tS_ 3 67 (fa 29 127) HT_ HW_ hHeld ?_
                refine tS_ 7 71 (fa 29 255) HT_ HW_ hHeld ?_
                refine one_ (i := 8) (N := some 72) #[true, true, true, true, true, true, true, true, true, false, false, false, false, false, false, false, false, false, false, false, false, false, false, false, false, false, false, false, false] rfl rfl (one_of HT_.out (by kernel_rfl)) (by decide) (fun K hK => ?_)
                refine goes_ Try.func30 (by kernel_rfl) rfl #[.agg #[.string ((rd_T46 x3_1 x10_3).f0.f0), .string ((rd_T46 x3_1 x10_3).f0.f1), .slice A367_2 ((rd_T46 x3_1 x10_3).f1).length c367_2, .slice A367_3 ((rd_T46 x3_1 x10_3).f2).length c367_3], .agg #[.string ((rd_T46 x4_2 x10_3).f0.f0), .string ((rd_T46 x4_2 x10_3).f0.f1), .slice A368_2 ((rd_T46 x4_2 x10_3).f1).length c368_2, .slice A368_3 ((rd_T46 x4_2 x10_3).f2).length c368_3]] (by rfl) rfl rfl gm_ ?_
                with_reducible refine (ents_Same.calls ((rd_T46 x3_1 x10_3).f0.f0) ((rd_T46 x3_1 x10_3).f0.f1) _ _ ((rd_T46 x3_1 x10_3).f1) _ _ ((rd_T46 x3_1 x10_3).f2) ((rd_T46 x4_2 x10_3).f0.f0) ((rd_T46 x4_2 x10_3).f0.f1) _ _ ((rd_T46 x4_2 x10_3).f1) _ _ ((rd_T46 x4_2 x10_3).f2) false _ ?side1 ?side2 ?side3 ?side4 ?side5 ?side6 ?side7 ?side8 A55.out).mono ?_
                (case side1 => exact kD HR367_2)
                (case side2 => exact HC367_2.out)
                (case side3 => exact kD HR367_3)
                (case side4 => exact HC367_3.out)
                (case side5 => exact kD HR368_2)
                (case side6 => exact HC368_2.out)
                (case side7 => exact kD HR368_3)
                (case side8 => exact HC368_3.out)
                rintro e w72 ⟨rfl, hb⟩
                have HS0_ := (hbc hb (hHeld.1) :)
                have HS1_ := (hbc hb (hHeld.2.1) :)
                have HS2_ := (hbc hb (hHeld.2.2.1) :)
                have HS3_ := (hbc hb (hHeld.2.2.2.1) :)
                have HS4_ := (hbc hb (hHeld.2.2.2.2.1) :)
                have HS5_ := (hbc hb (hHeld.2.2.2.2.2.1) :)
                have HS6_ := (hbc hb (hHeld.2.2.2.2.2.2.1) :)
                have HS7_ := (hbc hb (hHeld.2.2.2.2.2.2.2) :)
                refine ⟨_, rfl, ?_⟩
                replace HO_3 := aZ_ (Kd.V_below (kV HO_3) hb)
                replace HO_4 := aZ_ (Kd.V_below (kV HO_4) hb)
                replace HL367_2 := aZ_ (Kd.V_below (kV HL367_2) hb)
                replace HL367_3 := aZ_ (Kd.V_below (kV HL367_3) hb)
                replace HL368_2 := aZ_ (Kd.V_below (kV HL368_2) hb)
                replace HL368_3 := aZ_ (Kd.V_below (kV HL368_3) hb)
                replace HR367_2 := aZ_ (Kd.C_below (kD HR367_2) hb)
                replace HR367_3 := aZ_ (Kd.C_below (kD HR367_3) hb)
                replace HR368_2 := aZ_ (Kd.C_below (kD HR368_2) hb)
                replace HR368_3 := aZ_ (Kd.C_below (kD HR368_3) hb)
                replace HB := aZ_ (below_step (bl HB) hb)
                (try clear hb)
                (try clear hb2)
                (try clear hk)
                (try clear hi)
                refine hK.out _ _ ⟨HS0_, HS1_, HS2_, HS3_, HS4_, HS5_, HS6_, HS7_⟩ (fun hHeld => ?_)
                clear hK K
                refine norm_ (a' := ?_) ?_ ?_
                rotate_left
                ·
                 show Act.put _ (some 72) _ = _
                 simp only [Act.put, List.setIfInBounds_toArray, List.set_cons_zero, List.set_cons_succ, i64_w, i32_w]
                 rfl
                refine pS_ 9 73 (fa 29 1023) HT_ ?_
                refine pS_ 10 74 (fa 29 2047) HT_ ?_
                refine pU_ 11 75 (fa 29 4095) HT_ ?_
                refine pU_ 12 76 (fa 29 8191) HT_ ?_
                refine pU_ 13 77 (fa 29 16383) HT_ ?_
                refine pU_ 14 78 (fa 29 32767) HT_ ?_
                refine pU_ 15 79 (fa 29 65535) HT_ ?_
                refine pU_ 16 80 (fa 29 131071) HT_ ?_
                refine pU_ 17 81 (fa 29 262143) HT_ ?_
                refine pU_ 18 82 (fa 29 524287) HT_ ?_
                refine pU_ 19 83 (fa 29 1048575) HT_ ?_
                refine pU_ 20 84 (fa 29 2097151) HT_ ?_
                refine pU_ 21 85 (fa 29 4194303) HT_ ?_
                refine pU_ 22 86 (fa 29 8388607) HT_ ?_
                refine pU_ 23 87 (fa 29 16777215) HT_ ?_
                refine pU_ 24 88 (fa 29 33554431) HT_ ?_
                refine pU_ 25 89 (fa 29 67108863) HT_ ?_
                refine pU_ 26 90 (fa 29 134217727) HT_ ?_
                refine pU_ 27 91 (fa 29 268435455) HT_ ?_
                refine pS_ 28 92 (fa 29 536870911) HT_ ?_
                refine done_ (done_of HT_.out (by kernel_rfl)) ?_
                try go_wp2
                go_ret
                exact ⟨by first | rfl | (simp [errW_none, errW_some] <;> rfl) | (simp [*, errW_none, errW_some] <;> rfl), bl HB⟩
              ·
               rw [if_neg c54] at H
               exact absurd H (by simp)
             ·
              rw [if_neg c53] at H
              exact absurd H (by simp)
            ·
             rw [if_neg c52] at H
             have c52b0 : decide (x10_3 < (x3_1.length : Int)) = false := decide_eq_false c52
             clear c52
             obtain rfl := Option.some.inj H
             go_wp2
             go_ret
             exact ⟨by first | rfl | (simp [errW_none, errW_some] <;> rfl) | (simp [*, errW_none, errW_some] <;> rfl), bl HB⟩
         ·
          rw [if_neg c49] at H
          have c49b0 : ((x3_1.length : Int) == (x4_2.length : Int)) = false := beq_eq_false_iff_ne.mpr c49
          have c49b1 : ((x3_1.length : Int) != (x4_2.length : Int)) = true := bne_iff_ne.mpr c49
          have c49b2 : (x3_1.length == x4_2.length) = false := by first | simpa using c49 | (simp at c49 ⊢; omega)
          obtain rfl := Option.some.inj H
          obtain ⟨Ao73, co73, eo73⟩ := Kd.V_slice HO_3.out
          subst eo73
          obtain ⟨Ao74, co74, eo74⟩ := Kd.V_slice HO_4.out
          subst eo74
          go_wp2
          go_ret
          exact ⟨by first | rfl | (simp [errW_none, errW_some] <;> rfl) | (simp [*, errW_none, errW_some] <;> rfl), bl HB⟩
 ·
  replace c3 := Bool.eq_false_iff.mpr c3
  subst c3
  have H1 : (some false) = some r := by rw [if_neg (show ¬ (false = true) by decide)] at H; exact H
  clear H
  have H := H1
  clear H1
  obtain rfl := Option.some.inj H
  go_enter Try.func6, Try.ntmps6
  go_wp2_with (first | ((with_reducible refine gate_callee (f := 23) rfl ?_); refine goesL_ (some 11) rfl rfl Try.func23 (by kernel_rfl) rfl #[] rfl gm_ ?_; (with_reducible refine (chancellaw8_known.calls  false _ A2.out).mono ?_); rintro e w75 ⟨rfl, hb⟩; refine ⟨_, rfl, ?_⟩; replace HB := aZ_ (below_step (bl HB) hb); (try clear hb); (try clear hb2); (try clear hk); (try clear hi)))
  go_ret
  exact ⟨by first | rfl | (simp [errW_none, errW_some] <;> rfl) | (simp [*, errW_none, errW_some] <;> rfl), bl HB⟩

end Go.Proofs.Ytfmghijmcgkpiaa.GO
