-- Written by wip/tools/gprint.py over the kit's printer.
import Derived.Test.YtelibndkkokadaaGB0
import Derived.Test.YtelibndkkokadaaGB1
import Derived.Test.YtelibndkkokadaaJa
import Derived.Test.YtelibndkkokadaaSqz
namespace Go.Proofs.Ytelibndkkokadaa.GB
open Go.RowKit Go.Proofs.YtelibndkkokadaaW.PrintWords Go.Proofs.YtelibndkkokadaaW.PrintLast Go.Proofs.Ytelibndkkokadaa.HandV Go.Proofs.YtelibndkkokadaaW.PrintMore
attribute [local go_sem] max2_int min2_int max_two min_two max_three min_three max_four min_four   -- for this text's walks alone
set_option linter.unusedVariables false
set_option linter.unusedSimpArgs false

attribute [local go_sem high] eqA28
-- BREAK
/-! ### above_In: function 16, given -/
/-- Is one in another one? -/
def above_In.f (l0 : List S38) (a1_0 a1_1 a2_0 a2_1 : ByteArray) : Option Bool :=
 if GA.okL l0 = true ∧ GA.okU ⟨a1_0, a1_1⟩ = true ∧ GA.okU ⟨a2_0, a2_1⟩ = true then some (GA.inF l0 ⟨a1_0, a1_1⟩ ⟨a2_0, a2_1⟩) else none
theorem above_In.calls (A0 : Option Addr) (c0 : Nat) (l0 : List S38) (a1_0 : ByteArray) (a1_1 : ByteArray) (a2_0 : ByteArray) (a2_1 : ByteArray) (r : Bool) (w : World) (hr0 : Kd.C k38 w A0 l0.length l0) (hc0 : l0.length ≤ c0) (h : above_In.f l0 a1_0 a1_1 a2_0 a2_1 = some r) :
  Calls Try.prog 16 #[.slice A0 l0.length c0, .agg #[.string a1_0, .string a1_1], .agg #[.string a2_0, .string a2_1]] w fun e w' => e = .returned (.bool r) ∧ Below w.heap.size w w' := by
 unfold above_In.f at h
 by_cases hs : GA.okL l0 = true ∧ GA.okU ⟨a1_0, a1_1⟩ = true ∧ GA.okU ⟨a2_0, a2_1⟩ = true
 ·
  rw [if_pos hs] at h
  obtain rfl := Option.some.inj h
  exact GA.in_calls0 l0 hs.1 ⟨a1_0, a1_1⟩ ⟨a2_0, a2_1⟩ hs.2.1 hs.2.2 A0 c0 w hc0 hr0
 ·
  rw [if_neg hs] at h
  exact absurd h (by simp)

/-! ### chancelref8_Find: function 52 -/
def chancelref8_Find.l0 : Nat → List (S38) → Int → ByteArray → ByteArray → Option (ByteArray × ByteArray × (List (S28)) × (List (S58)) × Bool)
 | 0, _, _, _, _ => none
 | k + 1, x0, x6, x466000, x466001 => if x6 < (x0.length : Int) then (if 0 ≤ x6 then (if ((((rd_T38 x0 x6).f0.f0).toList) == x466000.toList && ((((rd_T38 x0 x6).f0.f1).toList) == x466001.toList)) = true then (some ((rd_T38 x0 x6).f0.f0, (rd_T38 x0 x6).f0.f1, (rd_T38 x0 x6).f1, (rd_T38 x0 x6).f2, true)) else (chancelref8_Find.l0 k x0 (wrap64 (x6 + 1)) x466000 x466001)) else (none)) else (some ((⟨#[]⟩ : ByteArray), (⟨#[]⟩ : ByteArray), ([] : List (S28)), ([] : List (S58)), false))
def chancelref8_Find.f (k : Nat) (l0 : List (S38)) (a1_0 : ByteArray) (a1_1 : ByteArray) : Option (ByteArray × ByteArray × (List (S28)) × (List (S58)) × Bool) := chancelref8_Find.l0 k l0 0 a1_0 a1_1
theorem chancelref8_Find.mono_l : ∀ k, (∀ y0 y1 y2 y3, LeO (chancelref8_Find.l0 k y0 y1 y2 y3) (chancelref8_Find.l0 (k + 1) y0 y1 y2 y3))
 | 0 => fun _ _ _ _ r h => by simp [chancelref8_Find.l0] at h
 | k + 1 => by
  have ih0 := chancelref8_Find.mono_l k
  ·
   intro y0 y1 y2 y3
   unfold chancelref8_Find.l0
   repeat' first
   | (with_reducible exact ih0 _ _ _ _)
   | (with_reducible exact LeO.refl _)
   | (with_reducible exact LeO.none _)
   | (with_reducible refine LeO.ite ?_ ?_)
   | (with_reducible refine LeO.bind ?_ (fun _ => ?_))
   | exact ih0 _ _ _ _
   | exact LeO.none _
   | refine LeO.ite ?_ ?_
   | refine LeO.bind ?_ (fun _ => ?_)
theorem chancelref8_Find.mono : ∀ a0 a1 a2 k, LeO (chancelref8_Find.f k a0 a1 a2) (chancelref8_Find.f (k + 1) a0 a1 a2) := by
 intro a0 a1 a2 k
 have ih0 := chancelref8_Find.mono_l k
 unfold chancelref8_Find.f
 repeat' first
   | (with_reducible exact ih0 _ _ _ _)
   | (with_reducible exact LeO.refl _)
   | (with_reducible exact LeO.none _)
   | (with_reducible refine LeO.ite ?_ ?_)
   | (with_reducible refine LeO.bind ?_ (fun _ => ?_))
   | exact ih0 _ _ _ _
   | exact LeO.none _
   | refine LeO.ite ?_ ?_
   | refine LeO.bind ?_ (fun _ => ?_)
set_option maxHeartbeats 8000000 in
set_option maxRecDepth 100000 in
theorem chancelref8_Find.calls (k : Nat) (P0_ : Nat → Prop) (A0 : Option Addr) (c0 : Nat) (l0 : List (S38)) (a1_0 : ByteArray) (a1_1 : ByteArray) (r1 : ByteArray) (r2 : ByteArray) (r3 : List (S28)) (r4 : List (S58)) (r5 : Bool) (w : World) (hs0 : Kd.V k38 38 w w.heap.size (fun k_ => P0_ k_) (.slice A0 l0.length c0) l0) (h : chancelref8_Find.f k l0 a1_0 a1_1 = some (r1, r2, r3, r4, r5)) :
  Calls Try.prog 52 #[.slice A0 l0.length c0, .agg #[.string a1_0, .string a1_1]] w fun e w' => ∃ v2_ v3_ : Value, e = .returned (.tuple #[.agg #[.string r1, .string r2, v2_, v3_], .bool r5]) ∧ Kd.V k28 28 w' w.heap.size (fun k_ => (P0_ k_ ∨ w.heap.size ≤ k_)) v2_ r3 ∧ Kd.V k58 58 w' w.heap.size (fun k_ => (P0_ k_ ∨ w.heap.size ≤ k_)) v3_ r4 ∧ Below w.heap.size w w' := by
 have hu28 := Try.underlying28
 have hu38 := Try.underlying38
 have HO0 := aZ_ (show Kd.V k38 38 w w.heap.size (fun k_ => (P0_ k_ ∨ w.heap.size ≤ k_)) (.slice A0 l0.length c0) l0 from Kd.V_mono hs0 (fun k_ hk => .inl hk))
 have HB := aZ_ (Below.refl w.heap.size w)
 have H : (chancelref8_Find.l0 k l0 0 a1_0 a1_1) = some (r1, r2, r3, r4, r5) := h
 clear h
 have H' := aZ_ H
 clear H
 go_enter Try.func52, Try.ntmps52
 go_wp2_with (first | ((with_reducible refine gate_dst (N := 3) rfl ?_); refine bxE 3 #[.string a1_0, .string a1_1] 28 ?_; intro gb465 hg w3 hbox hb; replace HO0 := aZ_ (Kd.V_below (Kd.V_elderB (kV HO0) gb465 (Nat.le_of_eq hg.symm)) hb); have BK465 := aZ_ (hbox); have GW465 := aZ_ ((by rw [hg]; exact (below_size (bl HB)) : w.heap.size ≤ gb465)); have GE465 := aZ_ ((by rw [hg]; exact (below_size (bl HB)) : w.heap.size ≤ gb465)); replace HB := aZ_ (below_step (bl HB) hb); clear hb hbox hg) | ((with_reducible refine gate_dst (N := 4) rfl ?_); refine bxE 4 #[.string (⟨#[]⟩ : ByteArray), .string (⟨#[]⟩ : ByteArray), .slice none 0 0, .slice none 0 0] 38 ?_; intro gb466 hg w4 hbox hb; replace HO0 := aZ_ (Kd.V_below (Kd.V_elderB (kV HO0) gb466 (Nat.le_of_eq hg.symm)) hb); have BK466 := aZ_ (hbox); have GW466 := aZ_ ((by rw [hg]; exact (below_size (bl1 HB GE465)) : w.heap.size ≤ gb466)); have GE466 := aZ_ ((by rw [hg]; exact (below_size (bl1 HB GE465)) : w.heap.size ≤ gb466)); replace HB := aZ_ (below_step (bl1 HB GE465) hb); have NB465_466 := aZ_ ((by rw [hg]; exact Nat.ne_of_lt (blk_lt (g := gb465) (o := .cells #[.string a1_0, .string a1_1] 28 (0, 0)) (bk BK465)) : gb465 ≠ gb466)); have NB466_465 := aZ_ ((by rw [hg]; exact Nat.ne_of_gt (blk_lt (g := gb465) (o := .cells #[.string a1_0, .string a1_1] 28 (0, 0)) (bk BK465)) : gb466 ≠ gb465)); replace BK465 := aZ_ (blk_below (g := gb465) (o := .cells #[.string a1_0, .string a1_1] 28 (0, 0)) (bk BK465) hb); clear hb hbox hg))
 repeat (go_quiet (first | ((with_reducible refine gate_dst (N := 3) rfl ?_); refine bxE 3 #[.string a1_0, .string a1_1] 28 ?_; intro gb465 hg w3 hbox hb; replace HO0 := aZ_ (Kd.V_below (Kd.V_elderB (kV HO0) gb465 (Nat.le_of_eq hg.symm)) hb); have BK465 := aZ_ (hbox); have GW465 := aZ_ ((by rw [hg]; exact (below_size (bl HB)) : w.heap.size ≤ gb465)); have GE465 := aZ_ ((by rw [hg]; exact (below_size (bl HB)) : w.heap.size ≤ gb465)); replace HB := aZ_ (below_step (bl HB) hb); clear hb hbox hg) | ((with_reducible refine gate_dst (N := 4) rfl ?_); refine bxE 4 #[.string (⟨#[]⟩ : ByteArray), .string (⟨#[]⟩ : ByteArray), .slice none 0 0, .slice none 0 0] 38 ?_; intro gb466 hg w4 hbox hb; replace HO0 := aZ_ (Kd.V_below (Kd.V_elderB (kV HO0) gb466 (Nat.le_of_eq hg.symm)) hb); have BK466 := aZ_ (hbox); have GW466 := aZ_ ((by rw [hg]; exact (below_size (bl1 HB GE465)) : w.heap.size ≤ gb466)); have GE466 := aZ_ ((by rw [hg]; exact (below_size (bl1 HB GE465)) : w.heap.size ≤ gb466)); replace HB := aZ_ (below_step (bl1 HB GE465) hb); have NB465_466 := aZ_ ((by rw [hg]; exact Nat.ne_of_lt (blk_lt (g := gb465) (o := .cells #[.string a1_0, .string a1_1] 28 (0, 0)) (bk BK465)) : gb465 ≠ gb466)); have NB466_465 := aZ_ ((by rw [hg]; exact Nat.ne_of_gt (blk_lt (g := gb465) (o := .cells #[.string a1_0, .string a1_1] 28 (0, 0)) (bk BK465)) : gb466 ≠ gb465)); replace BK465 := aZ_ (blk_below (g := gb465) (o := .cells #[.string a1_0, .string a1_1] 28 (0, 0)) (bk BK465) hb); clear hb hbox hg)); try go_wp2_with (first | ((with_reducible refine gate_dst (N := 3) rfl ?_); refine bxE 3 #[.string a1_0, .string a1_1] 28 ?_; intro gb465 hg w3 hbox hb; replace HO0 := aZ_ (Kd.V_below (Kd.V_elderB (kV HO0) gb465 (Nat.le_of_eq hg.symm)) hb); have BK465 := aZ_ (hbox); have GW465 := aZ_ ((by rw [hg]; exact (below_size (bl HB)) : w.heap.size ≤ gb465)); have GE465 := aZ_ ((by rw [hg]; exact (below_size (bl HB)) : w.heap.size ≤ gb465)); replace HB := aZ_ (below_step (bl HB) hb); clear hb hbox hg) | ((with_reducible refine gate_dst (N := 4) rfl ?_); refine bxE 4 #[.string (⟨#[]⟩ : ByteArray), .string (⟨#[]⟩ : ByteArray), .slice none 0 0, .slice none 0 0] 38 ?_; intro gb466 hg w4 hbox hb; replace HO0 := aZ_ (Kd.V_below (Kd.V_elderB (kV HO0) gb466 (Nat.le_of_eq hg.symm)) hb); have BK466 := aZ_ (hbox); have GW466 := aZ_ ((by rw [hg]; exact (below_size (bl1 HB GE465)) : w.heap.size ≤ gb466)); have GE466 := aZ_ ((by rw [hg]; exact (below_size (bl1 HB GE465)) : w.heap.size ≤ gb466)); replace HB := aZ_ (below_step (bl1 HB GE465) hb); have NB465_466 := aZ_ ((by rw [hg]; exact Nat.ne_of_lt (blk_lt (g := gb465) (o := .cells #[.string a1_0, .string a1_1] 28 (0, 0)) (bk BK465)) : gb465 ≠ gb466)); have NB466_465 := aZ_ ((by rw [hg]; exact Nat.ne_of_gt (blk_lt (g := gb465) (o := .cells #[.string a1_0, .string a1_1] 28 (0, 0)) (bk BK465)) : gb466 ≠ gb465)); replace BK465 := aZ_ (blk_below (g := gb465) (o := .cells #[.string a1_0, .string a1_1] 28 (0, 0)) (bk BK465) hb); clear hb hbox hg)))
 go_loopg [6] k (fun kq v6 w' => ∃ (x6_1 : Int) (x467000_1 : ByteArray) (x467001_1 : ByteArray), v6 = .int .i64 x6_1 ∧ Aside0 (chancelref8_Find.l0 kq l0 x6_1 a1_0 a1_1 = some (r1, r2, r3, r4, r5)) ∧ Aside0 (kq ≤ k) ∧ Aside0 (Kd.V k38 38 w' w.heap.size (fun k_ => (P0_ k_ ∨ w.heap.size ≤ k_) ∧ k_ ≠ gb465 ∧ k_ ≠ gb466) (.slice A0 l0.length c0) l0) ∧ Aside0 (w'.heap[gb465]? = some (.cells #[.string a1_0, .string a1_1] 28 (0, 0))) ∧ Aside0 (w'.heap[gb466]? = some (.cells #[.string x467000_1, .string x467001_1, (.slice none 0 0), (.slice none 0 0)] 38 (0, 0))) ∧ Aside0 (Below w.heap.size w w'))
 case atStart => exact ⟨(0), ((⟨#[]⟩ : ByteArray)), ((⟨#[]⟩ : ByteArray)), rf_, H', ⟨Nat.le_refl _⟩, ⟨by (with_reducible repeat (first | apply Kd.V_alloc | apply Kd.V_drewN | apply Kd.V_drew)); exact Kd.V_mono HO0.out (fun _ hk => by first | exact ⟨hk.1.1, ⟨hk.1.2, hk.2⟩⟩ | (simp only [own_nf] at hk ⊢; exact ⟨hk.1.1, ⟨hk.1.2, hk.2⟩⟩))⟩, ⟨bk BK465⟩, ⟨bk BK466⟩, ⟨bl2 HB GE465 GE466⟩⟩
 case round =>
  clear H'
  try clear p2
  obtain ⟨x6_1, x467000_1, x467001_1, rfl, HA, HK1, HO_0, BK465, BK466, HB⟩ := hrel
  cases gk with
  | zero => exact absurd HA.out (by simp [chancelref8_Find.l0])
  | succ k1 =>
   have H := HA.out
   clear HA
   simp only [chancelref8_Find.l0] at H
   by_cases c5 : x6_1 < (l0.length : Int)
   ·
    rw [if_pos c5] at H
    have c5b0 : decide (x6_1 < (l0.length : Int)) = true := decide_eq_true c5
    clear c5
    by_cases c6 : 0 ≤ x6_1
    ·
     rw [if_pos c6] at H
     have c6b0 : decide (0 ≤ x6_1) = true := decide_eq_true c6
     clear c6
     by_cases c7 : ((((rd_T38 l0 x6_1).f0.f0).toList) == a1_0.toList && ((((rd_T38 l0 x6_1).f0.f1).toList) == a1_1.toList)) = true
     ·
      rw [if_pos c7] at H
      have c7b0 : ((((rd_T38 l0 x6_1).f0.f0).toList) == a1_0.toList && ((((rd_T38 l0 x6_1).f0.f1).toList) == a1_1.toList)) = true := c7
      (try (have c7b1 : decide ((((rd_T38 l0 x6_1).f0.f0).toList) = a1_0.toList && ((((rd_T38 l0 x6_1).f0.f1).toList) == a1_1.toList)) = true := by simpa using c7))
      (try (have c7b2 : ((((rd_T38 l0 x6_1).f0.f0).toList) == a1_0.toList && ((((rd_T38 l0 x6_1).f0.f1).toList) == a1_1.toList)) = true := by simpa using c7))
      clear c7
      simp only [Option.some.injEq, Prod.mk.injEq] at H
      obtain ⟨rfl, rfl, rfl, rfl, rfl⟩ := H
      have p467 : 0 ≤ (x6_1 : Int) := of_decide_eq_true asm_
      have q467 : x6_1 < (l0.length : Int) := of_decide_eq_true asm_
      obtain ⟨ad467, A467_2, c467_2, A467_3, c467_3, e467, hx467_0, hx467_1, hx467_2, hx467_3, hl467_2, hi467_2, hl467_3, hi467_3⟩ := at_T38 (Kd.V_reads' HO_0.out).2.2 x6_1 p467 q467
      cases e467
      obtain ⟨ce467, hce467, hMe467, hcc467⟩ := Kd.V_get HO_0.out z38 x6_1 p467 (by first | exact q467 | exact of_decide_eq_true asm_ | (have e_ := (Kd.V_reads' HO_0.out).1; omega))
      obtain ⟨ua467_2, uc467_2, ua467_3, uc467_3, rfl, ul467_2, ge467_2, ul467_3, ge467_3⟩ := k38_openF hMe467
      have hv467_2 := hcc467 2 _ rfl
      rw [add_field _ _ 2 (by omega)] at hv467_2
      replace hv467_2 := Option.some.inj (hv467_2.symm.trans hx467_2)
      injection hv467_2 with hva_ hvn_ hvc_
      rw [hva_] at ge467_2
      rw [hvc_] at ul467_2
      have HL467_2 := aZ_ (show Kd.V k28 28 _ w.heap.size _ _ ((rd_T38 l0 x6_1).f1) from Kd.V_mk ul467_2 ge467_2)
      clear hva_ hvn_ hvc_ ge467_2 ul467_2
      have hv467_3 := hcc467 3 _ rfl
      rw [add_field _ _ 3 (by omega)] at hv467_3
      replace hv467_3 := Option.some.inj (hv467_3.symm.trans hx467_3)
      injection hv467_3 with hva_ hvn_ hvc_
      rw [hva_] at ge467_3
      rw [hvc_] at ul467_3
      have HL467_3 := aZ_ (show Kd.V k58 58 _ w.heap.size _ _ ((rd_T38 l0 x6_1).f2) from Kd.V_mk ul467_3 ge467_3)
      clear hva_ hvn_ hvc_ ge467_3 ul467_3
      clear hcc467 hce467
      have HR467_2 := aZ_ hi467_2
      have HC467_2 := aZ_ hl467_2
      clear hi467_2 hl467_2
      have HR467_3 := aZ_ hi467_3
      have HC467_3 := aZ_ hl467_3
      clear hi467_3 hl467_3
      replace p467 := eq_true p467
      replace q467 := eq_true q467
      have hnb8 := NB465_466.out
      have hnc8 := NB466_465.out
      obtain ⟨hcz9_0, hcz9_1, hfz9_0, hfz9_1⟩ := bc2 BK465
      have p468 : 0 ≤ (x6_1 : Int) := of_decide_eq_true asm_
      have q468 : x6_1 < (l0.length : Int) := of_decide_eq_true asm_
      obtain ⟨ad468, A468_2, c468_2, A468_3, c468_3, e468, hx468_0, hx468_1, hx468_2, hx468_3, hl468_2, hi468_2, hl468_3, hi468_3⟩ := at_T38 (Kd.V_reads' HO_0.out).2.2 x6_1 p468 q468
      obtain rfl : ad467 = ad468 := (by injection e468)
      obtain ⟨ce468, hce468, hMe468, hcc468⟩ := Kd.V_get HO_0.out z38 x6_1 p468 (by first | exact q468 | exact of_decide_eq_true asm_ | (have e_ := (Kd.V_reads' HO_0.out).1; omega))
      obtain ⟨ua468_2, uc468_2, ua468_3, uc468_3, rfl, ul468_2, ge468_2, ul468_3, ge468_3⟩ := k38_openF hMe468
      have hv468_2 := hcc468 2 _ rfl
      rw [add_field _ _ 2 (by omega)] at hv468_2
      replace hv468_2 := Option.some.inj (hv468_2.symm.trans hx468_2)
      injection hv468_2 with hva_ hvn_ hvc_
      rw [hva_] at ge468_2
      rw [hvc_] at ul468_2
      have HL468_2 := aZ_ (show Kd.V k28 28 _ w.heap.size _ _ ((rd_T38 l0 x6_1).f1) from Kd.V_mk ul468_2 ge468_2)
      clear hva_ hvn_ hvc_ ge468_2 ul468_2
      have hv468_3 := hcc468 3 _ rfl
      rw [add_field _ _ 3 (by omega)] at hv468_3
      replace hv468_3 := Option.some.inj (hv468_3.symm.trans hx468_3)
      injection hv468_3 with hva_ hvn_ hvc_
      rw [hva_] at ge468_3
      rw [hvc_] at ul468_3
      have HL468_3 := aZ_ (show Kd.V k58 58 _ w.heap.size _ _ ((rd_T38 l0 x6_1).f2) from Kd.V_mk ul468_3 ge468_3)
      clear hva_ hvn_ hvc_ ge468_3 ul468_3
      clear hcc468 hce468
      have HR468_2 := aZ_ hi468_2
      have HC468_2 := aZ_ hl468_2
      clear hi468_2 hl468_2
      have HR468_3 := aZ_ hi468_3
      have HC468_3 := aZ_ hl468_3
      clear hi468_3 hl468_3
      replace p468 := eq_true p468
      replace q468 := eq_true q468
      have ea_ := Option.some.inj (hx467_2.symm.trans hx468_2)
      injection ea_ with ea_ en_ ec_
      subst ea_
      subst ec_
      clear en_
      have ea_ := Option.some.inj (hx467_3.symm.trans hx468_3)
      injection ea_ with ea_ en_ ec_
      subst ea_
      subst ec_
      clear en_
      obtain ⟨hcz10_0, hcz10_1, hcz10_2, hcz10_3, hfz10_0, hfz10_1, hfz10_2, hfz10_3⟩ := bc4 BK466
      go_wp2
      repeat (go_quiet (fail); try go_wp2)
      refine bodyPost_ret (results_ct rfl _ _ gb466 38 #[.string ((rd_T38 l0 x6_1).f0.f0), .string ((rd_T38 l0 x6_1).f0.f1), .slice A467_2 ((rd_T38 l0 x6_1).f1).length c467_2, .slice A467_3 ((rd_T38 l0 x6_1).f2).length c467_3] (0, 0) _ rfl (by (with_reducible repeat (first | refine blk_drewN ?_ _ | refine blk_drew ?_ | refine blk_alloc ?_ _)); refine blk_put (cs := #[.string ((rd_T38 l0 x6_1).f0.f0), .string ((rd_T38 l0 x6_1).f0.f1), .slice A467_2 ((rd_T38 l0 x6_1).f1).length c467_2, .slice none 0 0]) ?_ 3 _ rfl; (with_reducible repeat (first | refine blk_drewN ?_ _ | refine blk_drew ?_ | refine blk_alloc ?_ _)); refine blk_put (cs := #[.string ((rd_T38 l0 x6_1).f0.f0), .string ((rd_T38 l0 x6_1).f0.f1), .slice none 0 0, .slice none 0 0]) ?_ 2 _ rfl; (with_reducible repeat (first | refine blk_drewN ?_ _ | refine blk_drew ?_ | refine blk_alloc ?_ _)); refine blk_put (cs := #[.string ((rd_T38 l0 x6_1).f0.f0), .string x467001_1, .slice none 0 0, .slice none 0 0]) ?_ 1 _ rfl; (with_reducible repeat (first | refine blk_drewN ?_ _ | refine blk_drew ?_ | refine blk_alloc ?_ _)); refine blk_put (cs := #[.string x467000_1, .string x467001_1, .slice none 0 0, .slice none 0 0]) ?_ 0 _ rfl; (with_reducible repeat (first | refine blk_drewN ?_ _ | refine blk_drew ?_ | refine blk_alloc ?_ _)); exact BK466.out) Try.underlying38 rfl (by kernel_rfl)) rfl ?_
      exact ⟨_, _, by first | rfl | (simp [errW_none, errW_some] <;> rfl) | (simp [*, errW_none, errW_some] <;> rfl), by (with_reducible repeat (first | apply Kd.V_alloc | apply Kd.V_drewN | apply Kd.V_drew)); exact Kd.V_mono (Kd.V_far (p := ⟨gb466, 3, none⟩) (Kd.V_far (p := ⟨gb466, 2, none⟩) (Kd.V_far (p := ⟨gb466, 1, none⟩) (Kd.V_far (p := ⟨gb466, 0, none⟩) (Kd.V_mono HL468_2.out (fun k_ hk => (⟨hk, hk.2.2⟩ : _ ∧ k_ ≠ gb466))) (fun _ hk => hk.2) (.string ((rd_T38 l0 x6_1).f0.f0))) (fun _ hk => hk.2) (.string ((rd_T38 l0 x6_1).f0.f1))) (fun _ hk => hk.2) (.slice A467_2 ((rd_T38 l0 x6_1).f1).length c467_2)) (fun _ hk => hk.2) (.slice A467_3 ((rd_T38 l0 x6_1).f2).length c467_3)) (fun _ hk => hk.1.1), by (with_reducible repeat (first | apply Kd.V_alloc | apply Kd.V_drewN | apply Kd.V_drew)); exact Kd.V_mono (Kd.V_far (p := ⟨gb466, 3, none⟩) (Kd.V_far (p := ⟨gb466, 2, none⟩) (Kd.V_far (p := ⟨gb466, 1, none⟩) (Kd.V_far (p := ⟨gb466, 0, none⟩) (Kd.V_mono HL468_3.out (fun k_ hk => (⟨hk, hk.2.2⟩ : _ ∧ k_ ≠ gb466))) (fun _ hk => hk.2) (.string ((rd_T38 l0 x6_1).f0.f0))) (fun _ hk => hk.2) (.string ((rd_T38 l0 x6_1).f0.f1))) (fun _ hk => hk.2) (.slice A467_2 ((rd_T38 l0 x6_1).f1).length c467_2)) (fun _ hk => hk.2) (.slice A467_3 ((rd_T38 l0 x6_1).f2).length c467_3)) (fun _ hk => hk.1.1), bl2 HB GE465 GE466⟩
     ·
      rw [if_neg c7] at H
      have c7b0 : ((((rd_T38 l0 x6_1).f0.f0).toList) == a1_0.toList && ((((rd_T38 l0 x6_1).f0.f1).toList) == a1_1.toList)) = false := by simpa using c7
      (try (have c7b1 : decide ((((rd_T38 l0 x6_1).f0.f0).toList) = a1_0.toList && ((((rd_T38 l0 x6_1).f0.f1).toList) == a1_1.toList)) = false := by simpa using c7))
      (try (have c7b2 : ((((rd_T38 l0 x6_1).f0.f0).toList) == a1_0.toList && ((((rd_T38 l0 x6_1).f0.f1).toList) == a1_1.toList)) = false := by simpa using c7))
      (try (have c7b3 : ¬ ((((rd_T38 l0 x6_1).f0.f0).toList) = a1_0.toList && ((((rd_T38 l0 x6_1).f0.f1).toList) == a1_1.toList)) := by simpa using c7))
      clear c7
      have H' := aZ_ H
      clear H
      have p467 : 0 ≤ (x6_1 : Int) := of_decide_eq_true asm_
      have q467 : x6_1 < (l0.length : Int) := of_decide_eq_true asm_
      obtain ⟨ad467, A467_2, c467_2, A467_3, c467_3, e467, hx467_0, hx467_1, hx467_2, hx467_3, hl467_2, hi467_2, hl467_3, hi467_3⟩ := at_T38 (Kd.V_reads' HO_0.out).2.2 x6_1 p467 q467
      cases e467
      obtain ⟨ce467, hce467, hMe467, hcc467⟩ := Kd.V_get HO_0.out z38 x6_1 p467 (by first | exact q467 | exact of_decide_eq_true asm_ | (have e_ := (Kd.V_reads' HO_0.out).1; omega))
      obtain ⟨ua467_2, uc467_2, ua467_3, uc467_3, rfl, ul467_2, ge467_2, ul467_3, ge467_3⟩ := k38_openF hMe467
      have hv467_2 := hcc467 2 _ rfl
      rw [add_field _ _ 2 (by omega)] at hv467_2
      replace hv467_2 := Option.some.inj (hv467_2.symm.trans hx467_2)
      injection hv467_2 with hva_ hvn_ hvc_
      rw [hva_] at ge467_2
      rw [hvc_] at ul467_2
      have HL467_2 := aZ_ (show Kd.V k28 28 _ w.heap.size _ _ ((rd_T38 l0 x6_1).f1) from Kd.V_mk ul467_2 ge467_2)
      clear hva_ hvn_ hvc_ ge467_2 ul467_2
      have hv467_3 := hcc467 3 _ rfl
      rw [add_field _ _ 3 (by omega)] at hv467_3
      replace hv467_3 := Option.some.inj (hv467_3.symm.trans hx467_3)
      injection hv467_3 with hva_ hvn_ hvc_
      rw [hva_] at ge467_3
      rw [hvc_] at ul467_3
      have HL467_3 := aZ_ (show Kd.V k58 58 _ w.heap.size _ _ ((rd_T38 l0 x6_1).f2) from Kd.V_mk ul467_3 ge467_3)
      clear hva_ hvn_ hvc_ ge467_3 ul467_3
      clear hcc467 hce467
      have HR467_2 := aZ_ hi467_2
      have HC467_2 := aZ_ hl467_2
      clear hi467_2 hl467_2
      have HR467_3 := aZ_ hi467_3
      have HC467_3 := aZ_ hl467_3
      clear hi467_3 hl467_3
      replace p467 := eq_true p467
      replace q467 := eq_true q467
      have hnb11 := NB465_466.out
      have hnc11 := NB466_465.out
      obtain ⟨hcz12_0, hcz12_1, hfz12_0, hfz12_1⟩ := bc2 BK465
      go_wp2
      repeat (go_quiet (fail); try go_wp2)
      go_roundg k1
      case measure => have := HK1.out; omega
      case rel => exact ⟨(wrap64 (x6_1 + 1)), (x467000_1), (x467001_1), rf_, H', ⟨by have := HK1.out; omega⟩, ⟨kV HO_0⟩, ⟨bk BK465⟩, ⟨bk BK466⟩, ⟨bl2 HB GE465 GE466⟩⟩
    ·
     rw [if_neg c6] at H
     exact absurd H (by simp)
   ·
    rw [if_neg c5] at H
    have c5b0 : decide (x6_1 < (l0.length : Int)) = false := decide_eq_false c5
    clear c5
    simp only [Option.some.injEq, Prod.mk.injEq] at H
    obtain ⟨rfl, rfl, rfl, rfl, rfl⟩ := H
    have hnb13 := NB466_465.out
    have hnc13 := NB465_466.out
    obtain ⟨hcz14_0, hcz14_1, hcz14_2, hcz14_3, hfz14_0, hfz14_1, hfz14_2, hfz14_3⟩ := bc4 BK466
    go_wp2
    repeat (go_quiet (fail); try go_wp2)
    refine bodyPost_ret (results_ct rfl _ _ gb466 38 #[.string (⟨#[]⟩ : ByteArray), .string (⟨#[]⟩ : ByteArray), .slice none 0 0, .slice none 0 0] (0, 0) _ rfl (by (with_reducible repeat (first | refine blk_drewN ?_ _ | refine blk_drew ?_ | refine blk_alloc ?_ _)); refine blk_put (cs := #[.string (⟨#[]⟩ : ByteArray), .string (⟨#[]⟩ : ByteArray), .slice none 0 0, .slice none 0 0]) ?_ 3 _ rfl; (with_reducible repeat (first | refine blk_drewN ?_ _ | refine blk_drew ?_ | refine blk_alloc ?_ _)); refine blk_put (cs := #[.string (⟨#[]⟩ : ByteArray), .string (⟨#[]⟩ : ByteArray), .slice none 0 0, .slice none 0 0]) ?_ 2 _ rfl; (with_reducible repeat (first | refine blk_drewN ?_ _ | refine blk_drew ?_ | refine blk_alloc ?_ _)); refine blk_put (cs := #[.string (⟨#[]⟩ : ByteArray), .string x467001_1, .slice none 0 0, .slice none 0 0]) ?_ 1 _ rfl; (with_reducible repeat (first | refine blk_drewN ?_ _ | refine blk_drew ?_ | refine blk_alloc ?_ _)); refine blk_put (cs := #[.string x467000_1, .string x467001_1, .slice none 0 0, .slice none 0 0]) ?_ 0 _ rfl; (with_reducible repeat (first | refine blk_drewN ?_ _ | refine blk_drew ?_ | refine blk_alloc ?_ _)); exact BK466.out) Try.underlying38 rfl (by kernel_rfl)) rfl ?_
    exact ⟨_, _, by first | rfl | (simp [errW_none, errW_some] <;> rfl) | (simp [*, errW_none, errW_some] <;> rfl), (by first | exact Kd.V_nil _ _ _ _ _ | exact Kd.V_mono (Kd.R_V (by first | exact Kd.R_nil _ _ _ _ _ | exact Kd.N_nil _ _ _ _ _ | exact Kd.V_nil _ _ _ _ _ | exact Kd.Q_nil _ _ _ _ _ | exact Kd.S_nil _ _ _ _ _)) (fun k_ hk => by first | exact ⟨(.inr (hk.1)), hk.2⟩ | exact (.inr (hk)))), (by first | exact Kd.V_nil _ _ _ _ _ | exact Kd.V_mono (Kd.R_V (by first | exact Kd.R_nil _ _ _ _ _ | exact Kd.N_nil _ _ _ _ _ | exact Kd.V_nil _ _ _ _ _ | exact Kd.Q_nil _ _ _ _ _ | exact Kd.S_nil _ _ _ _ _)) (fun k_ hk => by first | exact ⟨(.inr (hk.1)), hk.2⟩ | exact (.inr (hk)))), bl2 HB GE465 GE466⟩

/-! ### chancelref9_has: function 48 -/
def chancelref9_has.l0 : Nat → List (S28) → Int → ByteArray → ByteArray → Option (Bool)
 | 0, _, _, _, _ => none
 | k + 1, x0, x5, x470000, x470001 => if x5 < (x0.length : Int) then (if 0 ≤ x5 then (if ((((rd_T28 x0 x5).f0).toList) == x470000.toList && ((((rd_T28 x0 x5).f1).toList) == x470001.toList)) = true then (some true) else (chancelref9_has.l0 k x0 (wrap64 (x5 + 1)) x470000 x470001)) else (none)) else (some false)
def chancelref9_has.f (k : Nat) (l0 : List (S28)) (a1_0 : ByteArray) (a1_1 : ByteArray) : Option (Bool) := chancelref9_has.l0 k l0 0 a1_0 a1_1
theorem chancelref9_has.mono_l : ∀ k, (∀ y0 y1 y2 y3, LeO (chancelref9_has.l0 k y0 y1 y2 y3) (chancelref9_has.l0 (k + 1) y0 y1 y2 y3))
 | 0 => fun _ _ _ _ r h => by simp [chancelref9_has.l0] at h
 | k + 1 => by
  have ih0 := chancelref9_has.mono_l k
  ·
   intro y0 y1 y2 y3
   unfold chancelref9_has.l0
   repeat' first
   | (with_reducible exact ih0 _ _ _ _)
   | (with_reducible exact LeO.refl _)
   | (with_reducible exact LeO.none _)
   | (with_reducible refine LeO.ite ?_ ?_)
   | (with_reducible refine LeO.bind ?_ (fun _ => ?_))
   | exact ih0 _ _ _ _
   | exact LeO.none _
   | refine LeO.ite ?_ ?_
   | refine LeO.bind ?_ (fun _ => ?_)
theorem chancelref9_has.mono : ∀ a0 a1 a2 k, LeO (chancelref9_has.f k a0 a1 a2) (chancelref9_has.f (k + 1) a0 a1 a2) := by
 intro a0 a1 a2 k
 have ih0 := chancelref9_has.mono_l k
 unfold chancelref9_has.f
 repeat' first
   | (with_reducible exact ih0 _ _ _ _)
   | (with_reducible exact LeO.refl _)
   | (with_reducible exact LeO.none _)
   | (with_reducible refine LeO.ite ?_ ?_)
   | (with_reducible refine LeO.bind ?_ (fun _ => ?_))
   | exact ih0 _ _ _ _
   | exact LeO.none _
   | refine LeO.ite ?_ ?_
   | refine LeO.bind ?_ (fun _ => ?_)
set_option maxHeartbeats 8000000 in
set_option maxRecDepth 100000 in
theorem chancelref9_has.calls (k : Nat) (A0 : Option Addr) (c0 : Nat) (l0 : List (S28)) (a1_0 : ByteArray) (a1_1 : ByteArray) (r : Bool) (w : World) (hr0 : Kd.C k28 w A0 l0.length l0) (hc0 : l0.length ≤ c0) (h : chancelref9_has.f k l0 a1_0 a1_1 = some r) :
  Calls Try.prog 48 #[.slice A0 l0.length c0, .agg #[.string a1_0, .string a1_1]] w fun e w' => e = .returned (.bool r) ∧ Below w.heap.size w w' := by
 have hu28 := Try.underlying28
 have HR0 := aZ_ hr0
 have HC0 := aZ_ hc0
 clear hr0 hc0
 have HB := aZ_ (Below.refl w.heap.size w)
 have H : (chancelref9_has.l0 k l0 0 a1_0 a1_1) = some r := h
 clear h
 have H' := aZ_ H
 clear H
 go_enter Try.func48, Try.ntmps48
 go_wp2_with (first | ((with_reducible refine gate_dst (N := 3) rfl ?_); refine bxE 3 #[.string a1_0, .string a1_1] 28 ?_; intro gb469 hg w3 hbox hb; have BK469 := aZ_ (hbox); have GW469 := aZ_ ((by rw [hg]; exact (below_size (bl HB)) : w.heap.size ≤ gb469)); have GE469 := aZ_ ((by rw [hg]; exact (below_size (bl HB)) : w.heap.size ≤ gb469)); replace HB := aZ_ (below_step (bl HB) hb); clear hb hbox hg))
 repeat (go_quiet (first | ((with_reducible refine gate_dst (N := 3) rfl ?_); refine bxE 3 #[.string a1_0, .string a1_1] 28 ?_; intro gb469 hg w3 hbox hb; have BK469 := aZ_ (hbox); have GW469 := aZ_ ((by rw [hg]; exact (below_size (bl HB)) : w.heap.size ≤ gb469)); have GE469 := aZ_ ((by rw [hg]; exact (below_size (bl HB)) : w.heap.size ≤ gb469)); replace HB := aZ_ (below_step (bl HB) hb); clear hb hbox hg)); try go_wp2_with (first | ((with_reducible refine gate_dst (N := 3) rfl ?_); refine bxE 3 #[.string a1_0, .string a1_1] 28 ?_; intro gb469 hg w3 hbox hb; have BK469 := aZ_ (hbox); have GW469 := aZ_ ((by rw [hg]; exact (below_size (bl HB)) : w.heap.size ≤ gb469)); have GE469 := aZ_ ((by rw [hg]; exact (below_size (bl HB)) : w.heap.size ≤ gb469)); replace HB := aZ_ (below_step (bl HB) hb); clear hb hbox hg)))
 go_loopg [5] k (fun kq v5 w' => ∃ (x5_1 : Int), v5 = .int .i64 x5_1 ∧ Aside0 (chancelref9_has.l0 kq l0 x5_1 a1_0 a1_1 = some r) ∧ Aside0 (kq ≤ k) ∧ Aside0 (w'.heap[gb469]? = some (.cells #[.string a1_0, .string a1_1] 28 (0, 0))) ∧ Aside0 (Below w.heap.size w w'))
 case atStart => exact ⟨(0), rf_, H', ⟨Nat.le_refl _⟩, ⟨bk BK469⟩, ⟨bl1 HB GE469⟩⟩
 case round =>
  clear H'
  try clear p2
  obtain ⟨x5_1, rfl, HA, HK1, BK469, HB⟩ := hrel
  cases gk with
  | zero => exact absurd HA.out (by simp [chancelref9_has.l0])
  | succ k1 =>
   have H := HA.out
   clear HA
   simp only [chancelref9_has.l0] at H
   by_cases c4 : x5_1 < (l0.length : Int)
   ·
    rw [if_pos c4] at H
    have c4b0 : decide (x5_1 < (l0.length : Int)) = true := decide_eq_true c4
    clear c4
    by_cases c5 : 0 ≤ x5_1
    ·
     rw [if_pos c5] at H
     have c5b0 : decide (0 ≤ x5_1) = true := decide_eq_true c5
     clear c5
     by_cases c6 : ((((rd_T28 l0 x5_1).f0).toList) == a1_0.toList && ((((rd_T28 l0 x5_1).f1).toList) == a1_1.toList)) = true
     ·
      rw [if_pos c6] at H
      have c6b0 : ((((rd_T28 l0 x5_1).f0).toList) == a1_0.toList && ((((rd_T28 l0 x5_1).f1).toList) == a1_1.toList)) = true := c6
      (try (have c6b1 : decide ((((rd_T28 l0 x5_1).f0).toList) = a1_0.toList && ((((rd_T28 l0 x5_1).f1).toList) == a1_1.toList)) = true := by simpa using c6))
      (try (have c6b2 : ((((rd_T28 l0 x5_1).f0).toList) == a1_0.toList && ((((rd_T28 l0 x5_1).f1).toList) == a1_1.toList)) = true := by simpa using c6))
      clear c6
      obtain rfl := Option.some.inj H
      have p470 : 0 ≤ (x5_1 : Int) := of_decide_eq_true asm_
      have q470 : x5_1 < (l0.length : Int) := of_decide_eq_true asm_
      obtain ⟨ad470, e470, hx470_0, hx470_1⟩ := at_T28 HR0.out x5_1 p470 q470
      cases e470
      replace hx470_0 := (hbc HB.out hx470_0 :)
      replace hx470_1 := (hbc HB.out hx470_1 :)
      replace p470 := eq_true p470
      replace q470 := eq_true q470
      obtain ⟨hcz7_0, hcz7_1, hfz7_0, hfz7_1⟩ := bc2 BK469
      go_wp2
      repeat (go_quiet (fail); try go_wp2)
      go_ret
      exact ⟨by first | rfl | (simp [errW_none, errW_some] <;> rfl) | (simp [*, errW_none, errW_some] <;> rfl), bl1 HB GE469⟩
     ·
      rw [if_neg c6] at H
      have c6b0 : ((((rd_T28 l0 x5_1).f0).toList) == a1_0.toList && ((((rd_T28 l0 x5_1).f1).toList) == a1_1.toList)) = false := by simpa using c6
      (try (have c6b1 : decide ((((rd_T28 l0 x5_1).f0).toList) = a1_0.toList && ((((rd_T28 l0 x5_1).f1).toList) == a1_1.toList)) = false := by simpa using c6))
      (try (have c6b2 : ((((rd_T28 l0 x5_1).f0).toList) == a1_0.toList && ((((rd_T28 l0 x5_1).f1).toList) == a1_1.toList)) = false := by simpa using c6))
      (try (have c6b3 : ¬ ((((rd_T28 l0 x5_1).f0).toList) = a1_0.toList && ((((rd_T28 l0 x5_1).f1).toList) == a1_1.toList)) := by simpa using c6))
      clear c6
      have H' := aZ_ H
      clear H
      have p470 : 0 ≤ (x5_1 : Int) := of_decide_eq_true asm_
      have q470 : x5_1 < (l0.length : Int) := of_decide_eq_true asm_
      obtain ⟨ad470, e470, hx470_0, hx470_1⟩ := at_T28 HR0.out x5_1 p470 q470
      cases e470
      replace hx470_0 := (hbc HB.out hx470_0 :)
      replace hx470_1 := (hbc HB.out hx470_1 :)
      replace p470 := eq_true p470
      replace q470 := eq_true q470
      obtain ⟨hcz8_0, hcz8_1, hfz8_0, hfz8_1⟩ := bc2 BK469
      go_wp2
      repeat (go_quiet (fail); try go_wp2)
      go_roundg k1
      case measure => have := HK1.out; omega
      case rel => exact ⟨(wrap64 (x5_1 + 1)), rf_, H', ⟨by have := HK1.out; omega⟩, ⟨bk BK469⟩, ⟨bl1 HB GE469⟩⟩
    ·
     rw [if_neg c5] at H
     exact absurd H (by simp)
   ·
    rw [if_neg c4] at H
    have c4b0 : decide (x5_1 < (l0.length : Int)) = false := decide_eq_false c4
    clear c4
    obtain rfl := Option.some.inj H
    go_wp2
    repeat (go_quiet (fail); try go_wp2)
    go_ret
    exact ⟨by first | rfl | (simp [errW_none, errW_some] <;> rfl) | (simp [*, errW_none, errW_some] <;> rfl), bl1 HB GE469⟩

end Go.Proofs.Ytelibndkkokadaa.GB
