-- Written by wip/tools/gprint.py over the kit's printer.
import Derived.Test.YtfmghijmcgkpiaaGO0
import Derived.Test.YtfmghijmcgkpiaaGO4
import Derived.Test.YtfmghijmcgkpiaaGO6
import Derived.Test.YtfmghijmcgkpiaaSqz
namespace Go.Proofs.Ytfmghijmcgkpiaa.GO
open Go.RowKit Go.Proofs.YtfmghijmcgkpiaaW.PrintWords Go.Proofs.YtfmghijmcgkpiaaW.PrintLast Go.Proofs.Ytfmghijmcgkpiaa.HandV Go.Proofs.YtfmghijmcgkpiaaW.PrintMore
attribute [local go_sem] max2_int min2_int max_two min_two max_three min_three max_four min_four   -- for this text's walks alone
set_option linter.unusedVariables false
set_option linter.unusedSimpArgs false

/-! ### chancelref3_Set: function 74 -/
mutual
def chancelref3_Set.l0 : Nat → List (S31) → Int → Option (Int × Bool × Int × ByteArray × ByteArray × ByteArray × (List (S31)) × Int)
 | 0, _, _ => none
 | k + 1, x0, x4 => if x4 < (x0.length : Int) then (if 0 ≤ x4 then (if ((rd_T31 x0 x4).f0) = 5 then (some (0, false, 0, (⟨#[]⟩ : ByteArray), (⟨#[]⟩ : ByteArray), (⟨#[]⟩ : ByteArray), ([] : List (S31)), 16)) else (if 0 < (x0.length : Int) then (if ((rd_T31 x0 x4).f0) = ((rd_T31 x0 0).f0) then (chancelref3_Set.l0 k x0 (wrap64 (x4 + 1))) else (some (0, false, 0, (⟨#[]⟩ : ByteArray), (⟨#[]⟩ : ByteArray), (⟨#[]⟩ : ByteArray), ([] : List (S31)), 16))) else (none))) else (none)) else (chancelref3_Set.l1 k x0 ([] : List (S31)) 0)
def chancelref3_Set.l1 : Nat → List (S31) → List (S31) → Int → Option (Int × Bool × Int × ByteArray × ByteArray × ByteArray × (List (S31)) × Int)
 | 0, _, _, _ => none
 | k + 1, x0, x5, x6 => if x6 < (x0.length : Int) then (chancelref3_Set.l2 k x0 x5 x6 0) else (if (x5.length : Int) > 8 then (some (0, false, 0, (⟨#[]⟩ : ByteArray), (⟨#[]⟩ : ByteArray), (⟨#[]⟩ : ByteArray), ([] : List (S31)), 4)) else (some (5, false, 0, (⟨#[]⟩ : ByteArray), (⟨#[]⟩ : ByteArray), (⟨#[]⟩ : ByteArray), x5, 0)))
def chancelref3_Set.l2 : Nat → List (S31) → List (S31) → Int → Int → Option (Int × Bool × Int × ByteArray × ByteArray × ByteArray × (List (S31)) × Int)
 | 0, _, _, _, _ => none
 | k + 1, x0, x5, x6, x7 => if x7 < (x5.length : Int) then (if 0 ≤ x7 then (if 0 ≤ x6 then (if x6 < (x0.length : Int) then ((chancelref3_Less.f k ((rd_T31 x5 x7).f0) ((rd_T31 x5 x7).f1) ((rd_T31 x5 x7).f2) ((rd_T31 x5 x7).f3) ((rd_T31 x5 x7).f4.f0) ((rd_T31 x5 x7).f4.f1) ((rd_T31 x5 x7).f5) ((rd_T31 x0 x6).f0) ((rd_T31 x0 x6).f1) ((rd_T31 x0 x6).f2) ((rd_T31 x0 x6).f3) ((rd_T31 x0 x6).f4.f0) ((rd_T31 x0 x6).f4.f1) ((rd_T31 x0 x6).f5)).bind fun t183 => (if t183 = true then (chancelref3_Set.l2 k x0 x5 x6 (wrap64 (x7 + 1))) else ((chancelref3_Same.f k ((rd_T31 x5 x7).f0) ((rd_T31 x5 x7).f1) ((rd_T31 x5 x7).f2) ((rd_T31 x5 x7).f3) ((rd_T31 x5 x7).f4.f0) ((rd_T31 x5 x7).f4.f1) ((rd_T31 x5 x7).f5) ((rd_T31 x0 x6).f0) ((rd_T31 x0 x6).f1) ((rd_T31 x0 x6).f2) ((rd_T31 x0 x6).f3) ((rd_T31 x0 x6).f4.f0) ((rd_T31 x0 x6).f4.f1) ((rd_T31 x0 x6).f5)).bind fun t186 => (if t186 = true then (chancelref3_Set.l1 k x0 x5 (wrap64 (x6 + 1))) else (if x7 ≤ (x5.length : Int) then ((some (x5.take (x7 : Int).toNat : List (S31))).bind fun y187 => (if ([] : List (S31)).length + y187.length < 1466015503701 then ((some (([] : List (S31)) ++ y187 : List (S31))).bind fun y192 => (if y192.length < 1466015503701 then ((some (y192 ++ [(⟨(rd_T31 x0 x6).f0, (rd_T31 x0 x6).f1, (rd_T31 x0 x6).f2, (rd_T31 x0 x6).f3, (⟨(rd_T31 x0 x6).f4.f0, (rd_T31 x0 x6).f4.f1⟩ : S28), (rd_T31 x0 x6).f5⟩ : S31)] : List (S31))).bind fun y196 => ((some (x5.drop (x7 : Int).toNat : List (S31))).bind fun y199 => (if y196.length + y199.length < 1466015503701 then (chancelref3_Set.l1 k x0 (y196 ++ y199) (wrap64 (x6 + 1))) else (none)))) else (none))) else (none))) else (none)))))) else (none)) else (none)) else (none)) else (if 0 ≤ x7 then (if x7 ≤ (x5.length : Int) then ((some (x5.take (x7 : Int).toNat : List (S31))).bind fun y207 => (if ([] : List (S31)).length + y207.length < 1466015503701 then ((some (([] : List (S31)) ++ y207 : List (S31))).bind fun y212 => (if 0 ≤ x6 then (if x6 < (x0.length : Int) then (if y212.length < 1466015503701 then ((some (y212 ++ [(⟨(rd_T31 x0 x6).f0, (rd_T31 x0 x6).f1, (rd_T31 x0 x6).f2, (rd_T31 x0 x6).f3, (⟨(rd_T31 x0 x6).f4.f0, (rd_T31 x0 x6).f4.f1⟩ : S28), (rd_T31 x0 x6).f5⟩ : S31)] : List (S31))).bind fun y216 => ((some (x5.drop (x7 : Int).toNat : List (S31))).bind fun y219 => (if y216.length + y219.length < 1466015503701 then (chancelref3_Set.l1 k x0 (y216 ++ y219) (wrap64 (x6 + 1))) else (none)))) else (none)) else (none)) else (none))) else (none))) else (none)) else (none))
end
def chancelref3_Set.f (k : Nat) (l0 : List (S31)) : Option (Int × Bool × Int × ByteArray × ByteArray × ByteArray × (List (S31)) × Int) := chancelref3_Set.l0 k l0 0
theorem chancelref3_Set.mono_l : ∀ k, (∀ y0 y1, LeO (chancelref3_Set.l0 k y0 y1) (chancelref3_Set.l0 (k + 1) y0 y1)) ∧ (∀ y0 y1 y2, LeO (chancelref3_Set.l1 k y0 y1 y2) (chancelref3_Set.l1 (k + 1) y0 y1 y2)) ∧ (∀ y0 y1 y2 y3, LeO (chancelref3_Set.l2 k y0 y1 y2 y3) (chancelref3_Set.l2 (k + 1) y0 y1 y2 y3))
 | 0 => ⟨fun _ _ r h => by simp [chancelref3_Set.l0] at h, fun _ _ _ r h => by simp [chancelref3_Set.l1] at h, fun _ _ _ _ r h => by simp [chancelref3_Set.l2] at h⟩
 | k + 1 => by
  obtain ⟨ih0, ih1, ih2⟩ := chancelref3_Set.mono_l k
  refine ⟨?_, ?_, ?_⟩
  ·
   intro y0 y1
   unfold chancelref3_Set.l0
   repeat' first
   | (with_reducible exact ih0 _ _)
   | (with_reducible exact ih1 _ _ _)
   | (with_reducible exact ih2 _ _ _ _)
   | (with_reducible exact chancelref3_Less.mono _ _ _ _ _ _ _ _ _ _ _ _ _ _ _)
   | (with_reducible exact chancelref3_Same.mono _ _ _ _ _ _ _ _ _ _ _ _ _ _ _)
   | (with_reducible exact LeO.refl _)
   | (with_reducible exact LeO.none _)
   | (with_reducible refine LeO.ite ?_ ?_)
   | (with_reducible refine LeO.bind ?_ (fun _ => ?_))
   | exact ih0 _ _
   | exact ih1 _ _ _
   | exact ih2 _ _ _ _
   | exact chancelref3_Less.mono _ _ _ _ _ _ _ _ _ _ _ _ _ _ _
   | exact chancelref3_Same.mono _ _ _ _ _ _ _ _ _ _ _ _ _ _ _
   | exact LeO.none _
   | refine LeO.ite ?_ ?_
   | refine LeO.bind ?_ (fun _ => ?_)
  ·
   intro y0 y1 y2
   unfold chancelref3_Set.l1
   repeat' first
   | (with_reducible exact ih0 _ _)
   | (with_reducible exact ih1 _ _ _)
   | (with_reducible exact ih2 _ _ _ _)
   | (with_reducible exact chancelref3_Less.mono _ _ _ _ _ _ _ _ _ _ _ _ _ _ _)
   | (with_reducible exact chancelref3_Same.mono _ _ _ _ _ _ _ _ _ _ _ _ _ _ _)
   | (with_reducible exact LeO.refl _)
   | (with_reducible exact LeO.none _)
   | (with_reducible refine LeO.ite ?_ ?_)
   | (with_reducible refine LeO.bind ?_ (fun _ => ?_))
   | exact ih0 _ _
   | exact ih1 _ _ _
   | exact ih2 _ _ _ _
   | exact chancelref3_Less.mono _ _ _ _ _ _ _ _ _ _ _ _ _ _ _
   | exact chancelref3_Same.mono _ _ _ _ _ _ _ _ _ _ _ _ _ _ _
   | exact LeO.none _
   | refine LeO.ite ?_ ?_
   | refine LeO.bind ?_ (fun _ => ?_)
  ·
   intro y0 y1 y2 y3
   unfold chancelref3_Set.l2
   repeat' first
   | (with_reducible exact ih0 _ _)
   | (with_reducible exact ih1 _ _ _)
   | (with_reducible exact ih2 _ _ _ _)
   | (with_reducible exact chancelref3_Less.mono _ _ _ _ _ _ _ _ _ _ _ _ _ _ _)
   | (with_reducible exact chancelref3_Same.mono _ _ _ _ _ _ _ _ _ _ _ _ _ _ _)
   | (with_reducible exact LeO.refl _)
   | (with_reducible exact LeO.none _)
   | (with_reducible refine LeO.ite ?_ ?_)
   | (with_reducible refine LeO.bind ?_ (fun _ => ?_))
   | exact ih0 _ _
   | exact ih1 _ _ _
   | exact ih2 _ _ _ _
   | exact chancelref3_Less.mono _ _ _ _ _ _ _ _ _ _ _ _ _ _ _
   | exact chancelref3_Same.mono _ _ _ _ _ _ _ _ _ _ _ _ _ _ _
   | exact LeO.none _
   | refine LeO.ite ?_ ?_
   | refine LeO.bind ?_ (fun _ => ?_)
theorem chancelref3_Set.mono : ∀ a0 k, LeO (chancelref3_Set.f k a0) (chancelref3_Set.f (k + 1) a0) := by
 intro a0 k
 obtain ⟨ih0, ih1, ih2⟩ := chancelref3_Set.mono_l k
 unfold chancelref3_Set.f
 repeat' first
   | (with_reducible exact ih0 _ _)
   | (with_reducible exact ih1 _ _ _)
   | (with_reducible exact ih2 _ _ _ _)
   | (with_reducible exact chancelref3_Less.mono _ _ _ _ _ _ _ _ _ _ _ _ _ _ _)
   | (with_reducible exact chancelref3_Same.mono _ _ _ _ _ _ _ _ _ _ _ _ _ _ _)
   | (with_reducible exact LeO.refl _)
   | (with_reducible exact LeO.none _)
   | (with_reducible refine LeO.ite ?_ ?_)
   | (with_reducible refine LeO.bind ?_ (fun _ => ?_))
   | exact ih0 _ _
   | exact ih1 _ _ _
   | exact ih2 _ _ _ _
   | exact chancelref3_Less.mono _ _ _ _ _ _ _ _ _ _ _ _ _ _ _
   | exact chancelref3_Same.mono _ _ _ _ _ _ _ _ _ _ _ _ _ _ _
   | exact LeO.none _
   | refine LeO.ite ?_ ?_
   | refine LeO.bind ?_ (fun _ => ?_)
def chancelref3_Set.T4 : Bool × List (List Nat × List Nat) := (true, [([], []), ([], []), ([0, 1], [0, 1]), ([2], [2]), ([3], [3]), ([4], [4]), ([5], [5]), ([6], [6]), ([6], [6]), ([7, 8, 6], [6, 7, 8]), ([9, 6], [6, 9]), ([10, 6], [6, 10]), ([6], [6]), ([12, 6], [6, 12]), ([13, 6], [6, 13]), ([14, 6], [6, 14]), ([11, 15, 6], [6, 11, 15]), ([6, 16], [6, 16])])
def chancelref3_Set.B4 : List Nat := [0, 0, 3, 7, 15, 31, 63, 127, 127, 511, 1023, 2047, 127, 4223, 12415, 28799, 65535, 131071]
theorem chancelref3_Set.tab4 : rtab .any (opsOf Try.f74 4) = chancelref3_Set.T4 := by kernel_rfl
theorem chancelref3_Set.bits4 : waitsOk chancelref3_Set.T4.2 chancelref3_Set.B4 = true := by kernel_rfl
def chancelref3_Set.T11 : Bool × List (List Nat × List Nat) := (true, [([], []), ([], []), ([1], [1]), ([0, 2], [0, 2]), ([3], [3]), ([4], [4]), ([4], [4]), ([5, 6, 4], [4, 5, 6]), ([7, 4], [4, 7]), ([4], [4]), ([4], [4]), ([9, 10, 4], [4, 9, 10]), ([11, 4], [4, 11]), ([8, 12, 4, 4], [4, 8, 12]), ([4, 13], [4, 13])])
def chancelref3_Set.B11 : List Nat := [0, 0, 2, 7, 15, 31, 31, 127, 255, 31, 31, 1567, 3615, 8191, 16383]
theorem chancelref3_Set.tab11 : rtab .any (opsOf Try.f74 11) = chancelref3_Set.T11 := by kernel_rfl
theorem chancelref3_Set.bits11 : waitsOk chancelref3_Set.T11.2 chancelref3_Set.B11 = true := by kernel_rfl
def chancelref3_Set.T13 : Bool × List (List Nat × List Nat) := (true, [([], []), ([], []), ([1], [1]), ([0, 2], [0, 2]), ([3], [3]), ([4], [4]), ([4], [4]), ([5, 6, 4], [4, 5, 6]), ([7, 4], [4, 7]), ([4], [4]), ([4], [4]), ([9, 10, 4], [4, 9, 10]), ([11, 4], [4, 11]), ([8, 12, 4, 4], [4, 8, 12]), ([4, 13], [4, 13])])
def chancelref3_Set.B13 : List Nat := [0, 0, 2, 7, 15, 31, 31, 127, 255, 31, 31, 1567, 3615, 8191, 16383]
theorem chancelref3_Set.tab13 : rtab .any (opsOf Try.f74 13) = chancelref3_Set.T13 := by kernel_rfl
theorem chancelref3_Set.bits13 : waitsOk chancelref3_Set.T13.2 chancelref3_Set.B13 = true := by kernel_rfl
set_option maxHeartbeats 8000000 in
set_option maxRecDepth 100000 in
theorem chancelref3_Set.calls (k : Nat) (P0_ : Nat → Prop) (A0 : Option Addr) (c0 : Nat) (l0 : List (S31)) (r1 : Int) (r2 : Bool) (r3 : Int) (r4 : ByteArray) (r5 : ByteArray) (r6 : ByteArray) (r7 : List (S31)) (r8 : Int) (w : World) (hs0 : Kd.V k31 31 w w.heap.size (fun k_ => P0_ k_) (.slice A0 l0.length c0) l0) (h : chancelref3_Set.f k l0 = some (r1, r2, r3, r4, r5, r6, r7, r8)) :
  Calls Try.prog 74 #[.slice A0 l0.length c0] w fun e w' => ∃ v6_ : Value, e = .returned (.tuple #[.agg #[.int .i64 r1, .bool r2, .int .i64 r3, .string r4, .string r5, .string r6, v6_], .int .i64 r8]) ∧ Kd.N k31 31 w' w.heap.size (fun k_ => (P0_ k_ ∨ w.heap.size ≤ k_)) v6_ r7 ∧ Below w.heap.size w w' := by
 have hu31 := Try.underlying31
 have HO0 := aZ_ (show Kd.V k31 31 w w.heap.size (fun k_ => (P0_ k_ ∨ w.heap.size ≤ k_)) (.slice A0 l0.length c0) l0 from Kd.V_mono hs0 (fun k_ hk => .inl hk))
 have HB := aZ_ (Below.refl w.heap.size w)
 have H : (chancelref3_Set.l0 k l0 0) = some (r1, r2, r3, r4, r5, r6, r7, r8) := h
 clear h
 have H' := aZ_ H
 clear H
 go_enter Try.func74, Try.ntmps74
 go_wp2_with (first | ((with_reducible refine gate_dst (N := 2) rfl ?_); refine bxE 2 #[.int .i64 0, .bool false, .int .i64 0, .string (⟨#[]⟩ : ByteArray), .string (⟨#[]⟩ : ByteArray), .string (⟨#[]⟩ : ByteArray), .slice none 0 0] 31 ?_; intro gb177 hg w2 hbox hb; replace HO0 := aZ_ (Kd.V_below (Kd.V_elderB (kV HO0) gb177 (Nat.le_of_eq hg.symm)) hb); have BK177 := aZ_ (hbox); have GW177 := aZ_ ((by rw [hg]; exact (below_size (bl HB)) : w.heap.size ≤ gb177)); have GE177 := aZ_ ((by rw [hg]; exact (below_size (bl HB)) : w.heap.size ≤ gb177)); replace HB := aZ_ (below_step (bl HB) hb); clear hb hbox hg))
 go_loopg [4] k (fun kq v4 w' => ∃ (x4_1 : Int) (x178000_1 : Int) (x178001_1 : Bool) (x178002_1 : Int) (x178003_1 : ByteArray) (x178004_1 : ByteArray) (x178005_1 : ByteArray), v4 = .int .i64 x4_1 ∧ Aside0 (chancelref3_Set.l0 kq l0 x4_1 = some (r1, r2, r3, r4, r5, r6, r7, r8)) ∧ Aside0 (kq ≤ k) ∧ Aside0 (Kd.V k31 31 w' w.heap.size (fun k_ => (P0_ k_ ∨ w.heap.size ≤ k_) ∧ k_ ≠ gb177) (.slice A0 l0.length c0) l0) ∧ Aside0 (w'.heap[gb177]? = some (.cells #[.int .i64 x178000_1, .bool x178001_1, .int .i64 x178002_1, .string x178003_1, .string x178004_1, .string x178005_1, (.slice none 0 0)] 31 (0, 0))) ∧ Aside0 (Below w.heap.size w w'))
 case atStart => exact ⟨(0), (0), (false), (0), ((⟨#[]⟩ : ByteArray)), ((⟨#[]⟩ : ByteArray)), ((⟨#[]⟩ : ByteArray)), rf_, H', ⟨Nat.le_refl _⟩, ⟨kV HO0⟩, ⟨bk BK177⟩, ⟨bl1 HB GE177⟩⟩
 case round =>
  clear H'
  try clear p2
  obtain ⟨x4_1, x178000_1, x178001_1, x178002_1, x178003_1, x178004_1, x178005_1, rfl, HA, HK1, HO_0, BK177, HB⟩ := hrel
  cases gk with
  | zero => exact absurd HA.out (by simp [chancelref3_Set.l0])
  | succ k1 =>
   have H := HA.out
   clear HA
   simp only [chancelref3_Set.l0] at H
   by_cases c3 : x4_1 < (l0.length : Int)
   ·
    rw [if_pos c3] at H
    have c3b0 : decide (x4_1 < (l0.length : Int)) = true := decide_eq_true c3
    clear c3
    by_cases c4 : 0 ≤ x4_1
    ·
     rw [if_pos c4] at H
     have c4b0 : decide (0 ≤ x4_1) = true := decide_eq_true c4
     clear c4
     by_cases c5 : ((rd_T31 l0 x4_1).f0) = 5
     ·
      rw [if_pos c5] at H
      have c5b0 : (((rd_T31 l0 x4_1).f0) == 5) = true := beq_iff_eq.mpr c5
      have c5b1 : (((rd_T31 l0 x4_1).f0) != 5) = false := bne_eq_false_iff_eq.mpr c5
      clear c5
      simp only [Option.some.injEq, Prod.mk.injEq] at H
      obtain ⟨rfl, rfl, rfl, rfl, rfl, rfl, rfl, rfl⟩ := H
      try go_wp2
      replace HO_0 := aZ_ (Kd.V_drew HO_0.out)
      replace BK177 := aZ_ (blk_drew BK177.out)
      replace HB := aZ_ (below_drew1 HB.out)
      have p178 : 0 ≤ (x4_1 : Int) := of_decide_eq_true asm_
      have q178 : x4_1 < (l0.length : Int) := of_decide_eq_true asm_
      obtain ⟨ad178, A178_6, c178_6, e178, hx178_0, hx178_1, hx178_2, hx178_3, hx178_4, hx178_5, hx178_6, hl178_6, hi178_6⟩ := at_T31 (Kd.V_reads' HO_0.out).2.2 x4_1 p178 q178
      cases e178
      obtain ⟨ce178, hce178, hMe178, hcc178⟩ := Kd.V_get HO_0.out z31 x4_1 p178 (by first | exact q178 | exact of_decide_eq_true asm_ | (have e_ := (Kd.V_reads' HO_0.out).1; omega))
      obtain ⟨ua178_6, uc178_6, rfl, ul178_6, ge178_6⟩ := k31_openF hMe178
      have hv178_6 := hcc178 6 _ rfl
      rw [add_field _ _ 6 (by omega)] at hv178_6
      replace hv178_6 := Option.some.inj (hv178_6.symm.trans hx178_6)
      injection hv178_6 with hva_ hvn_ hvc_
      rw [hva_] at ge178_6
      rw [hvc_] at ul178_6
      have HL178_6 := aZ_ (show Kd.V k31 31 _ w.heap.size _ _ ((rd_T31 l0 x4_1).f5) from Kd.V_mk ul178_6 ge178_6)
      clear hva_ hvn_ hvc_ ge178_6 ul178_6
      clear hcc178 hce178
      have HR178_6 := aZ_ hi178_6
      have HC178_6 := aZ_ hl178_6
      clear hi178_6 hl178_6
      replace p178 := eq_true p178
      replace q178 := eq_true q178
      refine start_ (n := 18) (S := fun w' => w'.cell? (ad178.add ((x4_1).toNat * 7)) = some (.int .i64 ((rd_T31 l0 x4_1).f0)) ∧ w'.cell? ⟨(ad178.add ((x4_1).toNat * 7)).block, (ad178.add ((x4_1).toNat * 7)).off + 1, none⟩ = some (.bool ((rd_T31 l0 x4_1).f1)) ∧ w'.cell? ⟨(ad178.add ((x4_1).toNat * 7)).block, (ad178.add ((x4_1).toNat * 7)).off + 2, none⟩ = some (.int .i64 ((rd_T31 l0 x4_1).f2)) ∧ w'.cell? ⟨(ad178.add ((x4_1).toNat * 7)).block, (ad178.add ((x4_1).toNat * 7)).off + 3, none⟩ = some (.string ((rd_T31 l0 x4_1).f3)) ∧ w'.cell? ⟨(ad178.add ((x4_1).toNat * 7)).block, (ad178.add ((x4_1).toNat * 7)).off + 4, none⟩ = some (.string ((rd_T31 l0 x4_1).f4.f0)) ∧ w'.cell? ⟨(ad178.add ((x4_1).toNat * 7)).block, (ad178.add ((x4_1).toNat * 7)).off + 5, none⟩ = some (.string ((rd_T31 l0 x4_1).f4.f1)) ∧ w'.cell? ⟨(ad178.add ((x4_1).toNat * 7)).block, (ad178.add ((x4_1).toNat * 7)).off + 6, none⟩ = some (.slice A178_6 ((rd_T31 l0 x4_1).f5).length c178_6)) (ds := []) #[false, false, false, false, false, false, false, false, false, false, false, false, false, false, false, false, false, false] (by kernel_rfl) rfl rfl ⟨hx178_0, hx178_1, hx178_2, hx178_3, hx178_4, hx178_5, hx178_6⟩ (fun hHeld => ?_); refine with_tabW chancelref3_Set.tab4 chancelref3_Set.bits4 (fun HT_ HW_ => ?_)
      generalize wr.drew = w6 at HO_0 BK177 HB HL178_6 HR178_6 hx178_0 hx178_1 hx178_2 hx178_3 hx178_4 hx178_5 hx178_6 hHeld ⊢
      refine pS_ 0 15 (fa 18 1) HT_ ?_
      refine pS_ 1 16 (fa 18 3) HT_ ?_
      refine pS_ 2 17 (fa 18 7) HT_ ?_
      refine pS_ 3 18 (fa 18 15) HT_ ?_
      refine tS_ 4 19 (fa 18 31) HT_ HW_ hHeld ?_
      refine pS_ 5 20 (fa 18 63) HT_ ?_
      refine pS_ 6 21 (fa 18 127) HT_ ?_
      refine pU_ 7 22 (fa 18 255) HT_ ?_
      refine pU_ 8 23 (fa 18 511) HT_ ?_
      refine pU_ 9 24 (fa 18 1023) HT_ ?_
      refine pU_ 10 25 (fa 18 2047) HT_ ?_
      refine pU_ 11 26 (fa 18 4095) HT_ ?_
      refine pU_ 12 27 (fa 18 8191) HT_ ?_
      refine pU_ 13 28 (fa 18 16383) HT_ ?_
      refine pU_ 14 29 (fa 18 32767) HT_ ?_
      refine pU_ 15 30 (fa 18 65535) HT_ ?_
      refine pU_ 16 31 (fa 18 131071) HT_ ?_
      refine pS_ 17 32 (fa 18 262143) HT_ ?_
      refine done_ (done_of HT_.out (by kernel_rfl)) ?_
      obtain ⟨hcz7_0, hcz7_1, hcz7_2, hcz7_3, hcz7_4, hcz7_5, hcz7_6, hfz7_0, hfz7_1, hfz7_2, hfz7_3, hfz7_4, hfz7_5, hfz7_6⟩ := bc7 BK177
      try go_wp2
      refine bodyPost_ret (results_ct rfl _ _ gb177 31 #[.int .i64 0, .bool false, .int .i64 0, .string (⟨#[]⟩ : ByteArray), .string (⟨#[]⟩ : ByteArray), .string (⟨#[]⟩ : ByteArray), .slice none 0 0] (0, 0) _ rfl (by (with_reducible repeat (first | refine blk_drewN ?_ _ | refine blk_drew ?_ | refine blk_alloc ?_ _)); refine blk_put (cs := #[.int .i64 0, .bool false, .int .i64 0, .string (⟨#[]⟩ : ByteArray), .string (⟨#[]⟩ : ByteArray), .string (⟨#[]⟩ : ByteArray), .slice none 0 0]) ?_ 6 _ rfl; (with_reducible repeat (first | refine blk_drewN ?_ _ | refine blk_drew ?_ | refine blk_alloc ?_ _)); refine blk_put (cs := #[.int .i64 0, .bool false, .int .i64 0, .string (⟨#[]⟩ : ByteArray), .string (⟨#[]⟩ : ByteArray), .string x178005_1, .slice none 0 0]) ?_ 5 _ rfl; (with_reducible repeat (first | refine blk_drewN ?_ _ | refine blk_drew ?_ | refine blk_alloc ?_ _)); refine blk_put (cs := #[.int .i64 0, .bool false, .int .i64 0, .string (⟨#[]⟩ : ByteArray), .string x178004_1, .string x178005_1, .slice none 0 0]) ?_ 4 _ rfl; (with_reducible repeat (first | refine blk_drewN ?_ _ | refine blk_drew ?_ | refine blk_alloc ?_ _)); refine blk_put (cs := #[.int .i64 0, .bool false, .int .i64 0, .string x178003_1, .string x178004_1, .string x178005_1, .slice none 0 0]) ?_ 3 _ rfl; (with_reducible repeat (first | refine blk_drewN ?_ _ | refine blk_drew ?_ | refine blk_alloc ?_ _)); refine blk_put (cs := #[.int .i64 0, .bool false, .int .i64 x178002_1, .string x178003_1, .string x178004_1, .string x178005_1, .slice none 0 0]) ?_ 2 _ rfl; (with_reducible repeat (first | refine blk_drewN ?_ _ | refine blk_drew ?_ | refine blk_alloc ?_ _)); refine blk_put (cs := #[.int .i64 0, .bool x178001_1, .int .i64 x178002_1, .string x178003_1, .string x178004_1, .string x178005_1, .slice none 0 0]) ?_ 1 _ rfl; (with_reducible repeat (first | refine blk_drewN ?_ _ | refine blk_drew ?_ | refine blk_alloc ?_ _)); refine blk_put (cs := #[.int .i64 x178000_1, .bool x178001_1, .int .i64 x178002_1, .string x178003_1, .string x178004_1, .string x178005_1, .slice none 0 0]) ?_ 0 _ rfl; (with_reducible repeat (first | refine blk_drewN ?_ _ | refine blk_drew ?_ | refine blk_alloc ?_ _)); exact BK177.out) Try.underlying31 rfl (by kernel_rfl)) rfl ?_
      exact ⟨_, by first | rfl | (simp [errW_none, errW_some] <;> rfl) | (simp [*, errW_none, errW_some] <;> rfl), by first | exact Kd.R_nil _ _ _ _ _ | exact Kd.N_nil _ _ _ _ _ | exact Kd.V_nil _ _ _ _ _ | exact Kd.Q_nil _ _ _ _ _ | exact Kd.S_nil _ _ _ _ _, bl1 HB GE177⟩
     ·
      rw [if_neg c5] at H
      have c5b0 : (((rd_T31 l0 x4_1).f0) == 5) = false := beq_eq_false_iff_ne.mpr c5
      have c5b1 : (((rd_T31 l0 x4_1).f0) != 5) = true := bne_iff_ne.mpr c5
      by_cases c8 : 0 < (l0.length : Int)
      ·
       rw [if_pos c8] at H
       have c8b0 : decide (0 < (l0.length : Int)) = true := decide_eq_true c8
       have c8b1 : decide (0 < l0.length) = true := decide_eq_true (by omega)
       clear c8
       by_cases c9 : ((rd_T31 l0 x4_1).f0) = ((rd_T31 l0 0).f0)
       ·
        rw [if_pos c9] at H
        have c9b0 : (((rd_T31 l0 x4_1).f0) == ((rd_T31 l0 0).f0)) = true := beq_iff_eq.mpr c9
        have c9b1 : (((rd_T31 l0 x4_1).f0) != ((rd_T31 l0 0).f0)) = false := bne_eq_false_iff_eq.mpr c9
        clear c9
        have H' := aZ_ H
        clear H
        try go_wp2
        replace HO_0 := aZ_ (Kd.V_drew HO_0.out)
        replace BK177 := aZ_ (blk_drew BK177.out)
        replace HB := aZ_ (below_drew1 HB.out)
        have p178 : 0 ≤ (x4_1 : Int) := of_decide_eq_true asm_
        have q178 : x4_1 < (l0.length : Int) := of_decide_eq_true asm_
        obtain ⟨ad178, A178_6, c178_6, e178, hx178_0, hx178_1, hx178_2, hx178_3, hx178_4, hx178_5, hx178_6, hl178_6, hi178_6⟩ := at_T31 (Kd.V_reads' HO_0.out).2.2 x4_1 p178 q178
        cases e178
        obtain ⟨ce178, hce178, hMe178, hcc178⟩ := Kd.V_get HO_0.out z31 x4_1 p178 (by first | exact q178 | exact of_decide_eq_true asm_ | (have e_ := (Kd.V_reads' HO_0.out).1; omega))
        obtain ⟨ua178_6, uc178_6, rfl, ul178_6, ge178_6⟩ := k31_openF hMe178
        have hv178_6 := hcc178 6 _ rfl
        rw [add_field _ _ 6 (by omega)] at hv178_6
        replace hv178_6 := Option.some.inj (hv178_6.symm.trans hx178_6)
        injection hv178_6 with hva_ hvn_ hvc_
        rw [hva_] at ge178_6
        rw [hvc_] at ul178_6
        have HL178_6 := aZ_ (show Kd.V k31 31 _ w.heap.size _ _ ((rd_T31 l0 x4_1).f5) from Kd.V_mk ul178_6 ge178_6)
        clear hva_ hvn_ hvc_ ge178_6 ul178_6
        clear hcc178 hce178
        have HR178_6 := aZ_ hi178_6
        have HC178_6 := aZ_ hl178_6
        clear hi178_6 hl178_6
        replace p178 := eq_true p178
        replace q178 := eq_true q178
        have p179 : 0 ≤ (x4_1 : Int) := of_decide_eq_true asm_
        have q179 : x4_1 < (l0.length : Int) := of_decide_eq_true asm_
        obtain ⟨ad179, A179_6, c179_6, e179, hx179_0, hx179_1, hx179_2, hx179_3, hx179_4, hx179_5, hx179_6, hl179_6, hi179_6⟩ := at_T31 (Kd.V_reads' HO_0.out).2.2 x4_1 p179 q179
        obtain rfl : ad178 = ad179 := (by injection e179)
        obtain ⟨ce179, hce179, hMe179, hcc179⟩ := Kd.V_get HO_0.out z31 x4_1 p179 (by first | exact q179 | exact of_decide_eq_true asm_ | (have e_ := (Kd.V_reads' HO_0.out).1; omega))
        obtain ⟨ua179_6, uc179_6, rfl, ul179_6, ge179_6⟩ := k31_openF hMe179
        have hv179_6 := hcc179 6 _ rfl
        rw [add_field _ _ 6 (by omega)] at hv179_6
        replace hv179_6 := Option.some.inj (hv179_6.symm.trans hx179_6)
        injection hv179_6 with hva_ hvn_ hvc_
        rw [hva_] at ge179_6
        rw [hvc_] at ul179_6
        have HL179_6 := aZ_ (show Kd.V k31 31 _ w.heap.size _ _ ((rd_T31 l0 x4_1).f5) from Kd.V_mk ul179_6 ge179_6)
        clear hva_ hvn_ hvc_ ge179_6 ul179_6
        clear hcc179 hce179
        have HR179_6 := aZ_ hi179_6
        have HC179_6 := aZ_ hl179_6
        clear hi179_6 hl179_6
        replace p179 := eq_true p179
        replace q179 := eq_true q179
        have ea_ := Option.some.inj (hx178_6.symm.trans hx179_6)
        injection ea_ with ea_ en_ ec_
        subst ea_
        subst ec_
        clear en_
        have p180 : 0 ≤ (0 : Int) := (by omega)
        have q180 : 0 < (l0.length : Int) := of_decide_eq_true asm_
        obtain ⟨ad180, A180_6, c180_6, e180, hx180_0, hx180_1, hx180_2, hx180_3, hx180_4, hx180_5, hx180_6, hl180_6, hi180_6⟩ := at_T31 (Kd.V_reads' HO_0.out).2.2 0 p180 q180
        obtain rfl : ad178 = ad180 := (by injection e180)
        obtain ⟨ce180, hce180, hMe180, hcc180⟩ := Kd.V_get HO_0.out z31 0 p180 (by first | exact q180 | exact of_decide_eq_true asm_ | (have e_ := (Kd.V_reads' HO_0.out).1; omega))
        obtain ⟨ua180_6, uc180_6, rfl, ul180_6, ge180_6⟩ := k31_openF hMe180
        have hv180_6 := hcc180 6 _ rfl
        rw [add_field _ _ 6 (by omega)] at hv180_6
        replace hv180_6 := Option.some.inj (hv180_6.symm.trans hx180_6)
        injection hv180_6 with hva_ hvn_ hvc_
        rw [hva_] at ge180_6
        rw [hvc_] at ul180_6
        have HL180_6 := aZ_ (show Kd.V k31 31 _ w.heap.size _ _ ((rd_T31 l0 0).f5) from Kd.V_mk ul180_6 ge180_6)
        clear hva_ hvn_ hvc_ ge180_6 ul180_6
        clear hcc180 hce180
        have qi180 : (0 < l0.length) = True := eq_true (by omega)
        (try rw [show ((0 : Int)).toNat = 0 from rfl] at hx180_0)
        (try rw [show 0 * 7 = 0 from rfl] at hx180_0)
        (try rw [Addr.add_zero'] at hx180_0)
        (try rw [show ((0 : Int)).toNat = 0 from rfl] at hx180_1)
        (try rw [show 0 * 7 = 0 from rfl] at hx180_1)
        (try rw [Addr.add_zero'] at hx180_1)
        (try rw [show ((0 : Int)).toNat = 0 from rfl] at hx180_2)
        (try rw [show 0 * 7 = 0 from rfl] at hx180_2)
        (try rw [Addr.add_zero'] at hx180_2)
        (try rw [show ((0 : Int)).toNat = 0 from rfl] at hx180_3)
        (try rw [show 0 * 7 = 0 from rfl] at hx180_3)
        (try rw [Addr.add_zero'] at hx180_3)
        (try rw [show ((0 : Int)).toNat = 0 from rfl] at hx180_4)
        (try rw [show 0 * 7 = 0 from rfl] at hx180_4)
        (try rw [Addr.add_zero'] at hx180_4)
        (try rw [show ((0 : Int)).toNat = 0 from rfl] at hx180_5)
        (try rw [show 0 * 7 = 0 from rfl] at hx180_5)
        (try rw [Addr.add_zero'] at hx180_5)
        (try rw [show ((0 : Int)).toNat = 0 from rfl] at hx180_6)
        (try rw [show 0 * 7 = 0 from rfl] at hx180_6)
        (try rw [Addr.add_zero'] at hx180_6)
        have HR180_6 := aZ_ hi180_6
        have HC180_6 := aZ_ hl180_6
        clear hi180_6 hl180_6
        replace p180 := eq_true p180
        replace q180 := eq_true q180
        refine start_ (n := 18) (S := fun w' => w'.cell? (ad178.add ((x4_1).toNat * 7)) = some (.int .i64 ((rd_T31 l0 x4_1).f0)) ∧ w'.cell? ⟨(ad178.add ((x4_1).toNat * 7)).block, (ad178.add ((x4_1).toNat * 7)).off + 1, none⟩ = some (.bool ((rd_T31 l0 x4_1).f1)) ∧ w'.cell? ⟨(ad178.add ((x4_1).toNat * 7)).block, (ad178.add ((x4_1).toNat * 7)).off + 2, none⟩ = some (.int .i64 ((rd_T31 l0 x4_1).f2)) ∧ w'.cell? ⟨(ad178.add ((x4_1).toNat * 7)).block, (ad178.add ((x4_1).toNat * 7)).off + 3, none⟩ = some (.string ((rd_T31 l0 x4_1).f3)) ∧ w'.cell? ⟨(ad178.add ((x4_1).toNat * 7)).block, (ad178.add ((x4_1).toNat * 7)).off + 4, none⟩ = some (.string ((rd_T31 l0 x4_1).f4.f0)) ∧ w'.cell? ⟨(ad178.add ((x4_1).toNat * 7)).block, (ad178.add ((x4_1).toNat * 7)).off + 5, none⟩ = some (.string ((rd_T31 l0 x4_1).f4.f1)) ∧ w'.cell? ⟨(ad178.add ((x4_1).toNat * 7)).block, (ad178.add ((x4_1).toNat * 7)).off + 6, none⟩ = some (.slice A178_6 ((rd_T31 l0 x4_1).f5).length c178_6) ∧ w'.cell? (ad178.add ((x4_1).toNat * 7)) = some (.int .i64 ((rd_T31 l0 x4_1).f0)) ∧ w'.cell? ⟨(ad178.add ((x4_1).toNat * 7)).block, (ad178.add ((x4_1).toNat * 7)).off + 1, none⟩ = some (.bool ((rd_T31 l0 x4_1).f1)) ∧ w'.cell? ⟨(ad178.add ((x4_1).toNat * 7)).block, (ad178.add ((x4_1).toNat * 7)).off + 2, none⟩ = some (.int .i64 ((rd_T31 l0 x4_1).f2)) ∧ w'.cell? ⟨(ad178.add ((x4_1).toNat * 7)).block, (ad178.add ((x4_1).toNat * 7)).off + 3, none⟩ = some (.string ((rd_T31 l0 x4_1).f3)) ∧ w'.cell? ⟨(ad178.add ((x4_1).toNat * 7)).block, (ad178.add ((x4_1).toNat * 7)).off + 4, none⟩ = some (.string ((rd_T31 l0 x4_1).f4.f0)) ∧ w'.cell? ⟨(ad178.add ((x4_1).toNat * 7)).block, (ad178.add ((x4_1).toNat * 7)).off + 5, none⟩ = some (.string ((rd_T31 l0 x4_1).f4.f1)) ∧ w'.cell? ⟨(ad178.add ((x4_1).toNat * 7)).block, (ad178.add ((x4_1).toNat * 7)).off + 6, none⟩ = some (.slice A178_6 ((rd_T31 l0 x4_1).f5).length c178_6) ∧ w'.cell? ad178 = some (.int .i64 ((rd_T31 l0 0).f0)) ∧ w'.cell? ⟨ad178.block, ad178.off + 1, none⟩ = some (.bool ((rd_T31 l0 0).f1)) ∧ w'.cell? ⟨ad178.block, ad178.off + 2, none⟩ = some (.int .i64 ((rd_T31 l0 0).f2)) ∧ w'.cell? ⟨ad178.block, ad178.off + 3, none⟩ = some (.string ((rd_T31 l0 0).f3)) ∧ w'.cell? ⟨ad178.block, ad178.off + 4, none⟩ = some (.string ((rd_T31 l0 0).f4.f0)) ∧ w'.cell? ⟨ad178.block, ad178.off + 5, none⟩ = some (.string ((rd_T31 l0 0).f4.f1)) ∧ w'.cell? ⟨ad178.block, ad178.off + 6, none⟩ = some (.slice A180_6 ((rd_T31 l0 0).f5).length c180_6)) (ds := []) #[false, false, false, false, false, false, false, false, false, false, false, false, false, false, false, false, false, false] (by kernel_rfl) rfl rfl ⟨hx178_0, hx178_1, hx178_2, hx178_3, hx178_4, hx178_5, hx178_6, hx179_0, hx179_1, hx179_2, hx179_3, hx179_4, hx179_5, hx179_6, hx180_0, hx180_1, hx180_2, hx180_3, hx180_4, hx180_5, hx180_6⟩ (fun hHeld => ?_); refine with_tabW chancelref3_Set.tab4 chancelref3_Set.bits4 (fun HT_ HW_ => ?_)
        generalize wr.drew = w10 at HO_0 BK177 HB HL178_6 HL179_6 HL180_6 HR178_6 HR179_6 HR180_6 hx178_0 hx178_1 hx178_2 hx178_3 hx178_4 hx178_5 hx178_6 hx179_0 hx179_1 hx179_2 hx179_3 hx179_4 hx179_5 hx179_6 hx180_0 hx180_1 hx180_2 hx180_3 hx180_4 hx180_5 hx180_6 hHeld ⊢
        refine pS_ 0 15 (fa 18 1) HT_ ?_
        refine pS_ 1 16 (fa 18 3) HT_ ?_
        refine pS_ 2 17 (fa 18 7) HT_ ?_
        refine pS_ 3 18 (fa 18 15) HT_ ?_
        refine tS_ 4 19 (fa 18 31) HT_ HW_ hHeld ?_
        refine pS_ 5 20 (fa 18 63) HT_ ?_
        refine pS_ 6 21 (fa 18 127) HT_ ?_
        refine pS_ 7 22 (fa 18 255) HT_ ?_
        refine pS_ 8 23 (fa 18 511) HT_ ?_
        refine pS_ 9 24 (fa 18 1023) HT_ ?_
        refine pS_ 10 25 (fa 18 2047) HT_ ?_
        refine pS_ 12 27 (fa 18 6143) HT_ ?_
        refine pS_ 13 28 (fa 18 14335) HT_ ?_
        refine pS_ 14 29 (fa 18 30719) HT_ ?_
        refine tS_ 11 26 (fa 18 32767) HT_ HW_ hHeld ?_
        refine tS_ 15 30 (fa 18 65535) HT_ HW_ hHeld ?_
        refine pS_ 16 31 (fa 18 131071) HT_ ?_
        refine pS_ 17 32 (fa 18 262143) HT_ ?_
        refine done_ (done_of HT_.out (by kernel_rfl)) ?_
        try go_wp2
        go_roundg k1
        case measure => have := HK1.out; omega
        case rel => exact ⟨(wrap64 (x4_1 + 1)), (x178000_1), (x178001_1), (x178002_1), (x178003_1), (x178004_1), (x178005_1), rf_, H', ⟨by have := HK1.out; omega⟩, ⟨kV HO_0⟩, ⟨bk BK177⟩, ⟨bl1 HB GE177⟩⟩
       ·
        rw [if_neg c9] at H
        have c9b0 : (((rd_T31 l0 x4_1).f0) == ((rd_T31 l0 0).f0)) = false := beq_eq_false_iff_ne.mpr c9
        have c9b1 : (((rd_T31 l0 x4_1).f0) != ((rd_T31 l0 0).f0)) = true := bne_iff_ne.mpr c9
        simp only [Option.some.injEq, Prod.mk.injEq] at H
        obtain ⟨rfl, rfl, rfl, rfl, rfl, rfl, rfl, rfl⟩ := H
        try go_wp2
        replace HO_0 := aZ_ (Kd.V_drew HO_0.out)
        replace BK177 := aZ_ (blk_drew BK177.out)
        replace HB := aZ_ (below_drew1 HB.out)
        have p178 : 0 ≤ (x4_1 : Int) := of_decide_eq_true asm_
        have q178 : x4_1 < (l0.length : Int) := of_decide_eq_true asm_
        obtain ⟨ad178, A178_6, c178_6, e178, hx178_0, hx178_1, hx178_2, hx178_3, hx178_4, hx178_5, hx178_6, hl178_6, hi178_6⟩ := at_T31 (Kd.V_reads' HO_0.out).2.2 x4_1 p178 q178
        cases e178
        obtain ⟨ce178, hce178, hMe178, hcc178⟩ := Kd.V_get HO_0.out z31 x4_1 p178 (by first | exact q178 | exact of_decide_eq_true asm_ | (have e_ := (Kd.V_reads' HO_0.out).1; omega))
        obtain ⟨ua178_6, uc178_6, rfl, ul178_6, ge178_6⟩ := k31_openF hMe178
        have hv178_6 := hcc178 6 _ rfl
        rw [add_field _ _ 6 (by omega)] at hv178_6
        replace hv178_6 := Option.some.inj (hv178_6.symm.trans hx178_6)
        injection hv178_6 with hva_ hvn_ hvc_
        rw [hva_] at ge178_6
        rw [hvc_] at ul178_6
        have HL178_6 := aZ_ (show Kd.V k31 31 _ w.heap.size _ _ ((rd_T31 l0 x4_1).f5) from Kd.V_mk ul178_6 ge178_6)
        clear hva_ hvn_ hvc_ ge178_6 ul178_6
        clear hcc178 hce178
        have HR178_6 := aZ_ hi178_6
        have HC178_6 := aZ_ hl178_6
        clear hi178_6 hl178_6
        replace p178 := eq_true p178
        replace q178 := eq_true q178
        have p179 : 0 ≤ (x4_1 : Int) := of_decide_eq_true asm_
        have q179 : x4_1 < (l0.length : Int) := of_decide_eq_true asm_
        obtain ⟨ad179, A179_6, c179_6, e179, hx179_0, hx179_1, hx179_2, hx179_3, hx179_4, hx179_5, hx179_6, hl179_6, hi179_6⟩ := at_T31 (Kd.V_reads' HO_0.out).2.2 x4_1 p179 q179
        obtain rfl : ad178 = ad179 := (by injection e179)
        obtain ⟨ce179, hce179, hMe179, hcc179⟩ := Kd.V_get HO_0.out z31 x4_1 p179 (by first | exact q179 | exact of_decide_eq_true asm_ | (have e_ := (Kd.V_reads' HO_0.out).1; omega))
        obtain ⟨ua179_6, uc179_6, rfl, ul179_6, ge179_6⟩ := k31_openF hMe179
        have hv179_6 := hcc179 6 _ rfl
        rw [add_field _ _ 6 (by omega)] at hv179_6
        replace hv179_6 := Option.some.inj (hv179_6.symm.trans hx179_6)
        injection hv179_6 with hva_ hvn_ hvc_
        rw [hva_] at ge179_6
        rw [hvc_] at ul179_6
        have HL179_6 := aZ_ (show Kd.V k31 31 _ w.heap.size _ _ ((rd_T31 l0 x4_1).f5) from Kd.V_mk ul179_6 ge179_6)
        clear hva_ hvn_ hvc_ ge179_6 ul179_6
        clear hcc179 hce179
        have HR179_6 := aZ_ hi179_6
        have HC179_6 := aZ_ hl179_6
        clear hi179_6 hl179_6
        replace p179 := eq_true p179
        replace q179 := eq_true q179
        have ea_ := Option.some.inj (hx178_6.symm.trans hx179_6)
        injection ea_ with ea_ en_ ec_
        subst ea_
        subst ec_
        clear en_
        have p180 : 0 ≤ (0 : Int) := (by omega)
        have q180 : 0 < (l0.length : Int) := of_decide_eq_true asm_
        obtain ⟨ad180, A180_6, c180_6, e180, hx180_0, hx180_1, hx180_2, hx180_3, hx180_4, hx180_5, hx180_6, hl180_6, hi180_6⟩ := at_T31 (Kd.V_reads' HO_0.out).2.2 0 p180 q180
        obtain rfl : ad178 = ad180 := (by injection e180)
        obtain ⟨ce180, hce180, hMe180, hcc180⟩ := Kd.V_get HO_0.out z31 0 p180 (by first | exact q180 | exact of_decide_eq_true asm_ | (have e_ := (Kd.V_reads' HO_0.out).1; omega))
        obtain ⟨ua180_6, uc180_6, rfl, ul180_6, ge180_6⟩ := k31_openF hMe180
        have hv180_6 := hcc180 6 _ rfl
        rw [add_field _ _ 6 (by omega)] at hv180_6
        replace hv180_6 := Option.some.inj (hv180_6.symm.trans hx180_6)
        injection hv180_6 with hva_ hvn_ hvc_
        rw [hva_] at ge180_6
        rw [hvc_] at ul180_6
        have HL180_6 := aZ_ (show Kd.V k31 31 _ w.heap.size _ _ ((rd_T31 l0 0).f5) from Kd.V_mk ul180_6 ge180_6)
        clear hva_ hvn_ hvc_ ge180_6 ul180_6
        clear hcc180 hce180
        have qi180 : (0 < l0.length) = True := eq_true (by omega)
        (try rw [show ((0 : Int)).toNat = 0 from rfl] at hx180_0)
        (try rw [show 0 * 7 = 0 from rfl] at hx180_0)
        (try rw [Addr.add_zero'] at hx180_0)
        (try rw [show ((0 : Int)).toNat = 0 from rfl] at hx180_1)
        (try rw [show 0 * 7 = 0 from rfl] at hx180_1)
        (try rw [Addr.add_zero'] at hx180_1)
        (try rw [show ((0 : Int)).toNat = 0 from rfl] at hx180_2)
        (try rw [show 0 * 7 = 0 from rfl] at hx180_2)
        (try rw [Addr.add_zero'] at hx180_2)
        (try rw [show ((0 : Int)).toNat = 0 from rfl] at hx180_3)
        (try rw [show 0 * 7 = 0 from rfl] at hx180_3)
        (try rw [Addr.add_zero'] at hx180_3)
        (try rw [show ((0 : Int)).toNat = 0 from rfl] at hx180_4)
        (try rw [show 0 * 7 = 0 from rfl] at hx180_4)
        (try rw [Addr.add_zero'] at hx180_4)
        (try rw [show ((0 : Int)).toNat = 0 from rfl] at hx180_5)
        (try rw [show 0 * 7 = 0 from rfl] at hx180_5)
        (try rw [Addr.add_zero'] at hx180_5)
        (try rw [show ((0 : Int)).toNat = 0 from rfl] at hx180_6)
        (try rw [show 0 * 7 = 0 from rfl] at hx180_6)
        (try rw [Addr.add_zero'] at hx180_6)
        have HR180_6 := aZ_ hi180_6
        have HC180_6 := aZ_ hl180_6
        clear hi180_6 hl180_6
        replace p180 := eq_true p180
        replace q180 := eq_true q180
        refine start_ (n := 18) (S := fun w' => w'.cell? (ad178.add ((x4_1).toNat * 7)) = some (.int .i64 ((rd_T31 l0 x4_1).f0)) ∧ w'.cell? ⟨(ad178.add ((x4_1).toNat * 7)).block, (ad178.add ((x4_1).toNat * 7)).off + 1, none⟩ = some (.bool ((rd_T31 l0 x4_1).f1)) ∧ w'.cell? ⟨(ad178.add ((x4_1).toNat * 7)).block, (ad178.add ((x4_1).toNat * 7)).off + 2, none⟩ = some (.int .i64 ((rd_T31 l0 x4_1).f2)) ∧ w'.cell? ⟨(ad178.add ((x4_1).toNat * 7)).block, (ad178.add ((x4_1).toNat * 7)).off + 3, none⟩ = some (.string ((rd_T31 l0 x4_1).f3)) ∧ w'.cell? ⟨(ad178.add ((x4_1).toNat * 7)).block, (ad178.add ((x4_1).toNat * 7)).off + 4, none⟩ = some (.string ((rd_T31 l0 x4_1).f4.f0)) ∧ w'.cell? ⟨(ad178.add ((x4_1).toNat * 7)).block, (ad178.add ((x4_1).toNat * 7)).off + 5, none⟩ = some (.string ((rd_T31 l0 x4_1).f4.f1)) ∧ w'.cell? ⟨(ad178.add ((x4_1).toNat * 7)).block, (ad178.add ((x4_1).toNat * 7)).off + 6, none⟩ = some (.slice A178_6 ((rd_T31 l0 x4_1).f5).length c178_6) ∧ w'.cell? (ad178.add ((x4_1).toNat * 7)) = some (.int .i64 ((rd_T31 l0 x4_1).f0)) ∧ w'.cell? ⟨(ad178.add ((x4_1).toNat * 7)).block, (ad178.add ((x4_1).toNat * 7)).off + 1, none⟩ = some (.bool ((rd_T31 l0 x4_1).f1)) ∧ w'.cell? ⟨(ad178.add ((x4_1).toNat * 7)).block, (ad178.add ((x4_1).toNat * 7)).off + 2, none⟩ = some (.int .i64 ((rd_T31 l0 x4_1).f2)) ∧ w'.cell? ⟨(ad178.add ((x4_1).toNat * 7)).block, (ad178.add ((x4_1).toNat * 7)).off + 3, none⟩ = some (.string ((rd_T31 l0 x4_1).f3)) ∧ w'.cell? ⟨(ad178.add ((x4_1).toNat * 7)).block, (ad178.add ((x4_1).toNat * 7)).off + 4, none⟩ = some (.string ((rd_T31 l0 x4_1).f4.f0)) ∧ w'.cell? ⟨(ad178.add ((x4_1).toNat * 7)).block, (ad178.add ((x4_1).toNat * 7)).off + 5, none⟩ = some (.string ((rd_T31 l0 x4_1).f4.f1)) ∧ w'.cell? ⟨(ad178.add ((x4_1).toNat * 7)).block, (ad178.add ((x4_1).toNat * 7)).off + 6, none⟩ = some (.slice A178_6 ((rd_T31 l0 x4_1).f5).length c178_6) ∧ w'.cell? ad178 = some (.int .i64 ((rd_T31 l0 0).f0)) ∧ w'.cell? ⟨ad178.block, ad178.off + 1, none⟩ = some (.bool ((rd_T31 l0 0).f1)) ∧ w'.cell? ⟨ad178.block, ad178.off + 2, none⟩ = some (.int .i64 ((rd_T31 l0 0).f2)) ∧ w'.cell? ⟨ad178.block, ad178.off + 3, none⟩ = some (.string ((rd_T31 l0 0).f3)) ∧ w'.cell? ⟨ad178.block, ad178.off + 4, none⟩ = some (.string ((rd_T31 l0 0).f4.f0)) ∧ w'.cell? ⟨ad178.block, ad178.off + 5, none⟩ = some (.string ((rd_T31 l0 0).f4.f1)) ∧ w'.cell? ⟨ad178.block, ad178.off + 6, none⟩ = some (.slice A180_6 ((rd_T31 l0 0).f5).length c180_6)) (ds := []) #[false, false, false, false, false, false, false, false, false, false, false, false, false, false, false, false, false, false] (by kernel_rfl) rfl rfl ⟨hx178_0, hx178_1, hx178_2, hx178_3, hx178_4, hx178_5, hx178_6, hx179_0, hx179_1, hx179_2, hx179_3, hx179_4, hx179_5, hx179_6, hx180_0, hx180_1, hx180_2, hx180_3, hx180_4, hx180_5, hx180_6⟩ (fun hHeld => ?_); refine with_tabW chancelref3_Set.tab4 chancelref3_Set.bits4 (fun HT_ HW_ => ?_)
        generalize wr.drew = w11 at HO_0 BK177 HB HL178_6 HL179_6 HL180_6 HR178_6 HR179_6 HR180_6 hx178_0 hx178_1 hx178_2 hx178_3 hx178_4 hx178_5 hx178_6 hx179_0 hx179_1 hx179_2 hx179_3 hx179_4 hx179_5 hx179_6 hx180_0 hx180_1 hx180_2 hx180_3 hx180_4 hx180_5 hx180_6 hHeld ⊢
        refine pS_ 0 15 (fa 18 1) HT_ ?_
        refine pS_ 1 16 (fa 18 3) HT_ ?_
        refine pS_ 2 17 (fa 18 7) HT_ ?_
        refine pS_ 3 18 (fa 18 15) HT_ ?_
        refine tS_ 4 19 (fa 18 31) HT_ HW_ hHeld ?_
        refine pS_ 5 20 (fa 18 63) HT_ ?_
        refine pS_ 6 21 (fa 18 127) HT_ ?_
        refine pS_ 7 22 (fa 18 255) HT_ ?_
        refine pS_ 8 23 (fa 18 511) HT_ ?_
        refine pS_ 9 24 (fa 18 1023) HT_ ?_
        refine pS_ 10 25 (fa 18 2047) HT_ ?_
        refine pS_ 12 27 (fa 18 6143) HT_ ?_
        refine pS_ 13 28 (fa 18 14335) HT_ ?_
        refine pS_ 14 29 (fa 18 30719) HT_ ?_
        refine tS_ 11 26 (fa 18 32767) HT_ HW_ hHeld ?_
        refine tS_ 15 30 (fa 18 65535) HT_ HW_ hHeld ?_
        refine pS_ 16 31 (fa 18 131071) HT_ ?_
        refine pS_ 17 32 (fa 18 262143) HT_ ?_
        refine done_ (done_of HT_.out (by kernel_rfl)) ?_
        obtain ⟨hcz12_0, hcz12_1, hcz12_2, hcz12_3, hcz12_4, hcz12_5, hcz12_6, hfz12_0, hfz12_1, hfz12_2, hfz12_3, hfz12_4, hfz12_5, hfz12_6⟩ := bc7 BK177
        try go_wp2
        refine bodyPost_ret (results_ct rfl _ _ gb177 31 #[.int .i64 0, .bool false, .int .i64 0, .string (⟨#[]⟩ : ByteArray), .string (⟨#[]⟩ : ByteArray), .string (⟨#[]⟩ : ByteArray), .slice none 0 0] (0, 0) _ rfl (by (with_reducible repeat (first | refine blk_drewN ?_ _ | refine blk_drew ?_ | refine blk_alloc ?_ _)); refine blk_put (cs := #[.int .i64 0, .bool false, .int .i64 0, .string (⟨#[]⟩ : ByteArray), .string (⟨#[]⟩ : ByteArray), .string (⟨#[]⟩ : ByteArray), .slice none 0 0]) ?_ 6 _ rfl; (with_reducible repeat (first | refine blk_drewN ?_ _ | refine blk_drew ?_ | refine blk_alloc ?_ _)); refine blk_put (cs := #[.int .i64 0, .bool false, .int .i64 0, .string (⟨#[]⟩ : ByteArray), .string (⟨#[]⟩ : ByteArray), .string x178005_1, .slice none 0 0]) ?_ 5 _ rfl; (with_reducible repeat (first | refine blk_drewN ?_ _ | refine blk_drew ?_ | refine blk_alloc ?_ _)); refine blk_put (cs := #[.int .i64 0, .bool false, .int .i64 0, .string (⟨#[]⟩ : ByteArray), .string x178004_1, .string x178005_1, .slice none 0 0]) ?_ 4 _ rfl; (with_reducible repeat (first | refine blk_drewN ?_ _ | refine blk_drew ?_ | refine blk_alloc ?_ _)); refine blk_put (cs := #[.int .i64 0, .bool false, .int .i64 0, .string x178003_1, .string x178004_1, .string x178005_1, .slice none 0 0]) ?_ 3 _ rfl; (with_reducible repeat (first | refine blk_drewN ?_ _ | refine blk_drew ?_ | refine blk_alloc ?_ _)); refine blk_put (cs := #[.int .i64 0, .bool false, .int .i64 x178002_1, .string x178003_1, .string x178004_1, .string x178005_1, .slice none 0 0]) ?_ 2 _ rfl; (with_reducible repeat (first | refine blk_drewN ?_ _ | refine blk_drew ?_ | refine blk_alloc ?_ _)); refine blk_put (cs := #[.int .i64 0, .bool x178001_1, .int .i64 x178002_1, .string x178003_1, .string x178004_1, .string x178005_1, .slice none 0 0]) ?_ 1 _ rfl; (with_reducible repeat (first | refine blk_drewN ?_ _ | refine blk_drew ?_ | refine blk_alloc ?_ _)); refine blk_put (cs := #[.int .i64 x178000_1, .bool x178001_1, .int .i64 x178002_1, .string x178003_1, .string x178004_1, .string x178005_1, .slice none 0 0]) ?_ 0 _ rfl; (with_reducible repeat (first | refine blk_drewN ?_ _ | refine blk_drew ?_ | refine blk_alloc ?_ _)); exact BK177.out) Try.underlying31 rfl (by kernel_rfl)) rfl ?_
        exact ⟨_, by first | rfl | (simp [errW_none, errW_some] <;> rfl) | (simp [*, errW_none, errW_some] <;> rfl), by first | exact Kd.R_nil _ _ _ _ _ | exact Kd.N_nil _ _ _ _ _ | exact Kd.V_nil _ _ _ _ _ | exact Kd.Q_nil _ _ _ _ _ | exact Kd.S_nil _ _ _ _ _, bl1 HB GE177⟩
      ·
       rw [if_neg c8] at H
       exact absurd H (by simp)
    ·
     rw [if_neg c4] at H
     exact absurd H (by simp)
   ·
    rw [if_neg c3] at H
    have c3b0 : decide (x4_1 < (l0.length : Int)) = false := decide_eq_false c3
    clear c3
    have H' := aZ_ H
    clear H
    go_wp2
    go_loopg [5, 6] k1 (fun kq v5 v6 w' => ∃ (x5_2 : List (S31)) (x6_2 : Int), v6 = .int .i64 x6_2 ∧ Aside0 (chancelref3_Set.l1 kq l0 x5_2 x6_2 = some (r1, r2, r3, r4, r5, r6, r7, r8)) ∧ Aside0 (kq ≤ k1) ∧ Aside0 (Kd.V k31 31 w' w.heap.size (fun k_ => (P0_ k_ ∨ w.heap.size ≤ k_) ∧ some k_ ≠ (v5 : Value).ownBlock ∧ k_ ≠ gb177) (.slice A0 l0.length c0) l0) ∧ Aside0 (Kd.N k31 31 w' w.heap.size (fun k_ => (P0_ k_ ∨ w.heap.size ≤ k_) ∧ k_ ≠ gb177) v5 x5_2) ∧ Aside0 (w'.heap[gb177]? = some (.cells #[.int .i64 x178000_1, .bool x178001_1, .int .i64 x178002_1, .string x178003_1, .string x178004_1, .string x178005_1, (.slice none 0 0)] 31 (0, 0))) ∧ Aside0 (Below w.heap.size w w'))
    case atStart => exact ⟨(([] : List (S31))), (0), rf_, H', ⟨Nat.le_refl _⟩, ⟨by (with_reducible repeat (first | apply Kd.V_alloc | apply Kd.V_drewN | apply Kd.V_drew)); exact Kd.V_mono HO_0.out (fun _ hk => ⟨hk.1, ⟨(by simp [Value.ownBlock]), hk.2⟩⟩)⟩, ⟨by first | exact Kd.R_nil _ _ _ _ _ | exact Kd.N_nil _ _ _ _ _ | exact Kd.V_nil _ _ _ _ _ | exact Kd.Q_nil _ _ _ _ _ | exact Kd.S_nil _ _ _ _ _⟩, ⟨bk BK177⟩, ⟨bl1 HB GE177⟩⟩
    case round =>
     clear H'
     try clear c1
     try clear p1
     try clear q1
     try clear hx1
     try clear qi1
     try clear p2
     try clear c3
     try clear c3b0
     try clear c4
     try clear c5
     try clear c5b0
     try clear c5b1
     try clear p6
     try clear c8
     try clear c8b0
     try clear c8b1
     try clear c9
     try clear c9b0
     try clear c9b1
     try clear hcz12_0
     try clear hcz12_1
     try clear hcz12_2
     try clear hcz12_3
     try clear hcz12_4
     try clear hcz12_5
     try clear hcz12_6
     try clear hcz7_0
     try clear hcz7_1
     try clear hcz7_2
     try clear hcz7_3
     try clear hcz7_4
     try clear hcz7_5
     try clear hcz7_6
     try clear hfz12_0
     try clear hfz12_1
     try clear hfz12_2
     try clear hfz12_3
     try clear hfz12_4
     try clear hfz12_5
     try clear hfz12_6
     try clear hfz7_0
     try clear hfz7_1
     try clear hfz7_2
     try clear hfz7_3
     try clear hfz7_4
     try clear hfz7_5
     try clear hfz7_6
     try clear hx178_0
     try clear hx178_1
     try clear hx178_2
     try clear hx178_3
     try clear hx178_4
     try clear hx178_5
     try clear hx178_6
     try clear hx179_0
     try clear hx179_1
     try clear hx179_2
     try clear hx179_3
     try clear hx179_4
     try clear hx179_5
     try clear hx179_6
     try clear hx180_0
     try clear hx180_1
     try clear hx180_2
     try clear hx180_3
     try clear hx180_4
     try clear hx180_5
     try clear hx180_6
     try clear p178
     try clear p179
     try clear p180
     try clear q178
     try clear q179
     try clear q180
     obtain ⟨x5_2, x6_2, rfl, HA, HK2, HO_0, HO_5, BK177, HB⟩ := hrel
     cases gk with
     | zero => exact absurd HA.out (by simp [chancelref3_Set.l1])
     | succ k2 =>
      have H := HA.out
      clear HA
      simp only [chancelref3_Set.l1] at H
      by_cases c13 : x6_2 < (l0.length : Int)
      ·
       rw [if_pos c13] at H
       have c13b0 : decide (x6_2 < (l0.length : Int)) = true := decide_eq_true c13
       clear c13
       have H' := aZ_ H
       clear H
       go_wp2
       go_loopg [7] k2 (fun kq v7 w' => ∃ (x7_3 : Int), v7 = .int .i64 x7_3 ∧ Aside0 (chancelref3_Set.l2 kq l0 x5_2 x6_2 x7_3 = some (r1, r2, r3, r4, r5, r6, r7, r8)) ∧ Aside0 (kq ≤ k2) ∧ Aside0 (Kd.V k31 31 w' w.heap.size (fun k_ => (P0_ k_ ∨ w.heap.size ≤ k_) ∧ some k_ ≠ (u5 : Value).ownBlock ∧ k_ ≠ gb177) (.slice A0 l0.length c0) l0) ∧ Aside0 (Kd.N k31 31 w' w.heap.size (fun k_ => (P0_ k_ ∨ w.heap.size ≤ k_) ∧ k_ ≠ gb177) u5 x5_2) ∧ Aside0 (w'.heap[gb177]? = some (.cells #[.int .i64 x178000_1, .bool x178001_1, .int .i64 x178002_1, .string x178003_1, .string x178004_1, .string x178005_1, (.slice none 0 0)] 31 (0, 0))) ∧ Aside0 (Below w.heap.size w w'))
       case atStart => exact ⟨(0), rf_, H', ⟨Nat.le_refl _⟩, ⟨kV HO_0⟩, ⟨kN HO_5⟩, ⟨bk BK177⟩, ⟨bl1 HB GE177⟩⟩
       case round =>
        clear H'
        try clear c1
        try clear p1
        try clear q1
        try clear hx1
        try clear qi1
        try clear p2
        try clear c3
        try clear c3b0
        try clear c4
        try clear c5
        try clear c5b0
        try clear c5b1
        try clear p6
        try clear c8
        try clear c8b0
        try clear c8b1
        try clear c9
        try clear c9b0
        try clear c9b1
        try clear c13
        try clear c13b0
        try clear hcz12_0
        try clear hcz12_1
        try clear hcz12_2
        try clear hcz12_3
        try clear hcz12_4
        try clear hcz12_5
        try clear hcz12_6
        try clear hcz7_0
        try clear hcz7_1
        try clear hcz7_2
        try clear hcz7_3
        try clear hcz7_4
        try clear hcz7_5
        try clear hcz7_6
        try clear hfz12_0
        try clear hfz12_1
        try clear hfz12_2
        try clear hfz12_3
        try clear hfz12_4
        try clear hfz12_5
        try clear hfz12_6
        try clear hfz7_0
        try clear hfz7_1
        try clear hfz7_2
        try clear hfz7_3
        try clear hfz7_4
        try clear hfz7_5
        try clear hfz7_6
        try clear hx178_0
        try clear hx178_1
        try clear hx178_2
        try clear hx178_3
        try clear hx178_4
        try clear hx178_5
        try clear hx178_6
        try clear hx179_0
        try clear hx179_1
        try clear hx179_2
        try clear hx179_3
        try clear hx179_4
        try clear hx179_5
        try clear hx179_6
        try clear hx180_0
        try clear hx180_1
        try clear hx180_2
        try clear hx180_3
        try clear hx180_4
        try clear hx180_5
        try clear hx180_6
        try clear p1
        try clear p178
        try clear p179
        try clear p180
        try clear p2
        try clear p6
        try clear q1
        try clear q178
        try clear q179
        try clear q180
        obtain ⟨x7_3, rfl, HA, HK3, HO_0, HO_5, BK177, HB⟩ := hrel
        cases gk with
        | zero => exact absurd HA.out (by simp [chancelref3_Set.l2])
        | succ k3 =>
         have H := HA.out
         clear HA
         simp only [chancelref3_Set.l2] at H
         by_cases c14 : x7_3 < (x5_2.length : Int)
         ·
          rw [if_pos c14] at H
          have c14b0 : decide (x7_3 < (x5_2.length : Int)) = true := decide_eq_true c14
          clear c14
          by_cases c15 : 0 ≤ x7_3
          ·
           rw [if_pos c15] at H
           have c15b0 : decide (0 ≤ x7_3) = true := decide_eq_true c15
           clear c15
           by_cases c16 : 0 ≤ x6_2
           ·
            rw [if_pos c16] at H
            have c16b0 : decide (0 ≤ x6_2) = true := decide_eq_true c16
            clear c16
            by_cases c17 : x6_2 < (l0.length : Int)
            ·
             rw [if_pos c17] at H
             have c17b0 : decide (x6_2 < (l0.length : Int)) = true := decide_eq_true c17
             clear c17
             replace H := Option.bind_eq_some_iff.mp H
             obtain ⟨t183, A180, H⟩ := H
             replace H : (if t183 = true then (chancelref3_Set.l2 k3 l0 x5_2 x6_2 (wrap64 (x7_3 + 1))) else ((chancelref3_Same.f k3 ((rd_T31 x5_2 x7_3).f0) ((rd_T31 x5_2 x7_3).f1) ((rd_T31 x5_2 x7_3).f2) ((rd_T31 x5_2 x7_3).f3) ((rd_T31 x5_2 x7_3).f4.f0) ((rd_T31 x5_2 x7_3).f4.f1) ((rd_T31 x5_2 x7_3).f5) ((rd_T31 l0 x6_2).f0) ((rd_T31 l0 x6_2).f1) ((rd_T31 l0 x6_2).f2) ((rd_T31 l0 x6_2).f3) ((rd_T31 l0 x6_2).f4.f0) ((rd_T31 l0 x6_2).f4.f1) ((rd_T31 l0 x6_2).f5)).bind fun t186 => (if t186 = true then (chancelref3_Set.l1 k3 l0 x5_2 (wrap64 (x6_2 + 1))) else (if x7_3 ≤ (x5_2.length : Int) then ((some (x5_2.take (x7_3 : Int).toNat : List (S31))).bind fun y187 => (if ([] : List (S31)).length + y187.length < 1466015503701 then ((some (([] : List (S31)) ++ y187 : List (S31))).bind fun y192 => (if y192.length < 1466015503701 then ((some (y192 ++ [(⟨(rd_T31 l0 x6_2).f0, (rd_T31 l0 x6_2).f1, (rd_T31 l0 x6_2).f2, (rd_T31 l0 x6_2).f3, (⟨(rd_T31 l0 x6_2).f4.f0, (rd_T31 l0 x6_2).f4.f1⟩ : S28), (rd_T31 l0 x6_2).f5⟩ : S31)] : List (S31))).bind fun y196 => ((some (x5_2.drop (x7_3 : Int).toNat : List (S31))).bind fun y199 => (if y196.length + y199.length < 1466015503701 then (chancelref3_Set.l1 k3 l0 (y196 ++ y199) (wrap64 (x6_2 + 1))) else (none)))) else (none))) else (none))) else (none))))) = some (r1, r2, r3, r4, r5, r6, r7, r8) := H
             have A18 := aZ_ A180
             clear A180
             by_cases c19 : t183 = true
             ·
              subst c19
              have H1 : (chancelref3_Set.l2 k3 l0 x5_2 x6_2 (wrap64 (x7_3 + 1))) = some (r1, r2, r3, r4, r5, r6, r7, r8) := by rw [if_pos rfl] at H; exact H
              clear H
              have H := H1
              clear H1
              have H' := aZ_ H
              clear H
              try go_wp2
              replace HO_0 := aZ_ (Kd.V_drew HO_0.out)
              replace HO_5 := aZ_ (Kd.N_drew HO_5.out)
              replace BK177 := aZ_ (blk_drew BK177.out)
              replace HB := aZ_ (below_drew1 HB.out)
              obtain ⟨Ao21, co21, eo21⟩ := Kd.N_slice HO_5.out
              (first | subst eo21 | (injection eo21 with f1_ f2_ f3_; have f4_ := f1_.symm; have f5_ := f3_.symm; clear f1_ f2_ f3_; subst f4_; subst f5_))
              have p181 : 0 ≤ (x7_3 : Int) := of_decide_eq_true asm_
              have q181 : x7_3 < (x5_2.length : Int) := of_decide_eq_true asm_
              obtain ⟨ad181, A181_6, c181_6, e181, hx181_0, hx181_1, hx181_2, hx181_3, hx181_4, hx181_5, hx181_6, hl181_6, hi181_6⟩ := at_T31 (Kd.N_reads' HO_5.out).2.2 x7_3 p181 q181
              cases e181
              obtain ⟨ce181, hce181, hMe181, hcc181⟩ := Kd.N_get HO_5.out z31 x7_3 p181 (by first | exact q181 | exact of_decide_eq_true asm_ | (have e_ := (Kd.N_reads' HO_5.out).1; omega))
              obtain ⟨ua181_6, uc181_6, rfl, ul181_6, ge181_6⟩ := k31_openF hMe181
              have hv181_6 := hcc181 6 _ rfl
              rw [add_field _ _ 6 (by omega)] at hv181_6
              replace hv181_6 := Option.some.inj (hv181_6.symm.trans hx181_6)
              injection hv181_6 with hva_ hvn_ hvc_
              rw [hva_] at ge181_6
              rw [hvc_] at ul181_6
              have HL181_6 := aZ_ (show Kd.V k31 31 _ w.heap.size _ _ ((rd_T31 x5_2 x7_3).f5) from Kd.V_mk ul181_6 ge181_6)
              clear hva_ hvn_ hvc_ ge181_6 ul181_6
              clear hcc181 hce181
              have HR181_6 := aZ_ hi181_6
              have HC181_6 := aZ_ hl181_6
              clear hi181_6 hl181_6
              replace p181 := eq_true p181
              replace q181 := eq_true q181
              have p182 : 0 ≤ (x6_2 : Int) := of_decide_eq_true asm_
              have q182 : x6_2 < (l0.length : Int) := of_decide_eq_true asm_
              obtain ⟨ad182, A182_6, c182_6, e182, hx182_0, hx182_1, hx182_2, hx182_3, hx182_4, hx182_5, hx182_6, hl182_6, hi182_6⟩ := at_T31 (Kd.V_reads' HO_0.out).2.2 x6_2 p182 q182
              cases e182
              obtain ⟨ce182, hce182, hMe182, hcc182⟩ := Kd.V_get HO_0.out z31 x6_2 p182 (by first | exact q182 | exact of_decide_eq_true asm_ | (have e_ := (Kd.V_reads' HO_0.out).1; omega))
              obtain ⟨ua182_6, uc182_6, rfl, ul182_6, ge182_6⟩ := k31_openF hMe182
              have hv182_6 := hcc182 6 _ rfl
              rw [add_field _ _ 6 (by omega)] at hv182_6
              replace hv182_6 := Option.some.inj (hv182_6.symm.trans hx182_6)
              injection hv182_6 with hva_ hvn_ hvc_
              rw [hva_] at ge182_6
              rw [hvc_] at ul182_6
              have HL182_6 := aZ_ (show Kd.V k31 31 _ w.heap.size _ _ ((rd_T31 l0 x6_2).f5) from Kd.V_mk ul182_6 ge182_6)
              clear hva_ hvn_ hvc_ ge182_6 ul182_6
              clear hcc182 hce182
              have HR182_6 := aZ_ hi182_6
              have HC182_6 := aZ_ hl182_6
              clear hi182_6 hl182_6
              replace p182 := eq_true p182
              replace q182 := eq_true q182
              refine start_ (n := 15) (S := fun w' => w'.cell? (ad181.add ((x7_3).toNat * 7)) = some (.int .i64 ((rd_T31 x5_2 x7_3).f0)) ∧ w'.cell? ⟨(ad181.add ((x7_3).toNat * 7)).block, (ad181.add ((x7_3).toNat * 7)).off + 1, none⟩ = some (.bool ((rd_T31 x5_2 x7_3).f1)) ∧ w'.cell? ⟨(ad181.add ((x7_3).toNat * 7)).block, (ad181.add ((x7_3).toNat * 7)).off + 2, none⟩ = some (.int .i64 ((rd_T31 x5_2 x7_3).f2)) ∧ w'.cell? ⟨(ad181.add ((x7_3).toNat * 7)).block, (ad181.add ((x7_3).toNat * 7)).off + 3, none⟩ = some (.string ((rd_T31 x5_2 x7_3).f3)) ∧ w'.cell? ⟨(ad181.add ((x7_3).toNat * 7)).block, (ad181.add ((x7_3).toNat * 7)).off + 4, none⟩ = some (.string ((rd_T31 x5_2 x7_3).f4.f0)) ∧ w'.cell? ⟨(ad181.add ((x7_3).toNat * 7)).block, (ad181.add ((x7_3).toNat * 7)).off + 5, none⟩ = some (.string ((rd_T31 x5_2 x7_3).f4.f1)) ∧ w'.cell? ⟨(ad181.add ((x7_3).toNat * 7)).block, (ad181.add ((x7_3).toNat * 7)).off + 6, none⟩ = some (.slice A181_6 ((rd_T31 x5_2 x7_3).f5).length c181_6) ∧ w'.cell? (ad182.add ((x6_2).toNat * 7)) = some (.int .i64 ((rd_T31 l0 x6_2).f0)) ∧ w'.cell? ⟨(ad182.add ((x6_2).toNat * 7)).block, (ad182.add ((x6_2).toNat * 7)).off + 1, none⟩ = some (.bool ((rd_T31 l0 x6_2).f1)) ∧ w'.cell? ⟨(ad182.add ((x6_2).toNat * 7)).block, (ad182.add ((x6_2).toNat * 7)).off + 2, none⟩ = some (.int .i64 ((rd_T31 l0 x6_2).f2)) ∧ w'.cell? ⟨(ad182.add ((x6_2).toNat * 7)).block, (ad182.add ((x6_2).toNat * 7)).off + 3, none⟩ = some (.string ((rd_T31 l0 x6_2).f3)) ∧ w'.cell? ⟨(ad182.add ((x6_2).toNat * 7)).block, (ad182.add ((x6_2).toNat * 7)).off + 4, none⟩ = some (.string ((rd_T31 l0 x6_2).f4.f0)) ∧ w'.cell? ⟨(ad182.add ((x6_2).toNat * 7)).block, (ad182.add ((x6_2).toNat * 7)).off + 5, none⟩ = some (.string ((rd_T31 l0 x6_2).f4.f1)) ∧ w'.cell? ⟨(ad182.add ((x6_2).toNat * 7)).block, (ad182.add ((x6_2).toNat * 7)).off + 6, none⟩ = some (.slice A182_6 ((rd_T31 l0 x6_2).f5).length c182_6)) (ds := []) #[false, false, false, false, false, false, false, false, false, false, false, false, false, false, false] (by kernel_rfl) rfl rfl ⟨hx181_0, hx181_1, hx181_2, hx181_3, hx181_4, hx181_5, hx181_6, hx182_0, hx182_1, hx182_2, hx182_3, hx182_4, hx182_5, hx182_6⟩ (fun hHeld => ?_); refine with_tabW chancelref3_Set.tab11 chancelref3_Set.bits11 (fun HT_ HW_ => ?_)
              generalize wr.drew = w20 at HO_0 HO_5 BK177 HB HL181_6 HL182_6 HR181_6 HR182_6 hx181_0 hx181_1 hx181_2 hx181_3 hx181_4 hx181_5 hx181_6 hx182_0 hx182_1 hx182_2 hx182_3 hx182_4 hx182_5 hx182_6 hHeld ⊢
              refine pS_ 0 40 (fa 15 1) HT_ ?_
              refine pS_ 1 41 (fa 15 3) HT_ ?_
              refine pS_ 2 42 (fa 15 7) HT_ ?_
              refine pS_ 3 43 (fa 15 15) HT_ ?_
              refine pS_ 4 44 (fa 15 31) HT_ ?_
              refine pS_ 5 45 (fa 15 63) HT_ ?_
              refine pS_ 6 46 (fa 15 127) HT_ ?_
              refine pS_ 7 47 (fa 15 255) HT_ ?_
              refine pS_ 9 49 (fa 15 767) HT_ ?_
              refine pS_ 10 50 (fa 15 1791) HT_ ?_
              refine pS_ 11 51 (fa 15 3839) HT_ ?_
              refine tS_ 8 48 (fa 15 4095) HT_ HW_ hHeld ?_
              refine tS_ 12 52 (fa 15 8191) HT_ HW_ hHeld ?_
              refine one_ (i := 13) (N := some 53) #[true, true, true, true, true, true, true, true, true, true, true, true, true, true, false] rfl rfl (one_of HT_.out (by kernel_rfl)) (by decide) (fun K hK => ?_)
              refine goes_ Try.func119 (by kernel_rfl) rfl #[.agg #[.int .i64 ((rd_T31 x5_2 x7_3).f0), .bool ((rd_T31 x5_2 x7_3).f1), .int .i64 ((rd_T31 x5_2 x7_3).f2), .string ((rd_T31 x5_2 x7_3).f3), .string ((rd_T31 x5_2 x7_3).f4.f0), .string ((rd_T31 x5_2 x7_3).f4.f1), .slice A181_6 ((rd_T31 x5_2 x7_3).f5).length c181_6], .agg #[.int .i64 ((rd_T31 l0 x6_2).f0), .bool ((rd_T31 l0 x6_2).f1), .int .i64 ((rd_T31 l0 x6_2).f2), .string ((rd_T31 l0 x6_2).f3), .string ((rd_T31 l0 x6_2).f4.f0), .string ((rd_T31 l0 x6_2).f4.f1), .slice A182_6 ((rd_T31 l0 x6_2).f5).length c182_6]] (by rfl) rfl rfl gm_ ?_
              with_reducible refine (chancelref3_Less.calls k3 ((rd_T31 x5_2 x7_3).f0) ((rd_T31 x5_2 x7_3).f1) ((rd_T31 x5_2 x7_3).f2) ((rd_T31 x5_2 x7_3).f3) ((rd_T31 x5_2 x7_3).f4.f0) ((rd_T31 x5_2 x7_3).f4.f1) _ _ ((rd_T31 x5_2 x7_3).f5) ((rd_T31 l0 x6_2).f0) ((rd_T31 l0 x6_2).f1) ((rd_T31 l0 x6_2).f2) ((rd_T31 l0 x6_2).f3) ((rd_T31 l0 x6_2).f4.f0) ((rd_T31 l0 x6_2).f4.f1) _ _ ((rd_T31 l0 x6_2).f5) true _ ?side1 ?side2 ?side3 ?side4 A18.out).mono ?_
              (case side1 => exact kD HR181_6)
              (case side2 => exact HC181_6.out)
              (case side3 => exact kD HR182_6)
              (case side4 => exact HC182_6.out)
              rintro e w22 ⟨rfl, hb⟩
              have HS0_ := (hbc hb (hHeld.1) :)
              have HS1_ := (hbc hb (hHeld.2.1) :)
              have HS2_ := (hbc hb (hHeld.2.2.1) :)
              have HS3_ := (hbc hb (hHeld.2.2.2.1) :)
              have HS4_ := (hbc hb (hHeld.2.2.2.2.1) :)
              have HS5_ := (hbc hb (hHeld.2.2.2.2.2.1) :)
              have HS6_ := (hbc hb (hHeld.2.2.2.2.2.2.1) :)
              have HS7_ := (hbc hb (hHeld.2.2.2.2.2.2.2.1) :)
              have HS8_ := (hbc hb (hHeld.2.2.2.2.2.2.2.2.1) :)
              have HS9_ := (hbc hb (hHeld.2.2.2.2.2.2.2.2.2.1) :)
              have HS10_ := (hbc hb (hHeld.2.2.2.2.2.2.2.2.2.2.1) :)
              have HS11_ := (hbc hb (hHeld.2.2.2.2.2.2.2.2.2.2.2.1) :)
              have HS12_ := (hbc hb (hHeld.2.2.2.2.2.2.2.2.2.2.2.2.1) :)
              have HS13_ := (hbc hb (hHeld.2.2.2.2.2.2.2.2.2.2.2.2.2) :)
              refine ⟨_, rfl, ?_⟩
              replace HO_0 := aZ_ (Kd.V_below (kV HO_0) hb)
              replace HO_5 := aZ_ (Kd.N_below (kN HO_5) hb)
              replace HL181_6 := aZ_ (Kd.V_below (kV HL181_6) hb)
              replace HL182_6 := aZ_ (Kd.V_below (kV HL182_6) hb)
              replace BK177 := aZ_ (blk_below (g := gb177) (o := .cells #[.int .i64 x178000_1, .bool x178001_1, .int .i64 x178002_1, .string x178003_1, .string x178004_1, .string x178005_1, .slice none 0 0] 31 (0, 0)) (bk BK177) hb)
              replace HR181_6 := aZ_ (Kd.C_below (kD HR181_6) hb)
              replace HR182_6 := aZ_ (Kd.C_below (kD HR182_6) hb)
              replace HB := aZ_ (below_step (bl1 HB GE177) hb)
              (try clear hb)
              (try clear hb2)
              (try clear hk)
              (try clear hi)
              refine hK.out _ _ ⟨HS0_, HS1_, HS2_, HS3_, HS4_, HS5_, HS6_, HS7_, HS8_, HS9_, HS10_, HS11_, HS12_, HS13_⟩ (fun hHeld => ?_)
              clear hK K
              refine norm_ (a' := ?_) ?_ ?_
              rotate_left
              ·
               show Act.put _ (some 53) _ = _
               simp only [Act.put, List.setIfInBounds_toArray, List.set_cons_zero, List.set_cons_succ, i64_w, i32_w]
               rfl
              refine pS_ 14 54 (fa 15 32767) HT_ ?_
              refine done_ (done_of HT_.out (by kernel_rfl)) ?_
              try go_wp2
              go_roundg k3
              case measure => have := HK1.out; have := HK2.out; have := HK3.out; omega
              case rel => exact ⟨(wrap64 (x7_3 + 1)), rf_, H', ⟨by have := HK1.out; have := HK2.out; have := HK3.out; omega⟩, ⟨kV HO_0⟩, ⟨kN HO_5⟩, ⟨bk BK177⟩, ⟨bl1 HB GE177⟩⟩
             ·
              replace c19 := Bool.eq_false_iff.mpr c19
              subst c19
              have H1 : ((chancelref3_Same.f k3 ((rd_T31 x5_2 x7_3).f0) ((rd_T31 x5_2 x7_3).f1) ((rd_T31 x5_2 x7_3).f2) ((rd_T31 x5_2 x7_3).f3) ((rd_T31 x5_2 x7_3).f4.f0) ((rd_T31 x5_2 x7_3).f4.f1) ((rd_T31 x5_2 x7_3).f5) ((rd_T31 l0 x6_2).f0) ((rd_T31 l0 x6_2).f1) ((rd_T31 l0 x6_2).f2) ((rd_T31 l0 x6_2).f3) ((rd_T31 l0 x6_2).f4.f0) ((rd_T31 l0 x6_2).f4.f1) ((rd_T31 l0 x6_2).f5)).bind fun t186 => (if t186 = true then (chancelref3_Set.l1 k3 l0 x5_2 (wrap64 (x6_2 + 1))) else (if x7_3 ≤ (x5_2.length : Int) then ((some (x5_2.take (x7_3 : Int).toNat : List (S31))).bind fun y187 => (if ([] : List (S31)).length + y187.length < 1466015503701 then ((some (([] : List (S31)) ++ y187 : List (S31))).bind fun y192 => (if y192.length < 1466015503701 then ((some (y192 ++ [(⟨(rd_T31 l0 x6_2).f0, (rd_T31 l0 x6_2).f1, (rd_T31 l0 x6_2).f2, (rd_T31 l0 x6_2).f3, (⟨(rd_T31 l0 x6_2).f4.f0, (rd_T31 l0 x6_2).f4.f1⟩ : S28), (rd_T31 l0 x6_2).f5⟩ : S31)] : List (S31))).bind fun y196 => ((some (x5_2.drop (x7_3 : Int).toNat : List (S31))).bind fun y199 => (if y196.length + y199.length < 1466015503701 then (chancelref3_Set.l1 k3 l0 (y196 ++ y199) (wrap64 (x6_2 + 1))) else (none)))) else (none))) else (none))) else (none)))) = some (r1, r2, r3, r4, r5, r6, r7, r8) := by rw [if_neg (show ¬ (false = true) by decide)] at H; exact H
              clear H
              have H := H1
              clear H1
              replace H := Option.bind_eq_some_iff.mp H
              obtain ⟨t186, A230, H⟩ := H
              replace H : (if t186 = true then (chancelref3_Set.l1 k3 l0 x5_2 (wrap64 (x6_2 + 1))) else (if x7_3 ≤ (x5_2.length : Int) then ((some (x5_2.take (x7_3 : Int).toNat : List (S31))).bind fun y187 => (if ([] : List (S31)).length + y187.length < 1466015503701 then ((some (([] : List (S31)) ++ y187 : List (S31))).bind fun y192 => (if y192.length < 1466015503701 then ((some (y192 ++ [(⟨(rd_T31 l0 x6_2).f0, (rd_T31 l0 x6_2).f1, (rd_T31 l0 x6_2).f2, (rd_T31 l0 x6_2).f3, (⟨(rd_T31 l0 x6_2).f4.f0, (rd_T31 l0 x6_2).f4.f1⟩ : S28), (rd_T31 l0 x6_2).f5⟩ : S31)] : List (S31))).bind fun y196 => ((some (x5_2.drop (x7_3 : Int).toNat : List (S31))).bind fun y199 => (if y196.length + y199.length < 1466015503701 then (chancelref3_Set.l1 k3 l0 (y196 ++ y199) (wrap64 (x6_2 + 1))) else (none)))) else (none))) else (none))) else (none))) = some (r1, r2, r3, r4, r5, r6, r7, r8) := H
              have A23 := aZ_ A230
              clear A230
              by_cases c24 : t186 = true
              ·
               subst c24
               have H1 : (chancelref3_Set.l1 k3 l0 x5_2 (wrap64 (x6_2 + 1))) = some (r1, r2, r3, r4, r5, r6, r7, r8) := by rw [if_pos rfl] at H; exact H
               clear H
               have H := H1
               clear H1
               have H' := aZ_ H
               clear H
               try go_wp2
               replace HO_0 := aZ_ (Kd.V_drew HO_0.out)
               replace HO_5 := aZ_ (Kd.N_drew HO_5.out)
               replace BK177 := aZ_ (blk_drew BK177.out)
               replace HB := aZ_ (below_drew1 HB.out)
               obtain ⟨Ao26, co26, eo26⟩ := Kd.N_slice HO_5.out
               (first | subst eo26 | (injection eo26 with f1_ f2_ f3_; have f4_ := f1_.symm; have f5_ := f3_.symm; clear f1_ f2_ f3_; subst f4_; subst f5_))
               have p181 : 0 ≤ (x7_3 : Int) := of_decide_eq_true asm_
               have q181 : x7_3 < (x5_2.length : Int) := of_decide_eq_true asm_
               obtain ⟨ad181, A181_6, c181_6, e181, hx181_0, hx181_1, hx181_2, hx181_3, hx181_4, hx181_5, hx181_6, hl181_6, hi181_6⟩ := at_T31 (Kd.N_reads' HO_5.out).2.2 x7_3 p181 q181
               cases e181
               obtain ⟨ce181, hce181, hMe181, hcc181⟩ := Kd.N_get HO_5.out z31 x7_3 p181 (by first | exact q181 | exact of_decide_eq_true asm_ | (have e_ := (Kd.N_reads' HO_5.out).1; omega))
               obtain ⟨ua181_6, uc181_6, rfl, ul181_6, ge181_6⟩ := k31_openF hMe181
               have hv181_6 := hcc181 6 _ rfl
               rw [add_field _ _ 6 (by omega)] at hv181_6
               replace hv181_6 := Option.some.inj (hv181_6.symm.trans hx181_6)
               injection hv181_6 with hva_ hvn_ hvc_
               rw [hva_] at ge181_6
               rw [hvc_] at ul181_6
               have HL181_6 := aZ_ (show Kd.V k31 31 _ w.heap.size _ _ ((rd_T31 x5_2 x7_3).f5) from Kd.V_mk ul181_6 ge181_6)
               clear hva_ hvn_ hvc_ ge181_6 ul181_6
               clear hcc181 hce181
               have HR181_6 := aZ_ hi181_6
               have HC181_6 := aZ_ hl181_6
               clear hi181_6 hl181_6
               replace p181 := eq_true p181
               replace q181 := eq_true q181
               have p182 : 0 ≤ (x6_2 : Int) := of_decide_eq_true asm_
               have q182 : x6_2 < (l0.length : Int) := of_decide_eq_true asm_
               obtain ⟨ad182, A182_6, c182_6, e182, hx182_0, hx182_1, hx182_2, hx182_3, hx182_4, hx182_5, hx182_6, hl182_6, hi182_6⟩ := at_T31 (Kd.V_reads' HO_0.out).2.2 x6_2 p182 q182
               cases e182
               obtain ⟨ce182, hce182, hMe182, hcc182⟩ := Kd.V_get HO_0.out z31 x6_2 p182 (by first | exact q182 | exact of_decide_eq_true asm_ | (have e_ := (Kd.V_reads' HO_0.out).1; omega))
               obtain ⟨ua182_6, uc182_6, rfl, ul182_6, ge182_6⟩ := k31_openF hMe182
               have hv182_6 := hcc182 6 _ rfl
               rw [add_field _ _ 6 (by omega)] at hv182_6
               replace hv182_6 := Option.some.inj (hv182_6.symm.trans hx182_6)
               injection hv182_6 with hva_ hvn_ hvc_
               rw [hva_] at ge182_6
               rw [hvc_] at ul182_6
               have HL182_6 := aZ_ (show Kd.V k31 31 _ w.heap.size _ _ ((rd_T31 l0 x6_2).f5) from Kd.V_mk ul182_6 ge182_6)
               clear hva_ hvn_ hvc_ ge182_6 ul182_6
               clear hcc182 hce182
               have HR182_6 := aZ_ hi182_6
               have HC182_6 := aZ_ hl182_6
               clear hi182_6 hl182_6
               replace p182 := eq_true p182
               replace q182 := eq_true q182
               refine start_ (n := 15) (S := fun w' => w'.cell? (ad181.add ((x7_3).toNat * 7)) = some (.int .i64 ((rd_T31 x5_2 x7_3).f0)) ∧ w'.cell? ⟨(ad181.add ((x7_3).toNat * 7)).block, (ad181.add ((x7_3).toNat * 7)).off + 1, none⟩ = some (.bool ((rd_T31 x5_2 x7_3).f1)) ∧ w'.cell? ⟨(ad181.add ((x7_3).toNat * 7)).block, (ad181.add ((x7_3).toNat * 7)).off + 2, none⟩ = some (.int .i64 ((rd_T31 x5_2 x7_3).f2)) ∧ w'.cell? ⟨(ad181.add ((x7_3).toNat * 7)).block, (ad181.add ((x7_3).toNat * 7)).off + 3, none⟩ = some (.string ((rd_T31 x5_2 x7_3).f3)) ∧ w'.cell? ⟨(ad181.add ((x7_3).toNat * 7)).block, (ad181.add ((x7_3).toNat * 7)).off + 4, none⟩ = some (.string ((rd_T31 x5_2 x7_3).f4.f0)) ∧ w'.cell? ⟨(ad181.add ((x7_3).toNat * 7)).block, (ad181.add ((x7_3).toNat * 7)).off + 5, none⟩ = some (.string ((rd_T31 x5_2 x7_3).f4.f1)) ∧ w'.cell? ⟨(ad181.add ((x7_3).toNat * 7)).block, (ad181.add ((x7_3).toNat * 7)).off + 6, none⟩ = some (.slice A181_6 ((rd_T31 x5_2 x7_3).f5).length c181_6) ∧ w'.cell? (ad182.add ((x6_2).toNat * 7)) = some (.int .i64 ((rd_T31 l0 x6_2).f0)) ∧ w'.cell? ⟨(ad182.add ((x6_2).toNat * 7)).block, (ad182.add ((x6_2).toNat * 7)).off + 1, none⟩ = some (.bool ((rd_T31 l0 x6_2).f1)) ∧ w'.cell? ⟨(ad182.add ((x6_2).toNat * 7)).block, (ad182.add ((x6_2).toNat * 7)).off + 2, none⟩ = some (.int .i64 ((rd_T31 l0 x6_2).f2)) ∧ w'.cell? ⟨(ad182.add ((x6_2).toNat * 7)).block, (ad182.add ((x6_2).toNat * 7)).off + 3, none⟩ = some (.string ((rd_T31 l0 x6_2).f3)) ∧ w'.cell? ⟨(ad182.add ((x6_2).toNat * 7)).block, (ad182.add ((x6_2).toNat * 7)).off + 4, none⟩ = some (.string ((rd_T31 l0 x6_2).f4.f0)) ∧ w'.cell? ⟨(ad182.add ((x6_2).toNat * 7)).block, (ad182.add ((x6_2).toNat * 7)).off + 5, none⟩ = some (.string ((rd_T31 l0 x6_2).f4.f1)) ∧ w'.cell? ⟨(ad182.add ((x6_2).toNat * 7)).block, (ad182.add ((x6_2).toNat * 7)).off + 6, none⟩ = some (.slice A182_6 ((rd_T31 l0 x6_2).f5).length c182_6)) (ds := []) #[false, false, false, false, false, false, false, false, false, false, false, false, false, false, false] (by kernel_rfl) rfl rfl ⟨hx181_0, hx181_1, hx181_2, hx181_3, hx181_4, hx181_5, hx181_6, hx182_0, hx182_1, hx182_2, hx182_3, hx182_4, hx182_5, hx182_6⟩ (fun hHeld => ?_); refine with_tabW chancelref3_Set.tab11 chancelref3_Set.bits11 (fun HT_ HW_ => ?_)
               generalize wr.drew = w25 at HO_0 HO_5 BK177 HB HL181_6 HL182_6 HR181_6 HR182_6 hx181_0 hx181_1 hx181_2 hx181_3 hx181_4 hx181_5 hx181_6 hx182_0 hx182_1 hx182_2 hx182_3 hx182_4 hx182_5 hx182_6 hHeld ⊢
               refine pS_ 0 40 (fa 15 1) HT_ ?_
               refine pS_ 1 41 (fa 15 3) HT_ ?_
               refine pS_ 2 42 (fa 15 7) HT_ ?_
               refine pS_ 3 43 (fa 15 15) HT_ ?_
               refine pS_ 4 44 (fa 15 31) HT_ ?_
               refine pS_ 5 45 (fa 15 63) HT_ ?_
               refine pS_ 6 46 (fa 15 127) HT_ ?_
               refine pS_ 7 47 (fa 15 255) HT_ ?_
               refine pS_ 9 49 (fa 15 767) HT_ ?_
               refine pS_ 10 50 (fa 15 1791) HT_ ?_
               refine pS_ 11 51 (fa 15 3839) HT_ ?_
               refine tS_ 8 48 (fa 15 4095) HT_ HW_ hHeld ?_
               refine tS_ 12 52 (fa 15 8191) HT_ HW_ hHeld ?_
               refine one_ (i := 13) (N := some 53) #[true, true, true, true, true, true, true, true, true, true, true, true, true, true, false] rfl rfl (one_of HT_.out (by kernel_rfl)) (by decide) (fun K hK => ?_)
               refine goes_ Try.func119 (by kernel_rfl) rfl #[.agg #[.int .i64 ((rd_T31 x5_2 x7_3).f0), .bool ((rd_T31 x5_2 x7_3).f1), .int .i64 ((rd_T31 x5_2 x7_3).f2), .string ((rd_T31 x5_2 x7_3).f3), .string ((rd_T31 x5_2 x7_3).f4.f0), .string ((rd_T31 x5_2 x7_3).f4.f1), .slice A181_6 ((rd_T31 x5_2 x7_3).f5).length c181_6], .agg #[.int .i64 ((rd_T31 l0 x6_2).f0), .bool ((rd_T31 l0 x6_2).f1), .int .i64 ((rd_T31 l0 x6_2).f2), .string ((rd_T31 l0 x6_2).f3), .string ((rd_T31 l0 x6_2).f4.f0), .string ((rd_T31 l0 x6_2).f4.f1), .slice A182_6 ((rd_T31 l0 x6_2).f5).length c182_6]] (by rfl) rfl rfl gm_ ?_
               with_reducible refine (chancelref3_Less.calls k3 ((rd_T31 x5_2 x7_3).f0) ((rd_T31 x5_2 x7_3).f1) ((rd_T31 x5_2 x7_3).f2) ((rd_T31 x5_2 x7_3).f3) ((rd_T31 x5_2 x7_3).f4.f0) ((rd_T31 x5_2 x7_3).f4.f1) _ _ ((rd_T31 x5_2 x7_3).f5) ((rd_T31 l0 x6_2).f0) ((rd_T31 l0 x6_2).f1) ((rd_T31 l0 x6_2).f2) ((rd_T31 l0 x6_2).f3) ((rd_T31 l0 x6_2).f4.f0) ((rd_T31 l0 x6_2).f4.f1) _ _ ((rd_T31 l0 x6_2).f5) false _ ?side1 ?side2 ?side3 ?side4 A18.out).mono ?_
               (case side1 => exact kD HR181_6)
               (case side2 => exact HC181_6.out)
               (case side3 => exact kD HR182_6)
               (case side4 => exact HC182_6.out)
               rintro e w27 ⟨rfl, hb⟩
               have HS0_ := (hbc hb (hHeld.1) :)
               have HS1_ := (hbc hb (hHeld.2.1) :)
               have HS2_ := (hbc hb (hHeld.2.2.1) :)
               have HS3_ := (hbc hb (hHeld.2.2.2.1) :)
               have HS4_ := (hbc hb (hHeld.2.2.2.2.1) :)
               have HS5_ := (hbc hb (hHeld.2.2.2.2.2.1) :)
               have HS6_ := (hbc hb (hHeld.2.2.2.2.2.2.1) :)
               have HS7_ := (hbc hb (hHeld.2.2.2.2.2.2.2.1) :)
               have HS8_ := (hbc hb (hHeld.2.2.2.2.2.2.2.2.1) :)
               have HS9_ := (hbc hb (hHeld.2.2.2.2.2.2.2.2.2.1) :)
               have HS10_ := (hbc hb (hHeld.2.2.2.2.2.2.2.2.2.2.1) :)
               have HS11_ := (hbc hb (hHeld.2.2.2.2.2.2.2.2.2.2.2.1) :)
               have HS12_ := (hbc hb (hHeld.2.2.2.2.2.2.2.2.2.2.2.2.1) :)
               have HS13_ := (hbc hb (hHeld.2.2.2.2.2.2.2.2.2.2.2.2.2) :)
               refine ⟨_, rfl, ?_⟩
               replace HO_0 := aZ_ (Kd.V_below (kV HO_0) hb)
               replace HO_5 := aZ_ (Kd.N_below (kN HO_5) hb)
               replace HL181_6 := aZ_ (Kd.V_below (kV HL181_6) hb)
               replace HL182_6 := aZ_ (Kd.V_below (kV HL182_6) hb)
               replace BK177 := aZ_ (blk_below (g := gb177) (o := .cells #[.int .i64 x178000_1, .bool x178001_1, .int .i64 x178002_1, .string x178003_1, .string x178004_1, .string x178005_1, .slice none 0 0] 31 (0, 0)) (bk BK177) hb)
               replace HR181_6 := aZ_ (Kd.C_below (kD HR181_6) hb)
               replace HR182_6 := aZ_ (Kd.C_below (kD HR182_6) hb)
               replace HB := aZ_ (below_step (bl1 HB GE177) hb)
               (try clear hb)
               (try clear hb2)
               (try clear hk)
               (try clear hi)
               refine hK.out _ _ ⟨HS0_, HS1_, HS2_, HS3_, HS4_, HS5_, HS6_, HS7_, HS8_, HS9_, HS10_, HS11_, HS12_, HS13_⟩ (fun hHeld => ?_)
               clear hK K
               refine norm_ (a' := ?_) ?_ ?_
               rotate_left
               ·
                show Act.put _ (some 53) _ = _
                simp only [Act.put, List.setIfInBounds_toArray, List.set_cons_zero, List.set_cons_succ, i64_w, i32_w]
                rfl
               refine pS_ 14 54 (fa 15 32767) HT_ ?_
               refine done_ (done_of HT_.out (by kernel_rfl)) ?_
               try go_wp2
               replace HO_0 := aZ_ (Kd.V_drew HO_0.out)
               replace HO_5 := aZ_ (Kd.N_drew HO_5.out)
               replace HL181_6 := aZ_ (Kd.V_drew HL181_6.out)
               replace HL182_6 := aZ_ (Kd.V_drew HL182_6.out)
               replace BK177 := aZ_ (blk_drew BK177.out)
               replace HR181_6 := aZ_ (Kd.C_drew HR181_6.out)
               replace HR182_6 := aZ_ (Kd.C_drew HR182_6.out)
               replace HB := aZ_ (below_drew1 HB.out)
               have p184 : 0 ≤ (x7_3 : Int) := of_decide_eq_true asm_
               have q184 : x7_3 < (x5_2.length : Int) := of_decide_eq_true asm_
               obtain ⟨ad184, A184_6, c184_6, e184, hx184_0, hx184_1, hx184_2, hx184_3, hx184_4, hx184_5, hx184_6, hl184_6, hi184_6⟩ := at_T31 (Kd.N_reads' HO_5.out).2.2 x7_3 p184 q184
               obtain rfl : ad181 = ad184 := (by injection e184)
               obtain ⟨ce184, hce184, hMe184, hcc184⟩ := Kd.N_get HO_5.out z31 x7_3 p184 (by first | exact q184 | exact of_decide_eq_true asm_ | (have e_ := (Kd.N_reads' HO_5.out).1; omega))
               obtain ⟨ua184_6, uc184_6, rfl, ul184_6, ge184_6⟩ := k31_openF hMe184
               have hv184_6 := hcc184 6 _ rfl
               rw [add_field _ _ 6 (by omega)] at hv184_6
               replace hv184_6 := Option.some.inj (hv184_6.symm.trans hx184_6)
               injection hv184_6 with hva_ hvn_ hvc_
               rw [hva_] at ge184_6
               rw [hvc_] at ul184_6
               have HL184_6 := aZ_ (show Kd.V k31 31 _ w.heap.size _ _ ((rd_T31 x5_2 x7_3).f5) from Kd.V_mk ul184_6 ge184_6)
               clear hva_ hvn_ hvc_ ge184_6 ul184_6
               clear hcc184 hce184
               have HR184_6 := aZ_ hi184_6
               have HC184_6 := aZ_ hl184_6
               clear hi184_6 hl184_6
               replace p184 := eq_true p184
               replace q184 := eq_true q184
               have p185 : 0 ≤ (x6_2 : Int) := of_decide_eq_true asm_
               have q185 : x6_2 < (l0.length : Int) := of_decide_eq_true asm_
               obtain ⟨ad185, A185_6, c185_6, e185, hx185_0, hx185_1, hx185_2, hx185_3, hx185_4, hx185_5, hx185_6, hl185_6, hi185_6⟩ := at_T31 (Kd.V_reads' HO_0.out).2.2 x6_2 p185 q185
               obtain rfl : ad182 = ad185 := (by injection e185)
               obtain ⟨ce185, hce185, hMe185, hcc185⟩ := Kd.V_get HO_0.out z31 x6_2 p185 (by first | exact q185 | exact of_decide_eq_true asm_ | (have e_ := (Kd.V_reads' HO_0.out).1; omega))
               obtain ⟨ua185_6, uc185_6, rfl, ul185_6, ge185_6⟩ := k31_openF hMe185
               have hv185_6 := hcc185 6 _ rfl
               rw [add_field _ _ 6 (by omega)] at hv185_6
               replace hv185_6 := Option.some.inj (hv185_6.symm.trans hx185_6)
               injection hv185_6 with hva_ hvn_ hvc_
               rw [hva_] at ge185_6
               rw [hvc_] at ul185_6
               have HL185_6 := aZ_ (show Kd.V k31 31 _ w.heap.size _ _ ((rd_T31 l0 x6_2).f5) from Kd.V_mk ul185_6 ge185_6)
               clear hva_ hvn_ hvc_ ge185_6 ul185_6
               clear hcc185 hce185
               have HR185_6 := aZ_ hi185_6
               have HC185_6 := aZ_ hl185_6
               clear hi185_6 hl185_6
               replace p185 := eq_true p185
               replace q185 := eq_true q185
               refine start_ (n := 15) (S := fun w' => w'.cell? (ad181.add ((x7_3).toNat * 7)) = some (.int .i64 ((rd_T31 x5_2 x7_3).f0)) ∧ w'.cell? ⟨(ad181.add ((x7_3).toNat * 7)).block, (ad181.add ((x7_3).toNat * 7)).off + 1, none⟩ = some (.bool ((rd_T31 x5_2 x7_3).f1)) ∧ w'.cell? ⟨(ad181.add ((x7_3).toNat * 7)).block, (ad181.add ((x7_3).toNat * 7)).off + 2, none⟩ = some (.int .i64 ((rd_T31 x5_2 x7_3).f2)) ∧ w'.cell? ⟨(ad181.add ((x7_3).toNat * 7)).block, (ad181.add ((x7_3).toNat * 7)).off + 3, none⟩ = some (.string ((rd_T31 x5_2 x7_3).f3)) ∧ w'.cell? ⟨(ad181.add ((x7_3).toNat * 7)).block, (ad181.add ((x7_3).toNat * 7)).off + 4, none⟩ = some (.string ((rd_T31 x5_2 x7_3).f4.f0)) ∧ w'.cell? ⟨(ad181.add ((x7_3).toNat * 7)).block, (ad181.add ((x7_3).toNat * 7)).off + 5, none⟩ = some (.string ((rd_T31 x5_2 x7_3).f4.f1)) ∧ w'.cell? ⟨(ad181.add ((x7_3).toNat * 7)).block, (ad181.add ((x7_3).toNat * 7)).off + 6, none⟩ = some (.slice A184_6 ((rd_T31 x5_2 x7_3).f5).length c184_6) ∧ w'.cell? (ad182.add ((x6_2).toNat * 7)) = some (.int .i64 ((rd_T31 l0 x6_2).f0)) ∧ w'.cell? ⟨(ad182.add ((x6_2).toNat * 7)).block, (ad182.add ((x6_2).toNat * 7)).off + 1, none⟩ = some (.bool ((rd_T31 l0 x6_2).f1)) ∧ w'.cell? ⟨(ad182.add ((x6_2).toNat * 7)).block, (ad182.add ((x6_2).toNat * 7)).off + 2, none⟩ = some (.int .i64 ((rd_T31 l0 x6_2).f2)) ∧ w'.cell? ⟨(ad182.add ((x6_2).toNat * 7)).block, (ad182.add ((x6_2).toNat * 7)).off + 3, none⟩ = some (.string ((rd_T31 l0 x6_2).f3)) ∧ w'.cell? ⟨(ad182.add ((x6_2).toNat * 7)).block, (ad182.add ((x6_2).toNat * 7)).off + 4, none⟩ = some (.string ((rd_T31 l0 x6_2).f4.f0)) ∧ w'.cell? ⟨(ad182.add ((x6_2).toNat * 7)).block, (ad182.add ((x6_2).toNat * 7)).off + 5, none⟩ = some (.string ((rd_T31 l0 x6_2).f4.f1)) ∧ w'.cell? ⟨(ad182.add ((x6_2).toNat * 7)).block, (ad182.add ((x6_2).toNat * 7)).off + 6, none⟩ = some (.slice A185_6 ((rd_T31 l0 x6_2).f5).length c185_6)) (ds := []) #[false, false, false, false, false, false, false, false, false, false, false, false, false, false, false] (by kernel_rfl) rfl rfl ⟨hx184_0, hx184_1, hx184_2, hx184_3, hx184_4, hx184_5, hx184_6, hx185_0, hx185_1, hx185_2, hx185_3, hx185_4, hx185_5, hx185_6⟩ (fun hHeld => ?_); refine with_tabW chancelref3_Set.tab13 chancelref3_Set.bits13 (fun HT_ HW_ => ?_)
               generalize w27.drew = w28 at HO_0 HO_5 HL181_6 HL182_6 BK177 HR181_6 HR182_6 HB HL184_6 HL185_6 HR184_6 HR185_6 hx184_0 hx184_1 hx184_2 hx184_3 hx184_4 hx184_5 hx184_6 hx185_0 hx185_1 hx185_2 hx185_3 hx185_4 hx185_5 hx185_6 hHeld ⊢
               refine pS_ 0 57 (fa 15 1) HT_ ?_
               refine pS_ 1 58 (fa 15 3) HT_ ?_
               refine pS_ 2 59 (fa 15 7) HT_ ?_
               refine pS_ 3 60 (fa 15 15) HT_ ?_
               refine pS_ 4 61 (fa 15 31) HT_ ?_
               refine pS_ 5 62 (fa 15 63) HT_ ?_
               refine pS_ 6 63 (fa 15 127) HT_ ?_
               refine pS_ 7 64 (fa 15 255) HT_ ?_
               refine pS_ 9 66 (fa 15 767) HT_ ?_
               refine pS_ 10 67 (fa 15 1791) HT_ ?_
               refine pS_ 11 68 (fa 15 3839) HT_ ?_
               refine tS_ 8 65 (fa 15 4095) HT_ HW_ hHeld ?_
               refine tS_ 12 69 (fa 15 8191) HT_ HW_ hHeld ?_
               refine one_ (i := 13) (N := some 70) #[true, true, true, true, true, true, true, true, true, true, true, true, true, true, false] rfl rfl (one_of HT_.out (by kernel_rfl)) (by decide) (fun K hK => ?_)
               refine goes_ Try.func26 (by kernel_rfl) rfl #[.agg #[.int .i64 ((rd_T31 x5_2 x7_3).f0), .bool ((rd_T31 x5_2 x7_3).f1), .int .i64 ((rd_T31 x5_2 x7_3).f2), .string ((rd_T31 x5_2 x7_3).f3), .string ((rd_T31 x5_2 x7_3).f4.f0), .string ((rd_T31 x5_2 x7_3).f4.f1), .slice A184_6 ((rd_T31 x5_2 x7_3).f5).length c184_6], .agg #[.int .i64 ((rd_T31 l0 x6_2).f0), .bool ((rd_T31 l0 x6_2).f1), .int .i64 ((rd_T31 l0 x6_2).f2), .string ((rd_T31 l0 x6_2).f3), .string ((rd_T31 l0 x6_2).f4.f0), .string ((rd_T31 l0 x6_2).f4.f1), .slice A185_6 ((rd_T31 l0 x6_2).f5).length c185_6]] (by rfl) rfl rfl gm_ ?_
               with_reducible refine (chancelref3_Same.calls k3 ((rd_T31 x5_2 x7_3).f0) ((rd_T31 x5_2 x7_3).f1) ((rd_T31 x5_2 x7_3).f2) ((rd_T31 x5_2 x7_3).f3) ((rd_T31 x5_2 x7_3).f4.f0) ((rd_T31 x5_2 x7_3).f4.f1) _ _ ((rd_T31 x5_2 x7_3).f5) ((rd_T31 l0 x6_2).f0) ((rd_T31 l0 x6_2).f1) ((rd_T31 l0 x6_2).f2) ((rd_T31 l0 x6_2).f3) ((rd_T31 l0 x6_2).f4.f0) ((rd_T31 l0 x6_2).f4.f1) _ _ ((rd_T31 l0 x6_2).f5) true _ ?side1 ?side2 ?side3 ?side4 A23.out).mono ?_
               (case side1 => exact kD HR184_6)
               (case side2 => exact HC184_6.out)
               (case side3 => exact kD HR185_6)
               (case side4 => exact HC185_6.out)
               rintro e w29 ⟨rfl, hb⟩
               have HS0_ := (hbc hb (hHeld.1) :)
               have HS1_ := (hbc hb (hHeld.2.1) :)
               have HS2_ := (hbc hb (hHeld.2.2.1) :)
               have HS3_ := (hbc hb (hHeld.2.2.2.1) :)
               have HS4_ := (hbc hb (hHeld.2.2.2.2.1) :)
               have HS5_ := (hbc hb (hHeld.2.2.2.2.2.1) :)
               have HS6_ := (hbc hb (hHeld.2.2.2.2.2.2.1) :)
               have HS7_ := (hbc hb (hHeld.2.2.2.2.2.2.2.1) :)
               have HS8_ := (hbc hb (hHeld.2.2.2.2.2.2.2.2.1) :)
               have HS9_ := (hbc hb (hHeld.2.2.2.2.2.2.2.2.2.1) :)
               have HS10_ := (hbc hb (hHeld.2.2.2.2.2.2.2.2.2.2.1) :)
               have HS11_ := (hbc hb (hHeld.2.2.2.2.2.2.2.2.2.2.2.1) :)
               have HS12_ := (hbc hb (hHeld.2.2.2.2.2.2.2.2.2.2.2.2.1) :)
               have HS13_ := (hbc hb (hHeld.2.2.2.2.2.2.2.2.2.2.2.2.2) :)
               refine ⟨_, rfl, ?_⟩
               replace HO_0 := aZ_ (Kd.V_below (kV HO_0) hb)
               replace HO_5 := aZ_ (Kd.N_below (kN HO_5) hb)
               replace HL181_6 := aZ_ (Kd.V_below (kV HL181_6) hb)
               replace HL182_6 := aZ_ (Kd.V_below (kV HL182_6) hb)
               replace HL184_6 := aZ_ (Kd.V_below (kV HL184_6) hb)
               replace HL185_6 := aZ_ (Kd.V_below (kV HL185_6) hb)
               replace BK177 := aZ_ (blk_below (g := gb177) (o := .cells #[.int .i64 x178000_1, .bool x178001_1, .int .i64 x178002_1, .string x178003_1, .string x178004_1, .string x178005_1, .slice none 0 0] 31 (0, 0)) (bk BK177) hb)
               replace HR181_6 := aZ_ (Kd.C_below (kD HR181_6) hb)
               replace HR182_6 := aZ_ (Kd.C_below (kD HR182_6) hb)
               replace HR184_6 := aZ_ (Kd.C_below (kD HR184_6) hb)
               replace HR185_6 := aZ_ (Kd.C_below (kD HR185_6) hb)
               replace HB := aZ_ (below_step (bl1 HB GE177) hb)
               (try clear hb)
               (try clear hb2)
               (try clear hk)
               (try clear hi)
               refine hK.out _ _ ⟨HS0_, HS1_, HS2_, HS3_, HS4_, HS5_, HS6_, HS7_, HS8_, HS9_, HS10_, HS11_, HS12_, HS13_⟩ (fun hHeld => ?_)
               clear hK K
               refine norm_ (a' := ?_) ?_ ?_
               rotate_left
               ·
                show Act.put _ (some 70) _ = _
                simp only [Act.put, List.setIfInBounds_toArray, List.set_cons_zero, List.set_cons_succ, i64_w, i32_w]
                rfl
               refine pS_ 14 71 (fa 15 32767) HT_ ?_
               refine done_ (done_of HT_.out (by kernel_rfl)) ?_
               try go_wp2
               go_roundg k3
               case measure => have := HK1.out; have := HK2.out; have := HK3.out; omega
               case rel => exact ⟨(x5_2), (wrap64 (x6_2 + 1)), rf_, H', ⟨by have := HK1.out; have := HK2.out; have := HK3.out; omega⟩, ⟨kV HO_0⟩, ⟨kN HO_5⟩, ⟨bk BK177⟩, ⟨bl1 HB GE177⟩⟩
              ·
               replace c24 := Bool.eq_false_iff.mpr c24
               subst c24
               have H1 : (if x7_3 ≤ (x5_2.length : Int) then ((some (x5_2.take (x7_3 : Int).toNat : List (S31))).bind fun y187 => (if ([] : List (S31)).length + y187.length < 1466015503701 then ((some (([] : List (S31)) ++ y187 : List (S31))).bind fun y192 => (if y192.length < 1466015503701 then ((some (y192 ++ [(⟨(rd_T31 l0 x6_2).f0, (rd_T31 l0 x6_2).f1, (rd_T31 l0 x6_2).f2, (rd_T31 l0 x6_2).f3, (⟨(rd_T31 l0 x6_2).f4.f0, (rd_T31 l0 x6_2).f4.f1⟩ : S28), (rd_T31 l0 x6_2).f5⟩ : S31)] : List (S31))).bind fun y196 => ((some (x5_2.drop (x7_3 : Int).toNat : List (S31))).bind fun y199 => (if y196.length + y199.length < 1466015503701 then (chancelref3_Set.l1 k3 l0 (y196 ++ y199) (wrap64 (x6_2 + 1))) else (none)))) else (none))) else (none))) else (none)) = some (r1, r2, r3, r4, r5, r6, r7, r8) := by rw [if_neg (show ¬ (false = true) by decide)] at H; exact H
               clear H
               have H := H1
               clear H1
               have c30b0 := eq_true (of_decide_eq_true asm_ : 0 ≤ x7_3)
               by_cases c31 : x7_3 ≤ (x5_2.length : Int)
               ·
                rw [if_pos c31] at H
                have c31b0 := eq_true c31
                have c31b1 : decide (x7_3 ≤ (x5_2.length : Int)) = true := decide_eq_true c31
                clear c31
                obtain ⟨y187, hy187⟩ : ∃ y_ : List (S31), y_ = (x5_2.take (x7_3 : Int).toNat) := ⟨_, rfl⟩
                replace H : (if ([] : List (S31)).length + y187.length < 1466015503701 then ((some (([] : List (S31)) ++ y187 : List (S31))).bind fun y192 => (if y192.length < 1466015503701 then ((some (y192 ++ [(⟨(rd_T31 l0 x6_2).f0, (rd_T31 l0 x6_2).f1, (rd_T31 l0 x6_2).f2, (rd_T31 l0 x6_2).f3, (⟨(rd_T31 l0 x6_2).f4.f0, (rd_T31 l0 x6_2).f4.f1⟩ : S28), (rd_T31 l0 x6_2).f5⟩ : S31)] : List (S31))).bind fun y196 => ((some (x5_2.drop (x7_3 : Int).toNat : List (S31))).bind fun y199 => (if y196.length + y199.length < 1466015503701 then (chancelref3_Set.l1 k3 l0 (y196 ++ y199) (wrap64 (x6_2 + 1))) else (none)))) else (none))) else (none)) = some (r1, r2, r3, r4, r5, r6, r7, r8) := by first | (rw [hy187]; with_reducible exact H) | (have H2_ := (Option.bind_some _ _).symm.trans H; rw [hy187]; with_reducible exact H2_) | (have H2_ := (Option.bind_some _ _).symm.trans H; with_reducible exact H2_) | with_reducible exact H | (rw [hy187]; exact H) | exact H
                have Ny187 := aZ_ hy187
                clear hy187
                by_cases c32 : ([] : List (S31)).length + y187.length < 1466015503701
                ·
                 rw [if_pos c32] at H
                 have LMc32 := aZ_ c32
                 clear c32
                 obtain ⟨y192, hy192⟩ : ∃ y_ : List (S31), y_ = (([] : List (S31)) ++ y187) := ⟨_, rfl⟩
                 replace H : (if y192.length < 1466015503701 then ((some (y192 ++ [(⟨(rd_T31 l0 x6_2).f0, (rd_T31 l0 x6_2).f1, (rd_T31 l0 x6_2).f2, (rd_T31 l0 x6_2).f3, (⟨(rd_T31 l0 x6_2).f4.f0, (rd_T31 l0 x6_2).f4.f1⟩ : S28), (rd_T31 l0 x6_2).f5⟩ : S31)] : List (S31))).bind fun y196 => ((some (x5_2.drop (x7_3 : Int).toNat : List (S31))).bind fun y199 => (if y196.length + y199.length < 1466015503701 then (chancelref3_Set.l1 k3 l0 (y196 ++ y199) (wrap64 (x6_2 + 1))) else (none)))) else (none)) = some (r1, r2, r3, r4, r5, r6, r7, r8) := by first | (rw [hy192]; with_reducible exact H) | (have H2_ := (Option.bind_some _ _).symm.trans H; rw [hy192]; with_reducible exact H2_) | (have H2_ := (Option.bind_some _ _).symm.trans H; with_reducible exact H2_) | with_reducible exact H | (rw [hy192]; exact H) | exact H
                 have Ny192 := aZ_ hy192
                 clear hy192
                 by_cases c33 : y192.length < 1466015503701
                 ·
                  rw [if_pos c33] at H
                  have LMc33 := aZ_ c33
                  clear c33
                  obtain ⟨y196, hy196⟩ : ∃ y_ : List (S31), y_ = (y192 ++ [(⟨(rd_T31 l0 x6_2).f0, (rd_T31 l0 x6_2).f1, (rd_T31 l0 x6_2).f2, (rd_T31 l0 x6_2).f3, (⟨(rd_T31 l0 x6_2).f4.f0, (rd_T31 l0 x6_2).f4.f1⟩ : S28), (rd_T31 l0 x6_2).f5⟩ : S31)]) := ⟨_, rfl⟩
                  replace H : ((some (x5_2.drop (x7_3 : Int).toNat : List (S31))).bind fun y199 => (if y196.length + y199.length < 1466015503701 then (chancelref3_Set.l1 k3 l0 (y196 ++ y199) (wrap64 (x6_2 + 1))) else (none))) = some (r1, r2, r3, r4, r5, r6, r7, r8) := by first | (rw [hy196]; with_reducible exact H) | (have H2_ := (Option.bind_some _ _).symm.trans H; rw [hy196]; with_reducible exact H2_) | (have H2_ := (Option.bind_some _ _).symm.trans H; with_reducible exact H2_) | with_reducible exact H | (rw [hy196]; exact H) | exact H
                  have Ny196 := aZ_ hy196
                  clear hy196
                  have c34b0 := eq_true (of_decide_eq_true asm_ : 0 ≤ x7_3)
                  have c35b0 := eq_true (of_decide_eq_true asm_ : x7_3 ≤ (x5_2.length : Int))
                  obtain ⟨y199, hy199⟩ : ∃ y_ : List (S31), y_ = (x5_2.drop (x7_3 : Int).toNat) := ⟨_, rfl⟩
                  replace H : (if y196.length + y199.length < 1466015503701 then (chancelref3_Set.l1 k3 l0 (y196 ++ y199) (wrap64 (x6_2 + 1))) else (none)) = some (r1, r2, r3, r4, r5, r6, r7, r8) := by first | (rw [hy199]; with_reducible exact H) | (have H2_ := (Option.bind_some _ _).symm.trans H; rw [hy199]; with_reducible exact H2_) | (have H2_ := (Option.bind_some _ _).symm.trans H; with_reducible exact H2_) | with_reducible exact H | (rw [hy199]; exact H) | exact H
                  have Ny199 := aZ_ hy199
                  clear hy199
                  by_cases c36 : y196.length + y199.length < 1466015503701
                  ·
                   rw [if_pos c36] at H
                   have LMc36 := aZ_ c36
                   clear c36
                   obtain ⟨y204, hy204⟩ : ∃ y_ : List (S31), y_ = (y196 ++ y199) := ⟨_, rfl⟩
                   replace H : (chancelref3_Set.l1 k3 l0 y204 (wrap64 (x6_2 + 1))) = some (r1, r2, r3, r4, r5, r6, r7, r8) := by first | (rw [hy204]; with_reducible exact H) | (have H2_ := (Option.bind_some _ _).symm.trans H; rw [hy204]; with_reducible exact H2_) | (have H2_ := (Option.bind_some _ _).symm.trans H; with_reducible exact H2_) | with_reducible exact H | (rw [hy204]; exact H) | exact H
                   have Ny204 := aZ_ hy204
                   clear hy204
                   have H' := aZ_ H
                   clear H
                   try go_wp2
                   replace HO_0 := aZ_ (Kd.V_drew HO_0.out)
                   replace HO_5 := aZ_ (Kd.N_drew HO_5.out)
                   replace BK177 := aZ_ (blk_drew BK177.out)
                   replace HB := aZ_ (below_drew1 HB.out)
                   obtain ⟨Ao38, co38, eo38⟩ := Kd.N_slice HO_5.out
                   (first | subst eo38 | (injection eo38 with f1_ f2_ f3_; have f4_ := f1_.symm; have f5_ := f3_.symm; clear f1_ f2_ f3_; subst f4_; subst f5_))
                   have p181 : 0 ≤ (x7_3 : Int) := of_decide_eq_true asm_
                   have q181 : x7_3 < (x5_2.length : Int) := of_decide_eq_true asm_
                   obtain ⟨ad181, A181_6, c181_6, e181, hx181_0, hx181_1, hx181_2, hx181_3, hx181_4, hx181_5, hx181_6, hl181_6, hi181_6⟩ := at_T31 (Kd.N_reads' HO_5.out).2.2 x7_3 p181 q181
                   cases e181
                   obtain ⟨ce181, hce181, hMe181, hcc181⟩ := Kd.N_get HO_5.out z31 x7_3 p181 (by first | exact q181 | exact of_decide_eq_true asm_ | (have e_ := (Kd.N_reads' HO_5.out).1; omega))
                   obtain ⟨ua181_6, uc181_6, rfl, ul181_6, ge181_6⟩ := k31_openF hMe181
                   have hv181_6 := hcc181 6 _ rfl
                   rw [add_field _ _ 6 (by omega)] at hv181_6
                   replace hv181_6 := Option.some.inj (hv181_6.symm.trans hx181_6)
                   injection hv181_6 with hva_ hvn_ hvc_
                   rw [hva_] at ge181_6
                   rw [hvc_] at ul181_6
                   have HL181_6 := aZ_ (show Kd.V k31 31 _ w.heap.size _ _ ((rd_T31 x5_2 x7_3).f5) from Kd.V_mk ul181_6 ge181_6)
                   clear hva_ hvn_ hvc_ ge181_6 ul181_6
                   clear hcc181 hce181
                   have HR181_6 := aZ_ hi181_6
                   have HC181_6 := aZ_ hl181_6
                   clear hi181_6 hl181_6
                   replace p181 := eq_true p181
                   replace q181 := eq_true q181
                   have p182 : 0 ≤ (x6_2 : Int) := of_decide_eq_true asm_
                   have q182 : x6_2 < (l0.length : Int) := of_decide_eq_true asm_
                   obtain ⟨ad182, A182_6, c182_6, e182, hx182_0, hx182_1, hx182_2, hx182_3, hx182_4, hx182_5, hx182_6, hl182_6, hi182_6⟩ := at_T31 (Kd.V_reads' HO_0.out).2.2 x6_2 p182 q182
                   cases e182
                   obtain ⟨ce182, hce182, hMe182, hcc182⟩ := Kd.V_get HO_0.out z31 x6_2 p182 (by first | exact q182 | exact of_decide_eq_true asm_ | (have e_ := (Kd.V_reads' HO_0.out).1; omega))
                   obtain ⟨ua182_6, uc182_6, rfl, ul182_6, ge182_6⟩ := k31_openF hMe182
                   have hv182_6 := hcc182 6 _ rfl
                   rw [add_field _ _ 6 (by omega)] at hv182_6
                   replace hv182_6 := Option.some.inj (hv182_6.symm.trans hx182_6)
                   injection hv182_6 with hva_ hvn_ hvc_
                   rw [hva_] at ge182_6
                   rw [hvc_] at ul182_6
                   have HL182_6 := aZ_ (show Kd.V k31 31 _ w.heap.size _ _ ((rd_T31 l0 x6_2).f5) from Kd.V_mk ul182_6 ge182_6)
                   clear hva_ hvn_ hvc_ ge182_6 ul182_6
                   clear hcc182 hce182
                   have HR182_6 := aZ_ hi182_6
                   have HC182_6 := aZ_ hl182_6
                   clear hi182_6 hl182_6
                   replace p182 := eq_true p182
                   replace q182 := eq_true q182
                   refine start_ (n := 15) (S := fun w' => w'.cell? (ad181.add ((x7_3).toNat * 7)) = some (.int .i64 ((rd_T31 x5_2 x7_3).f0)) ∧ w'.cell? ⟨(ad181.add ((x7_3).toNat * 7)).block, (ad181.add ((x7_3).toNat * 7)).off + 1, none⟩ = some (.bool ((rd_T31 x5_2 x7_3).f1)) ∧ w'.cell? ⟨(ad181.add ((x7_3).toNat * 7)).block, (ad181.add ((x7_3).toNat * 7)).off + 2, none⟩ = some (.int .i64 ((rd_T31 x5_2 x7_3).f2)) ∧ w'.cell? ⟨(ad181.add ((x7_3).toNat * 7)).block, (ad181.add ((x7_3).toNat * 7)).off + 3, none⟩ = some (.string ((rd_T31 x5_2 x7_3).f3)) ∧ w'.cell? ⟨(ad181.add ((x7_3).toNat * 7)).block, (ad181.add ((x7_3).toNat * 7)).off + 4, none⟩ = some (.string ((rd_T31 x5_2 x7_3).f4.f0)) ∧ w'.cell? ⟨(ad181.add ((x7_3).toNat * 7)).block, (ad181.add ((x7_3).toNat * 7)).off + 5, none⟩ = some (.string ((rd_T31 x5_2 x7_3).f4.f1)) ∧ w'.cell? ⟨(ad181.add ((x7_3).toNat * 7)).block, (ad181.add ((x7_3).toNat * 7)).off + 6, none⟩ = some (.slice A181_6 ((rd_T31 x5_2 x7_3).f5).length c181_6) ∧ w'.cell? (ad182.add ((x6_2).toNat * 7)) = some (.int .i64 ((rd_T31 l0 x6_2).f0)) ∧ w'.cell? ⟨(ad182.add ((x6_2).toNat * 7)).block, (ad182.add ((x6_2).toNat * 7)).off + 1, none⟩ = some (.bool ((rd_T31 l0 x6_2).f1)) ∧ w'.cell? ⟨(ad182.add ((x6_2).toNat * 7)).block, (ad182.add ((x6_2).toNat * 7)).off + 2, none⟩ = some (.int .i64 ((rd_T31 l0 x6_2).f2)) ∧ w'.cell? ⟨(ad182.add ((x6_2).toNat * 7)).block, (ad182.add ((x6_2).toNat * 7)).off + 3, none⟩ = some (.string ((rd_T31 l0 x6_2).f3)) ∧ w'.cell? ⟨(ad182.add ((x6_2).toNat * 7)).block, (ad182.add ((x6_2).toNat * 7)).off + 4, none⟩ = some (.string ((rd_T31 l0 x6_2).f4.f0)) ∧ w'.cell? ⟨(ad182.add ((x6_2).toNat * 7)).block, (ad182.add ((x6_2).toNat * 7)).off + 5, none⟩ = some (.string ((rd_T31 l0 x6_2).f4.f1)) ∧ w'.cell? ⟨(ad182.add ((x6_2).toNat * 7)).block, (ad182.add ((x6_2).toNat * 7)).off + 6, none⟩ = some (.slice A182_6 ((rd_T31 l0 x6_2).f5).length c182_6)) (ds := []) #[false, false, false, false, false, false, false, false, false, false, false, false, false, false, false] (by kernel_rfl) rfl rfl ⟨hx181_0, hx181_1, hx181_2, hx181_3, hx181_4, hx181_5, hx181_6, hx182_0, hx182_1, hx182_2, hx182_3, hx182_4, hx182_5, hx182_6⟩ (fun hHeld => ?_); refine with_tabW chancelref3_Set.tab11 chancelref3_Set.bits11 (fun HT_ HW_ => ?_)
                   generalize wr.drew = w37 at HO_0 HO_5 BK177 HB HL181_6 HL182_6 HR181_6 HR182_6 hx181_0 hx181_1 hx181_2 hx181_3 hx181_4 hx181_5 hx181_6 hx182_0 hx182_1 hx182_2 hx182_3 hx182_4 hx182_5 hx182_6 hHeld ⊢
                   refine pS_ 0 40 (fa 15 1) HT_ ?_
                   refine pS_ 1 41 (fa 15 3) HT_ ?_
                   refine pS_ 2 42 (fa 15 7) HT_ ?_
                   refine pS_ 3 43 (fa 15 15) HT_ ?_
                   refine pS_ 4 44 (fa 15 31) HT_ ?_
                   refine pS_ 5 45 (fa 15 63) HT_ ?_
                   refine pS_ 6 46 (fa 15 127) HT_ ?_
                   refine pS_ 7 47 (fa 15 255) HT_ ?_
                   refine pS_ 9 49 (fa 15 767) HT_ ?_
                   refine pS_ 10 50 (fa 15 1791) HT_ ?_
                   refine pS_ 11 51 (fa 15 3839) HT_ ?_
                   refine tS_ 8 48 (fa 15 4095) HT_ HW_ hHeld ?_
                   refine tS_ 12 52 (fa 15 8191) HT_ HW_ hHeld ?_
                   refine one_ (i := 13) (N := some 53) #[true, true, true, true, true, true, true, true, true, true, true, true, true, true, false] rfl rfl (one_of HT_.out (by kernel_rfl)) (by decide) (fun K hK => ?_)
                   refine goes_ Try.func119 (by kernel_rfl) rfl #[.agg #[.int .i64 ((rd_T31 x5_2 x7_3).f0), .bool ((rd_T31 x5_2 x7_3).f1), .int .i64 ((rd_T31 x5_2 x7_3).f2), .string ((rd_T31 x5_2 x7_3).f3), .string ((rd_T31 x5_2 x7_3).f4.f0), .string ((rd_T31 x5_2 x7_3).f4.f1), .slice A181_6 ((rd_T31 x5_2 x7_3).f5).length c181_6], .agg #[.int .i64 ((rd_T31 l0 x6_2).f0), .bool ((rd_T31 l0 x6_2).f1), .int .i64 ((rd_T31 l0 x6_2).f2), .string ((rd_T31 l0 x6_2).f3), .string ((rd_T31 l0 x6_2).f4.f0), .string ((rd_T31 l0 x6_2).f4.f1), .slice A182_6 ((rd_T31 l0 x6_2).f5).length c182_6]] (by rfl) rfl rfl gm_ ?_
                   with_reducible refine (chancelref3_Less.calls k3 ((rd_T31 x5_2 x7_3).f0) ((rd_T31 x5_2 x7_3).f1) ((rd_T31 x5_2 x7_3).f2) ((rd_T31 x5_2 x7_3).f3) ((rd_T31 x5_2 x7_3).f4.f0) ((rd_T31 x5_2 x7_3).f4.f1) _ _ ((rd_T31 x5_2 x7_3).f5) ((rd_T31 l0 x6_2).f0) ((rd_T31 l0 x6_2).f1) ((rd_T31 l0 x6_2).f2) ((rd_T31 l0 x6_2).f3) ((rd_T31 l0 x6_2).f4.f0) ((rd_T31 l0 x6_2).f4.f1) _ _ ((rd_T31 l0 x6_2).f5) false _ ?side1 ?side2 ?side3 ?side4 A18.out).mono ?_
                   (case side1 => exact kD HR181_6)
                   (case side2 => exact HC181_6.out)
                   (case side3 => exact kD HR182_6)
                   (case side4 => exact HC182_6.out)
                   rintro e w39 ⟨rfl, hb⟩
                   have HS0_ := (hbc hb (hHeld.1) :)
                   have HS1_ := (hbc hb (hHeld.2.1) :)
                   have HS2_ := (hbc hb (hHeld.2.2.1) :)
                   have HS3_ := (hbc hb (hHeld.2.2.2.1) :)
                   have HS4_ := (hbc hb (hHeld.2.2.2.2.1) :)
                   have HS5_ := (hbc hb (hHeld.2.2.2.2.2.1) :)
                   have HS6_ := (hbc hb (hHeld.2.2.2.2.2.2.1) :)
                   have HS7_ := (hbc hb (hHeld.2.2.2.2.2.2.2.1) :)
                   have HS8_ := (hbc hb (hHeld.2.2.2.2.2.2.2.2.1) :)
                   have HS9_ := (hbc hb (hHeld.2.2.2.2.2.2.2.2.2.1) :)
                   have HS10_ := (hbc hb (hHeld.2.2.2.2.2.2.2.2.2.2.1) :)
                   have HS11_ := (hbc hb (hHeld.2.2.2.2.2.2.2.2.2.2.2.1) :)
                   have HS12_ := (hbc hb (hHeld.2.2.2.2.2.2.2.2.2.2.2.2.1) :)
                   have HS13_ := (hbc hb (hHeld.2.2.2.2.2.2.2.2.2.2.2.2.2) :)
                   refine ⟨_, rfl, ?_⟩
                   replace HO_0 := aZ_ (Kd.V_below (kV HO_0) hb)
                   replace HO_5 := aZ_ (Kd.N_below (kN HO_5) hb)
                   replace HL181_6 := aZ_ (Kd.V_below (kV HL181_6) hb)
                   replace HL182_6 := aZ_ (Kd.V_below (kV HL182_6) hb)
                   replace BK177 := aZ_ (blk_below (g := gb177) (o := .cells #[.int .i64 x178000_1, .bool x178001_1, .int .i64 x178002_1, .string x178003_1, .string x178004_1, .string x178005_1, .slice none 0 0] 31 (0, 0)) (bk BK177) hb)
                   replace HR181_6 := aZ_ (Kd.C_below (kD HR181_6) hb)
                   replace HR182_6 := aZ_ (Kd.C_below (kD HR182_6) hb)
                   replace HB := aZ_ (below_step (bl1 HB GE177) hb)
                   (try clear hb)
                   (try clear hb2)
                   (try clear hk)
                   (try clear hi)
                   refine hK.out _ _ ⟨HS0_, HS1_, HS2_, HS3_, HS4_, HS5_, HS6_, HS7_, HS8_, HS9_, HS10_, HS11_, HS12_, HS13_⟩ (fun hHeld => ?_)
                   clear hK K
                   refine norm_ (a' := ?_) ?_ ?_
                   rotate_left
                   ·
                    show Act.put _ (some 53) _ = _
                    simp only [Act.put, List.setIfInBounds_toArray, List.set_cons_zero, List.set_cons_succ, i64_w, i32_w]
                    rfl
                   refine pS_ 14 54 (fa 15 32767) HT_ ?_
                   refine done_ (done_of HT_.out (by kernel_rfl)) ?_
                   try go_wp2
                   replace HO_0 := aZ_ (Kd.V_drew HO_0.out)
                   replace HO_5 := aZ_ (Kd.N_drew HO_5.out)
                   replace HL181_6 := aZ_ (Kd.V_drew HL181_6.out)
                   replace HL182_6 := aZ_ (Kd.V_drew HL182_6.out)
                   replace BK177 := aZ_ (blk_drew BK177.out)
                   replace HR181_6 := aZ_ (Kd.C_drew HR181_6.out)
                   replace HR182_6 := aZ_ (Kd.C_drew HR182_6.out)
                   replace HB := aZ_ (below_drew1 HB.out)
                   have p184 : 0 ≤ (x7_3 : Int) := of_decide_eq_true asm_
                   have q184 : x7_3 < (x5_2.length : Int) := of_decide_eq_true asm_
                   obtain ⟨ad184, A184_6, c184_6, e184, hx184_0, hx184_1, hx184_2, hx184_3, hx184_4, hx184_5, hx184_6, hl184_6, hi184_6⟩ := at_T31 (Kd.N_reads' HO_5.out).2.2 x7_3 p184 q184
                   obtain rfl : ad181 = ad184 := (by injection e184)
                   obtain ⟨ce184, hce184, hMe184, hcc184⟩ := Kd.N_get HO_5.out z31 x7_3 p184 (by first | exact q184 | exact of_decide_eq_true asm_ | (have e_ := (Kd.N_reads' HO_5.out).1; omega))
                   obtain ⟨ua184_6, uc184_6, rfl, ul184_6, ge184_6⟩ := k31_openF hMe184
                   have hv184_6 := hcc184 6 _ rfl
                   rw [add_field _ _ 6 (by omega)] at hv184_6
                   replace hv184_6 := Option.some.inj (hv184_6.symm.trans hx184_6)
                   injection hv184_6 with hva_ hvn_ hvc_
                   rw [hva_] at ge184_6
                   rw [hvc_] at ul184_6
                   have HL184_6 := aZ_ (show Kd.V k31 31 _ w.heap.size _ _ ((rd_T31 x5_2 x7_3).f5) from Kd.V_mk ul184_6 ge184_6)
                   clear hva_ hvn_ hvc_ ge184_6 ul184_6
                   clear hcc184 hce184
                   have HR184_6 := aZ_ hi184_6
                   have HC184_6 := aZ_ hl184_6
                   clear hi184_6 hl184_6
                   replace p184 := eq_true p184
                   replace q184 := eq_true q184
                   have p185 : 0 ≤ (x6_2 : Int) := of_decide_eq_true asm_
                   have q185 : x6_2 < (l0.length : Int) := of_decide_eq_true asm_
                   obtain ⟨ad185, A185_6, c185_6, e185, hx185_0, hx185_1, hx185_2, hx185_3, hx185_4, hx185_5, hx185_6, hl185_6, hi185_6⟩ := at_T31 (Kd.V_reads' HO_0.out).2.2 x6_2 p185 q185
                   obtain rfl : ad182 = ad185 := (by injection e185)
                   obtain ⟨ce185, hce185, hMe185, hcc185⟩ := Kd.V_get HO_0.out z31 x6_2 p185 (by first | exact q185 | exact of_decide_eq_true asm_ | (have e_ := (Kd.V_reads' HO_0.out).1; omega))
                   obtain ⟨ua185_6, uc185_6, rfl, ul185_6, ge185_6⟩ := k31_openF hMe185
                   have hv185_6 := hcc185 6 _ rfl
                   rw [add_field _ _ 6 (by omega)] at hv185_6
                   replace hv185_6 := Option.some.inj (hv185_6.symm.trans hx185_6)
                   injection hv185_6 with hva_ hvn_ hvc_
                   rw [hva_] at ge185_6
                   rw [hvc_] at ul185_6
                   have HL185_6 := aZ_ (show Kd.V k31 31 _ w.heap.size _ _ ((rd_T31 l0 x6_2).f5) from Kd.V_mk ul185_6 ge185_6)
                   clear hva_ hvn_ hvc_ ge185_6 ul185_6
                   clear hcc185 hce185
                   have HR185_6 := aZ_ hi185_6
                   have HC185_6 := aZ_ hl185_6
                   clear hi185_6 hl185_6
                   replace p185 := eq_true p185
                   replace q185 := eq_true q185
                   refine start_ (n := 15) (S := fun w' => w'.cell? (ad181.add ((x7_3).toNat * 7)) = some (.int .i64 ((rd_T31 x5_2 x7_3).f0)) ∧ w'.cell? ⟨(ad181.add ((x7_3).toNat * 7)).block, (ad181.add ((x7_3).toNat * 7)).off + 1, none⟩ = some (.bool ((rd_T31 x5_2 x7_3).f1)) ∧ w'.cell? ⟨(ad181.add ((x7_3).toNat * 7)).block, (ad181.add ((x7_3).toNat * 7)).off + 2, none⟩ = some (.int .i64 ((rd_T31 x5_2 x7_3).f2)) ∧ w'.cell? ⟨(ad181.add ((x7_3).toNat * 7)).block, (ad181.add ((x7_3).toNat * 7)).off + 3, none⟩ = some (.string ((rd_T31 x5_2 x7_3).f3)) ∧ w'.cell? ⟨(ad181.add ((x7_3).toNat * 7)).block, (ad181.add ((x7_3).toNat * 7)).off + 4, none⟩ = some (.string ((rd_T31 x5_2 x7_3).f4.f0)) ∧ w'.cell? ⟨(ad181.add ((x7_3).toNat * 7)).block, (ad181.add ((x7_3).toNat * 7)).off + 5, none⟩ = some (.string ((rd_T31 x5_2 x7_3).f4.f1)) ∧ w'.cell? ⟨(ad181.add ((x7_3).toNat * 7)).block, (ad181.add ((x7_3).toNat * 7)).off + 6, none⟩ = some (.slice A184_6 ((rd_T31 x5_2 x7_3).f5).length c184_6) ∧ w'.cell? (ad182.add ((x6_2).toNat * 7)) = some (.int .i64 ((rd_T31 l0 x6_2).f0)) ∧ w'.cell? ⟨(ad182.add ((x6_2).toNat * 7)).block, (ad182.add ((x6_2).toNat * 7)).off + 1, none⟩ = some (.bool ((rd_T31 l0 x6_2).f1)) ∧ w'.cell? ⟨(ad182.add ((x6_2).toNat * 7)).block, (ad182.add ((x6_2).toNat * 7)).off + 2, none⟩ = some (.int .i64 ((rd_T31 l0 x6_2).f2)) ∧ w'.cell? ⟨(ad182.add ((x6_2).toNat * 7)).block, (ad182.add ((x6_2).toNat * 7)).off + 3, none⟩ = some (.string ((rd_T31 l0 x6_2).f3)) ∧ w'.cell? ⟨(ad182.add ((x6_2).toNat * 7)).block, (ad182.add ((x6_2).toNat * 7)).off + 4, none⟩ = some (.string ((rd_T31 l0 x6_2).f4.f0)) ∧ w'.cell? ⟨(ad182.add ((x6_2).toNat * 7)).block, (ad182.add ((x6_2).toNat * 7)).off + 5, none⟩ = some (.string ((rd_T31 l0 x6_2).f4.f1)) ∧ w'.cell? ⟨(ad182.add ((x6_2).toNat * 7)).block, (ad182.add ((x6_2).toNat * 7)).off + 6, none⟩ = some (.slice A185_6 ((rd_T31 l0 x6_2).f5).length c185_6)) (ds := []) #[false, false, false, false, false, false, false, false, false, false, false, false, false, false, false] (by kernel_rfl) rfl rfl ⟨hx184_0, hx184_1, hx184_2, hx184_3, hx184_4, hx184_5, hx184_6, hx185_0, hx185_1, hx185_2, hx185_3, hx185_4, hx185_5, hx185_6⟩ (fun hHeld => ?_); refine with_tabW chancelref3_Set.tab13 chancelref3_Set.bits13 (fun HT_ HW_ => ?_)
                   generalize w39.drew = w40 at HO_0 HO_5 HL181_6 HL182_6 BK177 HR181_6 HR182_6 HB HL184_6 HL185_6 HR184_6 HR185_6 hx184_0 hx184_1 hx184_2 hx184_3 hx184_4 hx184_5 hx184_6 hx185_0 hx185_1 hx185_2 hx185_3 hx185_4 hx185_5 hx185_6 hHeld ⊢
                   refine pS_ 0 57 (fa 15 1) HT_ ?_
                   refine pS_ 1 58 (fa 15 3) HT_ ?_
                   refine pS_ 2 59 (fa 15 7) HT_ ?_
                   refine pS_ 3 60 (fa 15 15) HT_ ?_
                   refine pS_ 4 61 (fa 15 31) HT_ ?_
                   refine pS_ 5 62 (fa 15 63) HT_ ?_
                   refine pS_ 6 63 (fa 15 127) HT_ ?_
                   refine pS_ 7 64 (fa 15 255) HT_ ?_
                   refine pS_ 9 66 (fa 15 767) HT_ ?_
                   refine pS_ 10 67 (fa 15 1791) HT_ ?_
                   refine pS_ 11 68 (fa 15 3839) HT_ ?_
                   refine tS_ 8 65 (fa 15 4095) HT_ HW_ hHeld ?_
                   refine tS_ 12 69 (fa 15 8191) HT_ HW_ hHeld ?_
                   refine one_ (i := 13) (N := some 70) #[true, true, true, true, true, true, true, true, true, true, true, true, true, true, false] rfl rfl (one_of HT_.out (by kernel_rfl)) (by decide) (fun K hK => ?_)
                   refine goes_ Try.func26 (by kernel_rfl) rfl #[.agg #[.int .i64 ((rd_T31 x5_2 x7_3).f0), .bool ((rd_T31 x5_2 x7_3).f1), .int .i64 ((rd_T31 x5_2 x7_3).f2), .string ((rd_T31 x5_2 x7_3).f3), .string ((rd_T31 x5_2 x7_3).f4.f0), .string ((rd_T31 x5_2 x7_3).f4.f1), .slice A184_6 ((rd_T31 x5_2 x7_3).f5).length c184_6], .agg #[.int .i64 ((rd_T31 l0 x6_2).f0), .bool ((rd_T31 l0 x6_2).f1), .int .i64 ((rd_T31 l0 x6_2).f2), .string ((rd_T31 l0 x6_2).f3), .string ((rd_T31 l0 x6_2).f4.f0), .string ((rd_T31 l0 x6_2).f4.f1), .slice A185_6 ((rd_T31 l0 x6_2).f5).length c185_6]] (by rfl) rfl rfl gm_ ?_
                   with_reducible refine (chancelref3_Same.calls k3 ((rd_T31 x5_2 x7_3).f0) ((rd_T31 x5_2 x7_3).f1) ((rd_T31 x5_2 x7_3).f2) ((rd_T31 x5_2 x7_3).f3) ((rd_T31 x5_2 x7_3).f4.f0) ((rd_T31 x5_2 x7_3).f4.f1) _ _ ((rd_T31 x5_2 x7_3).f5) ((rd_T31 l0 x6_2).f0) ((rd_T31 l0 x6_2).f1) ((rd_T31 l0 x6_2).f2) ((rd_T31 l0 x6_2).f3) ((rd_T31 l0 x6_2).f4.f0) ((rd_T31 l0 x6_2).f4.f1) _ _ ((rd_T31 l0 x6_2).f5) false _ ?side1 ?side2 ?side3 ?side4 A23.out).mono ?_
                   (case side1 => exact kD HR184_6)
                   (case side2 => exact HC184_6.out)
                   (case side3 => exact kD HR185_6)
                   (case side4 => exact HC185_6.out)
                   rintro e w41 ⟨rfl, hb⟩
                   have HS0_ := (hbc hb (hHeld.1) :)
                   have HS1_ := (hbc hb (hHeld.2.1) :)
                   have HS2_ := (hbc hb (hHeld.2.2.1) :)
                   have HS3_ := (hbc hb (hHeld.2.2.2.1) :)
                   have HS4_ := (hbc hb (hHeld.2.2.2.2.1) :)
                   have HS5_ := (hbc hb (hHeld.2.2.2.2.2.1) :)
                   have HS6_ := (hbc hb (hHeld.2.2.2.2.2.2.1) :)
                   have HS7_ := (hbc hb (hHeld.2.2.2.2.2.2.2.1) :)
                   have HS8_ := (hbc hb (hHeld.2.2.2.2.2.2.2.2.1) :)
                   have HS9_ := (hbc hb (hHeld.2.2.2.2.2.2.2.2.2.1) :)
                   have HS10_ := (hbc hb (hHeld.2.2.2.2.2.2.2.2.2.2.1) :)
                   have HS11_ := (hbc hb (hHeld.2.2.2.2.2.2.2.2.2.2.2.1) :)
                   have HS12_ := (hbc hb (hHeld.2.2.2.2.2.2.2.2.2.2.2.2.1) :)
                   have HS13_ := (hbc hb (hHeld.2.2.2.2.2.2.2.2.2.2.2.2.2) :)
                   refine ⟨_, rfl, ?_⟩
                   replace HO_0 := aZ_ (Kd.V_below (kV HO_0) hb)
                   replace HO_5 := aZ_ (Kd.N_below (kN HO_5) hb)
                   replace HL181_6 := aZ_ (Kd.V_below (kV HL181_6) hb)
                   replace HL182_6 := aZ_ (Kd.V_below (kV HL182_6) hb)
                   replace HL184_6 := aZ_ (Kd.V_below (kV HL184_6) hb)
                   replace HL185_6 := aZ_ (Kd.V_below (kV HL185_6) hb)
                   replace BK177 := aZ_ (blk_below (g := gb177) (o := .cells #[.int .i64 x178000_1, .bool x178001_1, .int .i64 x178002_1, .string x178003_1, .string x178004_1, .string x178005_1, .slice none 0 0] 31 (0, 0)) (bk BK177) hb)
                   replace HR181_6 := aZ_ (Kd.C_below (kD HR181_6) hb)
                   replace HR182_6 := aZ_ (Kd.C_below (kD HR182_6) hb)
                   replace HR184_6 := aZ_ (Kd.C_below (kD HR184_6) hb)
                   replace HR185_6 := aZ_ (Kd.C_below (kD HR185_6) hb)
                   replace HB := aZ_ (below_step (bl1 HB GE177) hb)
                   (try clear hb)
                   (try clear hb2)
                   (try clear hk)
                   (try clear hi)
                   refine hK.out _ _ ⟨HS0_, HS1_, HS2_, HS3_, HS4_, HS5_, HS6_, HS7_, HS8_, HS9_, HS10_, HS11_, HS12_, HS13_⟩ (fun hHeld => ?_)
                   clear hK K
                   refine norm_ (a' := ?_) ?_ ?_
                   rotate_left
                   ·
                    show Act.put _ (some 70) _ = _
                    simp only [Act.put, List.setIfInBounds_toArray, List.set_cons_zero, List.set_cons_succ, i64_w, i32_w]
                    rfl
                   refine pS_ 14 71 (fa 15 32767) HT_ ?_
                   refine done_ (done_of HT_.out (by kernel_rfl)) ?_
                   have q42 : (x7_3 : Int) ≤ ((x5_2.length : Int) : Int) := of_decide_eq_true asm_
                   obtain ⟨i042, hi042, _, hsz42, _⟩ := info_parts info31
                   have hroom42 : x5_2.length ≤ co38 := (Kd.N_reads' HO_5.out).2.1
                   have hC42 : Kd.F k31 _ _ (some ad181) x5_2.length x5_2 := (Kd.V_at (base := w.heap.size) (Kd.N_V HO_5.out)).2.2
                   have hcut42 := cut_to (P := Try.prog) 29 31 .i64 Try.underlying29 hi042 (some ad181) x5_2.length co38 x7_3 (of_decide_eq_true asm_) q42 hroom42
                   have hr42 := Kd.F_take (m := (x7_3 : Int).toNat) hC42 (by omega)
                   have hy42 : y187.length = (x7_3 : Int).toNat := (by rw [Ny187.out, List.length_take]; omega)
                   rw [← Ny187.out] at hr42
                   rw [← hy42] at hcut42
                   have HO191 := aZ_ (show Kd.V k31 31 _ w.heap.size _ (.slice (some ad181) y187.length co38) y187 from Kd.V_mk (by omega) hr42)
                   have HC191 := aZ_ (show y187.length ≤ co38 from by omega)
                   clear hr42 hC42 hroom42 hi042 hsz42
                   have KY42 := aZ_ hy42
                   clear hy42
                   replace q42 := eq_true q42
                   try go_wp2_with (first | ((with_reducible refine gate_builtin (b := .append) (xs := #[.tmp 72, .tmp 75]) rfl ?_); at_builtin; refine Kd.N_append_rows k31 (w0 := w) w.heap.size rfl (.tmp 72) (.tmp 75) 29 31 (.agg #[(.int .i64 0), (.bool false), (.int .i64 0), (.string ⟨#[]⟩), (.string ⟨#[]⟩), (.string ⟨#[]⟩), (.slice none 0 0)]) 96 rfl Try.underlying29 info31 rfl (by decide) (by omega) (.slice none 0 0) ([] : List (S31)) y187 _ _ _ (fun k_ => (P0_ k_ ∨ w.heap.size ≤ k_) ∧ k_ ≠ gb177) (fun k_ => ((fun k_ => (P0_ k_ ∨ w.heap.size ≤ k_) ∧ k_ ≠ gb177)) k_ ∧ some k_ ≠ (.slice none 0 0 : Value).ownBlock) rfl rfl ?aO ?aR (fun _ hk => hk) ?aF ?aB ?aS ?aL ?_; (case aR => exact (by skip; exact Kd.V_F (Kd.V_mono (ok' := (fun k_ => ((fun k_ => (P0_ k_ ∨ w.heap.size ≤ k_) ∧ k_ ≠ gb177)) k_ ∧ some k_ ≠ (.slice none 0 0 : Value).ownBlock)) (HO191.out) (fun k_ hk => ⟨⟨hk.1, hk.2⟩, (by simp [Value.ownBlock])⟩)))); (case aB => exact (bl1 HB GE177)); (case aF => exact (fun k_ hk => ⟨(.inr (Nat.le_trans (below_size (bl1 HB GE177)) hk)), Kd.freshB (g := gb177) (o := .cells #[.int .i64 x178000_1, .bool x178001_1, .int .i64 x178002_1, .string x178003_1, .string x178004_1, .string x178005_1, .slice none 0 0] 31 (0, 0)) (bk BK177) k_ hk⟩)); (case aO => exact ((Kd.N_nil _ _ _ _ (fun k_ => (P0_ k_ ∨ w.heap.size ≤ k_) ∧ k_ ≠ gb177)))); (case aS => exact (below_size (bl1 HB GE177))); (case aL => have := LMc32.out; omega); intro v193 w43 ho hb hg hat; rw [← Ny192.out] at ho; replace HO_0 := aZ_ (Kd.V_afterv (Kd.V_apart_nil (kV HO_0)) hg hat); replace HO_5 := aZ_ (Kd.N_afterv (Kd.N_apart_nil (kN HO_5)) hg hat); replace BK177 := aZ_ (blk_grown (g := gb177) (o := .cells #[.int .i64 x178000_1, .bool x178001_1, .int .i64 x178002_1, .string x178003_1, .string x178004_1, .string x178005_1, .slice none 0 0] 31 (0, 0)) (bk BK177) hg (by simp [Value.ownBlock])); replace HL181_6 := aZ_ (Kd.V_afterv (Kd.V_apart_nil (kV HL181_6)) hg hat); replace HL182_6 := aZ_ (Kd.V_afterv (Kd.V_apart_nil (kV HL182_6)) hg hat); replace HL184_6 := aZ_ (Kd.V_afterv (Kd.V_apart_nil (kV HL184_6)) hg hat); replace HL185_6 := aZ_ (Kd.V_afterv (Kd.V_apart_nil (kV HL185_6)) hg hat); replace HO191 := aZ_ (Kd.V_afterv (Kd.V_apart_nil (kV HO191)) hg hat); replace HB := aZ_ (hb); have HO194 := aZ_ (ho); clear ho hb hg hat; have p195 : 0 ≤ (x6_2 : Int) := of_decide_eq_true asm_; have q195 : x6_2 < (l0.length : Int) := of_decide_eq_true asm_; obtain ⟨ad195, A195_6, c195_6, e195, hx195_0, hx195_1, hx195_2, hx195_3, hx195_4, hx195_5, hx195_6, hl195_6, hi195_6⟩ := at_T31 (Kd.V_reads' HO_0.out).2.2 x6_2 p195 q195; obtain rfl : ad182 = ad195 := (by injection e195); obtain ⟨ce195, hce195, hMe195, hcc195⟩ := Kd.V_get HO_0.out z31 x6_2 p195 (by first | exact q195 | exact of_decide_eq_true asm_ | (have e_ := (Kd.V_reads' HO_0.out).1; omega)); obtain ⟨ua195_6, uc195_6, rfl, ul195_6, ge195_6⟩ := k31_openF hMe195; have hv195_6 := hcc195 6 _ rfl; rw [add_field _ _ 6 (by omega)] at hv195_6; replace hv195_6 := Option.some.inj (hv195_6.symm.trans hx195_6); injection hv195_6 with hva_ hvn_ hvc_; rw [hva_] at ge195_6; rw [hvc_] at ul195_6; have HL195_6 := aZ_ (show Kd.V k31 31 _ w.heap.size _ _ ((rd_T31 l0 x6_2).f5) from Kd.V_mk ul195_6 ge195_6); clear hva_ hvn_ hvc_ ge195_6 ul195_6; clear hcc195 hce195; have HR195_6 := aZ_ hi195_6; have HC195_6 := aZ_ hl195_6; clear hi195_6 hl195_6; replace p195 := eq_true p195; replace q195 := eq_true q195) | ((with_reducible refine gate_builtin (b := .append) (xs := #[.tmp 77, .tmp 82]) rfl ?_); at_builtin; refine Kd.N_append k31 (w0 := w) w.heap.size rfl (.tmp 77) (.tmp 82) 29 31 (.agg #[(.int .i64 0), (.bool false), (.int .i64 0), (.string ⟨#[]⟩), (.string ⟨#[]⟩), (.string ⟨#[]⟩), (.slice none 0 0)]) 96 rfl Try.underlying29 info31 rfl (by decide) (by omega) v193 y192 (⟨(rd_T31 l0 x6_2).f0, (rd_T31 l0 x6_2).f1, (rd_T31 l0 x6_2).f2, (rd_T31 l0 x6_2).f3, (⟨(rd_T31 l0 x6_2).f4.f0, (rd_T31 l0 x6_2).f4.f1⟩ : S28), (rd_T31 l0 x6_2).f5⟩ : S31) [.int .i64 ((rd_T31 l0 x6_2).f0), .bool ((rd_T31 l0 x6_2).f1), .int .i64 ((rd_T31 l0 x6_2).f2), .string ((rd_T31 l0 x6_2).f3), .string ((rd_T31 l0 x6_2).f4.f0), .string ((rd_T31 l0 x6_2).f4.f1), .slice A195_6 ((rd_T31 l0 x6_2).f5).length c195_6] (fun k_ => (P0_ k_ ∨ w.heap.size ≤ k_) ∧ k_ ≠ gb177) (fun k_ => ((fun k_ => (P0_ k_ ∨ w.heap.size ≤ k_) ∧ k_ ≠ gb177)) k_ ∧ some k_ ≠ (v193 : Value).ownBlock) rfl rfl ?aP (fun _ hk => hk) ?aF ?aO ?aB ?aS ?aL ?_; (case aP => exact (k31_mkF _ _ (⟨(rd_T31 l0 x6_2).f0, (rd_T31 l0 x6_2).f1, (rd_T31 l0 x6_2).f2, (rd_T31 l0 x6_2).f3, (⟨(rd_T31 l0 x6_2).f4.f0, (rd_T31 l0 x6_2).f4.f1⟩ : S28), (rd_T31 l0 x6_2).f5⟩ : S31) (Kd.V_reads' (Kd.V_mono (ok' := (fun k_ => ((fun k_ => (P0_ k_ ∨ w.heap.size ≤ k_) ∧ k_ ≠ gb177)) k_ ∧ some k_ ≠ (v193 : Value).ownBlock)) (HL195_6.out) (fun k_ hk => ⟨⟨hk.1.1, hk.1.2.2⟩, hk.2⟩))).2.1 (Kd.V_F (Kd.V_mono (ok' := (fun k_ => ((fun k_ => (P0_ k_ ∨ w.heap.size ≤ k_) ∧ k_ ≠ gb177)) k_ ∧ some k_ ≠ (v193 : Value).ownBlock)) (HL195_6.out) (fun k_ hk => ⟨⟨hk.1.1, hk.1.2.2⟩, hk.2⟩))))); (case aB => exact (bl1 HB GE177)); (case aF => exact (fun k_ hk => ⟨(.inr (Nat.le_trans (below_size (bl1 HB GE177)) hk)), Kd.freshB (g := gb177) (o := .cells #[.int .i64 x178000_1, .bool x178001_1, .int .i64 x178002_1, .string x178003_1, .string x178004_1, .string x178005_1, .slice none 0 0] 31 (0, 0)) (bk BK177) k_ hk⟩)); (case aO => exact (kN HO194)); (case aS => exact (below_size (bl1 HB GE177))); (case aL => have := LMc33.out; omega); intro v197 w44 ho hb hg hat; rw [← Ny196.out] at ho; replace HO_0 := aZ_ (Kd.V_afterv (ok := (fun k_ => (P0_ k_ ∨ w.heap.size ≤ k_) ∧ some k_ ≠ (.slice (some ad181) x5_2.length co38 : Value).ownBlock ∧ k_ ≠ gb177)) (kV HO_0) hg hat); replace HO_5 := aZ_ (Kd.N_afterv (ok := (fun k_ => (P0_ k_ ∨ w.heap.size ≤ k_) ∧ k_ ≠ gb177)) (kN HO_5) hg hat); replace BK177 := aZ_ (blk_grown (g := gb177) (o := .cells #[.int .i64 x178000_1, .bool x178001_1, .int .i64 x178002_1, .string x178003_1, .string x178004_1, .string x178005_1, .slice none 0 0] 31 (0, 0)) (bk BK177) hg (Kd.N_away HO194.out (fun _ hk => hk.2))); replace HL181_6 := aZ_ (Kd.V_afterv (ok := (fun k_ => (P0_ k_ ∨ w.heap.size ≤ k_) ∧ some k_ ≠ (.slice (some ad181) x5_2.length co38 : Value).ownBlock ∧ k_ ≠ gb177)) (by (with_reducible repeat (first | apply Kd.V_alloc | apply Kd.V_drewN | apply Kd.V_drew)); exact Kd.V_mono HL181_6.out (fun _ hk => ⟨⟨hk.1.1.1, ⟨hk.1.2, hk.1.1.2⟩⟩, hk.2⟩)) hg hat); replace HL182_6 := aZ_ (Kd.V_afterv (ok := (fun k_ => (P0_ k_ ∨ w.heap.size ≤ k_) ∧ some k_ ≠ (.slice (some ad181) x5_2.length co38 : Value).ownBlock ∧ k_ ≠ gb177)) (kV HL182_6) hg hat); replace HL184_6 := aZ_ (Kd.V_afterv (ok := (fun k_ => (P0_ k_ ∨ w.heap.size ≤ k_) ∧ some k_ ≠ (.slice (some ad181) x5_2.length co38 : Value).ownBlock ∧ k_ ≠ gb177)) (by (with_reducible repeat (first | apply Kd.V_alloc | apply Kd.V_drewN | apply Kd.V_drew)); exact Kd.V_mono HL184_6.out (fun _ hk => ⟨⟨hk.1.1.1, ⟨hk.1.2, hk.1.1.2⟩⟩, hk.2⟩)) hg hat); replace HL185_6 := aZ_ (Kd.V_afterv (ok := (fun k_ => (P0_ k_ ∨ w.heap.size ≤ k_) ∧ some k_ ≠ (.slice (some ad181) x5_2.length co38 : Value).ownBlock ∧ k_ ≠ gb177)) (kV HL185_6) hg hat); replace HO191 := aZ_ (Kd.V_afterv (ok := (fun k_ => (P0_ k_ ∨ w.heap.size ≤ k_) ∧ k_ ≠ gb177)) (kV HO191) hg hat); replace HL195_6 := aZ_ (Kd.V_afterv (ok := (fun k_ => (P0_ k_ ∨ w.heap.size ≤ k_) ∧ some k_ ≠ (.slice (some ad181) x5_2.length co38 : Value).ownBlock ∧ k_ ≠ gb177)) (kV HL195_6) hg hat); replace HB := aZ_ (hb); have HO198 := aZ_ (ho); clear HO194; clear ho hb hg hat; have q45 : (x7_3 : Int) ≤ ((x5_2.length : Int) : Int) := of_decide_eq_true asm_; obtain ⟨i045, hi045, _, hsz45, _⟩ := info_parts info31; have hroom45 : x5_2.length ≤ co38 := (Kd.N_reads' HO_5.out).2.1; have hC45 : Kd.F k31 _ _ (some ad181) x5_2.length x5_2 := (Kd.V_at (base := w.heap.size) (Kd.N_V HO_5.out)).2.2; have q045 : (0 : Int) ≤ (x7_3 : Int) := of_decide_eq_true asm_; have hcut45 := cut_from (P := Try.prog) 29 31 .i64 Try.underlying29 hi045 7 hsz45 (some ad181) x5_2.length co38 x7_3 q045 q45; have hr45 := Kd.F_cut (m := (x7_3 : Int).toNat) (c := co38) hC45 (by omega) hroom45; obtain ⟨A45, hA45⟩ : ∃ A1, A1 = (if co38 = (x7_3 : Int).toNat then (some ad181) else ((some ad181) : Option Addr).map (·.add ((x7_3 : Int).toNat * 7))) := ⟨_, rfl⟩; obtain ⟨c45, hc45⟩ : ∃ c1, c1 = co38 - (x7_3 : Int).toNat := ⟨_, rfl⟩; have hy45 : y199.length = x5_2.length - (x7_3 : Int).toNat := (by rw [Ny199.out, List.length_drop] <;> omega); rw [show (x5_2).drop (x7_3 : Int).toNat = y199 from Ny199.out.symm] at hr45; replace hr45 : Kd.F k31 _ _ A45 y199.length y199 := (by rw [hA45]; exact hr45); rw [← hy45, ← hA45, ← hc45] at hcut45; have HO203 := aZ_ (show Kd.V k31 31 _ w.heap.size _ (.slice A45 y199.length c45) y199 from Kd.V_mk (by rw [hy45, hc45]; exact Nat.sub_le_sub_right hroom45 _) hr45); have HC203 := aZ_ (show y199.length ≤ c45 from by rw [hy45, hc45]; exact Nat.sub_le_sub_right hroom45 _); clear hr45 hC45 hroom45 hi045 hsz45 hc45; have KY45 := aZ_ hy45; have KA45 := aZ_ hA45; clear hy45 hA45; replace q45 := eq_true q45) | ((with_reducible refine gate_builtin (b := .append) (xs := #[.tmp 84, .tmp 87]) rfl ?_); at_builtin; refine Kd.N_append_rows k31 (w0 := w) w.heap.size rfl (.tmp 84) (.tmp 87) 29 31 (.agg #[(.int .i64 0), (.bool false), (.int .i64 0), (.string ⟨#[]⟩), (.string ⟨#[]⟩), (.string ⟨#[]⟩), (.slice none 0 0)]) 96 rfl Try.underlying29 info31 rfl (by decide) (by omega) v197 y196 y199 _ _ _ (fun k_ => (P0_ k_ ∨ w.heap.size ≤ k_) ∧ k_ ≠ gb177) (fun k_ => ((fun k_ => (P0_ k_ ∨ w.heap.size ≤ k_) ∧ k_ ≠ gb177)) k_ ∧ some k_ ≠ (v197 : Value).ownBlock) rfl rfl ?aO ?aR (fun _ hk => hk) ?aF ?aB ?aS ?aL ?_; (case aR => exact (by skip; exact Kd.V_F (Kd.V_mono (ok' := (fun k_ => ((fun k_ => (P0_ k_ ∨ w.heap.size ≤ k_) ∧ k_ ≠ gb177)) k_ ∧ some k_ ≠ (v197 : Value).ownBlock)) (HO203.out) (fun k_ hk => ⟨⟨hk.1.1, hk.1.2⟩, hk.2⟩)))); (case aB => exact (bl1 HB GE177)); (case aF => exact (fun k_ hk => ⟨(.inr (Nat.le_trans (below_size (bl1 HB GE177)) hk)), Kd.freshB (g := gb177) (o := .cells #[.int .i64 x178000_1, .bool x178001_1, .int .i64 x178002_1, .string x178003_1, .string x178004_1, .string x178005_1, .slice none 0 0] 31 (0, 0)) (bk BK177) k_ hk⟩)); (case aO => exact (kN HO198)); (case aS => exact (below_size (bl1 HB GE177))); (case aL => have := LMc36.out; omega); intro v205 w46 ho hb hg hat; rw [← Ny204.out] at ho; replace HO_0 := aZ_ (Kd.V_afterv (ok := (fun k_ => (P0_ k_ ∨ w.heap.size ≤ k_) ∧ some k_ ≠ (.slice (some ad181) x5_2.length co38 : Value).ownBlock ∧ k_ ≠ gb177)) (kV HO_0) hg hat); replace HO_5 := aZ_ (Kd.N_afterv (ok := (fun k_ => (P0_ k_ ∨ w.heap.size ≤ k_) ∧ k_ ≠ gb177)) (kN HO_5) hg hat); replace BK177 := aZ_ (blk_grown (g := gb177) (o := .cells #[.int .i64 x178000_1, .bool x178001_1, .int .i64 x178002_1, .string x178003_1, .string x178004_1, .string x178005_1, .slice none 0 0] 31 (0, 0)) (bk BK177) hg (Kd.N_away HO198.out (fun _ hk => hk.2))); replace HL181_6 := aZ_ (Kd.V_afterv (ok := (fun k_ => (P0_ k_ ∨ w.heap.size ≤ k_) ∧ some k_ ≠ (.slice (some ad181) x5_2.length co38 : Value).ownBlock ∧ k_ ≠ gb177)) (kV HL181_6) hg hat); replace HL182_6 := aZ_ (Kd.V_afterv (ok := (fun k_ => (P0_ k_ ∨ w.heap.size ≤ k_) ∧ some k_ ≠ (.slice (some ad181) x5_2.length co38 : Value).ownBlock ∧ k_ ≠ gb177)) (kV HL182_6) hg hat); replace HL184_6 := aZ_ (Kd.V_afterv (ok := (fun k_ => (P0_ k_ ∨ w.heap.size ≤ k_) ∧ some k_ ≠ (.slice (some ad181) x5_2.length co38 : Value).ownBlock ∧ k_ ≠ gb177)) (kV HL184_6) hg hat); replace HL185_6 := aZ_ (Kd.V_afterv (ok := (fun k_ => (P0_ k_ ∨ w.heap.size ≤ k_) ∧ some k_ ≠ (.slice (some ad181) x5_2.length co38 : Value).ownBlock ∧ k_ ≠ gb177)) (kV HL185_6) hg hat); replace HO191 := aZ_ (Kd.V_afterv (ok := (fun k_ => (P0_ k_ ∨ w.heap.size ≤ k_) ∧ k_ ≠ gb177)) (kV HO191) hg hat); replace HL195_6 := aZ_ (Kd.V_afterv (ok := (fun k_ => (P0_ k_ ∨ w.heap.size ≤ k_) ∧ some k_ ≠ (.slice (some ad181) x5_2.length co38 : Value).ownBlock ∧ k_ ≠ gb177)) (kV HL195_6) hg hat); replace HO203 := aZ_ (Kd.V_afterv (ok := (fun k_ => (P0_ k_ ∨ w.heap.size ≤ k_) ∧ k_ ≠ gb177)) (kV HO203) hg hat); replace HB := aZ_ (hb); have HO206 := aZ_ (ho); clear HO198; clear ho hb hg hat))
                   go_roundg k3
                   case measure => have := HK1.out; have := HK2.out; have := HK3.out; omega
                   case rel => exact ⟨(y204), (wrap64 (x6_2 + 1)), rf_, H', ⟨by have := HK1.out; have := HK2.out; have := HK3.out; omega⟩, ⟨by (with_reducible repeat (first | apply Kd.V_alloc | apply Kd.V_drewN | apply Kd.V_drew)); exact Kd.V_mono HO_0.out (fun _ hk => by first | exact ⟨hk.1.1, ⟨hk.2, hk.1.2.2⟩⟩ | (simp only [own_nf] at hk ⊢; exact ⟨hk.1.1, ⟨hk.2, hk.1.2.2⟩⟩))⟩, ⟨kN HO206⟩, ⟨bk BK177⟩, ⟨bl1 HB GE177⟩⟩
                  ·
                   rw [if_neg c36] at H
                   exact absurd H (by simp)
                 ·
                  rw [if_neg c33] at H
                  exact absurd H (by simp)
                ·
                 rw [if_neg c32] at H
                 exact absurd H (by simp)
               ·
                rw [if_neg c31] at H
                exact absurd H (by simp)
            ·
             rw [if_neg c17] at H
             exact absurd H (by simp)
           ·
            rw [if_neg c16] at H
            exact absurd H (by simp)
          ·
           rw [if_neg c15] at H
           exact absurd H (by simp)
         ·
          rw [if_neg c14] at H
          have c14b0 : decide (x7_3 < (x5_2.length : Int)) = false := decide_eq_false c14
          clear c14
          by_cases c47 : 0 ≤ x7_3
          ·
           rw [if_pos c47] at H
           have c47b0 := eq_true c47
           have c47b1 : decide (0 ≤ x7_3) = true := decide_eq_true c47
           clear c47
           by_cases c48 : x7_3 ≤ (x5_2.length : Int)
           ·
            rw [if_pos c48] at H
            have c48b0 := eq_true c48
            have c48b1 : decide (x7_3 ≤ (x5_2.length : Int)) = true := decide_eq_true c48
            clear c48
            obtain ⟨y207, hy207⟩ : ∃ y_ : List (S31), y_ = (x5_2.take (x7_3 : Int).toNat) := ⟨_, rfl⟩
            replace H : (if ([] : List (S31)).length + y207.length < 1466015503701 then ((some (([] : List (S31)) ++ y207 : List (S31))).bind fun y212 => (if 0 ≤ x6_2 then (if x6_2 < (l0.length : Int) then (if y212.length < 1466015503701 then ((some (y212 ++ [(⟨(rd_T31 l0 x6_2).f0, (rd_T31 l0 x6_2).f1, (rd_T31 l0 x6_2).f2, (rd_T31 l0 x6_2).f3, (⟨(rd_T31 l0 x6_2).f4.f0, (rd_T31 l0 x6_2).f4.f1⟩ : S28), (rd_T31 l0 x6_2).f5⟩ : S31)] : List (S31))).bind fun y216 => ((some (x5_2.drop (x7_3 : Int).toNat : List (S31))).bind fun y219 => (if y216.length + y219.length < 1466015503701 then (chancelref3_Set.l1 k3 l0 (y216 ++ y219) (wrap64 (x6_2 + 1))) else (none)))) else (none)) else (none)) else (none))) else (none)) = some (r1, r2, r3, r4, r5, r6, r7, r8) := by first | (rw [hy207]; with_reducible exact H) | (have H2_ := (Option.bind_some _ _).symm.trans H; rw [hy207]; with_reducible exact H2_) | (have H2_ := (Option.bind_some _ _).symm.trans H; with_reducible exact H2_) | with_reducible exact H | (rw [hy207]; exact H) | exact H
            have Ny207 := aZ_ hy207
            clear hy207
            by_cases c49 : ([] : List (S31)).length + y207.length < 1466015503701
            ·
             rw [if_pos c49] at H
             have LMc49 := aZ_ c49
             clear c49
             obtain ⟨y212, hy212⟩ : ∃ y_ : List (S31), y_ = (([] : List (S31)) ++ y207) := ⟨_, rfl⟩
             replace H : (if 0 ≤ x6_2 then (if x6_2 < (l0.length : Int) then (if y212.length < 1466015503701 then ((some (y212 ++ [(⟨(rd_T31 l0 x6_2).f0, (rd_T31 l0 x6_2).f1, (rd_T31 l0 x6_2).f2, (rd_T31 l0 x6_2).f3, (⟨(rd_T31 l0 x6_2).f4.f0, (rd_T31 l0 x6_2).f4.f1⟩ : S28), (rd_T31 l0 x6_2).f5⟩ : S31)] : List (S31))).bind fun y216 => ((some (x5_2.drop (x7_3 : Int).toNat : List (S31))).bind fun y219 => (if y216.length + y219.length < 1466015503701 then (chancelref3_Set.l1 k3 l0 (y216 ++ y219) (wrap64 (x6_2 + 1))) else (none)))) else (none)) else (none)) else (none)) = some (r1, r2, r3, r4, r5, r6, r7, r8) := by first | (rw [hy212]; with_reducible exact H) | (have H2_ := (Option.bind_some _ _).symm.trans H; rw [hy212]; with_reducible exact H2_) | (have H2_ := (Option.bind_some _ _).symm.trans H; with_reducible exact H2_) | with_reducible exact H | (rw [hy212]; exact H) | exact H
             have Ny212 := aZ_ hy212
             clear hy212
             by_cases c50 : 0 ≤ x6_2
             ·
              rw [if_pos c50] at H
              have c50b0 : decide (0 ≤ x6_2) = true := decide_eq_true c50
              clear c50
              by_cases c51 : x6_2 < (l0.length : Int)
              ·
               rw [if_pos c51] at H
               have c51b0 : decide (x6_2 < (l0.length : Int)) = true := decide_eq_true c51
               clear c51
               by_cases c52 : y212.length < 1466015503701
               ·
                rw [if_pos c52] at H
                have LMc52 := aZ_ c52
                clear c52
                obtain ⟨y216, hy216⟩ : ∃ y_ : List (S31), y_ = (y212 ++ [(⟨(rd_T31 l0 x6_2).f0, (rd_T31 l0 x6_2).f1, (rd_T31 l0 x6_2).f2, (rd_T31 l0 x6_2).f3, (⟨(rd_T31 l0 x6_2).f4.f0, (rd_T31 l0 x6_2).f4.f1⟩ : S28), (rd_T31 l0 x6_2).f5⟩ : S31)]) := ⟨_, rfl⟩
                replace H : ((some (x5_2.drop (x7_3 : Int).toNat : List (S31))).bind fun y219 => (if y216.length + y219.length < 1466015503701 then (chancelref3_Set.l1 k3 l0 (y216 ++ y219) (wrap64 (x6_2 + 1))) else (none))) = some (r1, r2, r3, r4, r5, r6, r7, r8) := by first | (rw [hy216]; with_reducible exact H) | (have H2_ := (Option.bind_some _ _).symm.trans H; rw [hy216]; with_reducible exact H2_) | (have H2_ := (Option.bind_some _ _).symm.trans H; with_reducible exact H2_) | with_reducible exact H | (rw [hy216]; exact H) | exact H
                have Ny216 := aZ_ hy216
                clear hy216
                have c53b0 := eq_true (of_decide_eq_true asm_ : 0 ≤ x7_3)
                have c54b0 := eq_true (of_decide_eq_true asm_ : x7_3 ≤ (x5_2.length : Int))
                obtain ⟨y219, hy219⟩ : ∃ y_ : List (S31), y_ = (x5_2.drop (x7_3 : Int).toNat) := ⟨_, rfl⟩
                replace H : (if y216.length + y219.length < 1466015503701 then (chancelref3_Set.l1 k3 l0 (y216 ++ y219) (wrap64 (x6_2 + 1))) else (none)) = some (r1, r2, r3, r4, r5, r6, r7, r8) := by first | (rw [hy219]; with_reducible exact H) | (have H2_ := (Option.bind_some _ _).symm.trans H; rw [hy219]; with_reducible exact H2_) | (have H2_ := (Option.bind_some _ _).symm.trans H; with_reducible exact H2_) | with_reducible exact H | (rw [hy219]; exact H) | exact H
                have Ny219 := aZ_ hy219
                clear hy219
                by_cases c55 : y216.length + y219.length < 1466015503701
                ·
                 rw [if_pos c55] at H
                 have LMc55 := aZ_ c55
                 clear c55
                 obtain ⟨y224, hy224⟩ : ∃ y_ : List (S31), y_ = (y216 ++ y219) := ⟨_, rfl⟩
                 replace H : (chancelref3_Set.l1 k3 l0 y224 (wrap64 (x6_2 + 1))) = some (r1, r2, r3, r4, r5, r6, r7, r8) := by first | (rw [hy224]; with_reducible exact H) | (have H2_ := (Option.bind_some _ _).symm.trans H; rw [hy224]; with_reducible exact H2_) | (have H2_ := (Option.bind_some _ _).symm.trans H; with_reducible exact H2_) | with_reducible exact H | (rw [hy224]; exact H) | exact H
                 have Ny224 := aZ_ hy224
                 clear hy224
                 have H' := aZ_ H
                 clear H
                 try go_wp2
                 replace HO_0 := aZ_ (Kd.V_drew HO_0.out)
                 replace HO_5 := aZ_ (Kd.N_drew HO_5.out)
                 replace BK177 := aZ_ (blk_drew BK177.out)
                 replace HB := aZ_ (below_drew1 HB.out)
                 obtain ⟨Ao57, co57, eo57⟩ := Kd.N_slice HO_5.out
                 (first | subst eo57 | (injection eo57 with f1_ f2_ f3_; have f4_ := f1_.symm; have f5_ := f3_.symm; clear f1_ f2_ f3_; subst f4_; subst f5_))
                 refine start_ (n := 15) (S := fun w' => True) (ds := []) #[false, false, false, false, false, false, false, false, false, false, false, false, false, false, false] (by kernel_rfl) rfl rfl trivial (fun hHeld => ?_); refine with_tabW chancelref3_Set.tab11 chancelref3_Set.bits11 (fun HT_ HW_ => ?_)
                 generalize wr.drew = w56 at HO_0 HO_5 BK177 HB hHeld ⊢
                 refine pS_ 0 40 (fa 15 1) HT_ ?_
                 refine pS_ 1 41 (fa 15 3) HT_ ?_
                 refine pS_ 2 42 (fa 15 7) HT_ ?_
                 refine pS_ 3 43 (fa 15 15) HT_ ?_
                 refine pS_ 4 44 (fa 15 31) HT_ ?_
                 refine pU_ 5 45 (fa 15 63) HT_ ?_
                 refine pU_ 6 46 (fa 15 127) HT_ ?_
                 refine pU_ 7 47 (fa 15 255) HT_ ?_
                 refine pU_ 8 48 (fa 15 511) HT_ ?_
                 refine pU_ 9 49 (fa 15 1023) HT_ ?_
                 refine pU_ 10 50 (fa 15 2047) HT_ ?_
                 refine pU_ 11 51 (fa 15 4095) HT_ ?_
                 refine pU_ 12 52 (fa 15 8191) HT_ ?_
                 refine pU_ 13 53 (fa 15 16383) HT_ ?_
                 refine pS_ 14 54 (fa 15 32767) HT_ ?_
                 refine done_ (done_of HT_.out (by kernel_rfl)) ?_
                 try go_wp2
                 replace HO_0 := aZ_ (Kd.V_drew HO_0.out)
                 replace HO_5 := aZ_ (Kd.N_drew HO_5.out)
                 replace BK177 := aZ_ (blk_drew BK177.out)
                 replace HB := aZ_ (below_drew1 HB.out)
                 refine start_ (n := 15) (S := fun w' => True) (ds := []) #[false, false, false, false, false, false, false, false, false, false, false, false, false, false, false] (by kernel_rfl) rfl rfl trivial (fun hHeld => ?_); refine with_tabW chancelref3_Set.tab13 chancelref3_Set.bits13 (fun HT_ HW_ => ?_)
                 generalize w56.drew = w58 at HO_0 HO_5 BK177 HB hHeld ⊢
                 refine pS_ 0 57 (fa 15 1) HT_ ?_
                 refine pS_ 1 58 (fa 15 3) HT_ ?_
                 refine pS_ 2 59 (fa 15 7) HT_ ?_
                 refine pS_ 3 60 (fa 15 15) HT_ ?_
                 refine pS_ 4 61 (fa 15 31) HT_ ?_
                 refine pU_ 5 62 (fa 15 63) HT_ ?_
                 refine pU_ 6 63 (fa 15 127) HT_ ?_
                 refine pU_ 7 64 (fa 15 255) HT_ ?_
                 refine pU_ 8 65 (fa 15 511) HT_ ?_
                 refine pU_ 9 66 (fa 15 1023) HT_ ?_
                 refine pU_ 10 67 (fa 15 2047) HT_ ?_
                 refine pU_ 11 68 (fa 15 4095) HT_ ?_
                 refine pU_ 12 69 (fa 15 8191) HT_ ?_
                 refine pU_ 13 70 (fa 15 16383) HT_ ?_
                 refine pS_ 14 71 (fa 15 32767) HT_ ?_
                 refine done_ (done_of HT_.out (by kernel_rfl)) ?_
                 have q59 : (x7_3 : Int) ≤ ((x5_2.length : Int) : Int) := of_decide_eq_true asm_
                 obtain ⟨i059, hi059, _, hsz59, _⟩ := info_parts info31
                 have hroom59 : x5_2.length ≤ co57 := (Kd.N_reads' HO_5.out).2.1
                 have hC59 : Kd.F k31 _ _ Ao57 x5_2.length x5_2 := (Kd.V_at (base := w.heap.size) (Kd.N_V HO_5.out)).2.2
                 have hcut59 := cut_to (P := Try.prog) 29 31 .i64 Try.underlying29 hi059 Ao57 x5_2.length co57 x7_3 (of_decide_eq_true asm_) q59 hroom59
                 have hr59 := Kd.F_take (m := (x7_3 : Int).toNat) hC59 (by omega)
                 have hy59 : y207.length = (x7_3 : Int).toNat := (by rw [Ny207.out, List.length_take]; omega)
                 rw [← Ny207.out] at hr59
                 rw [← hy59] at hcut59
                 have HO211 := aZ_ (show Kd.V k31 31 _ w.heap.size _ (.slice Ao57 y207.length co57) y207 from Kd.V_mk (by omega) hr59)
                 have HC211 := aZ_ (show y207.length ≤ co57 from by omega)
                 clear hr59 hC59 hroom59 hi059 hsz59
                 have KY59 := aZ_ hy59
                 clear hy59
                 replace q59 := eq_true q59
                 try go_wp2_with (first | ((with_reducible refine gate_builtin (b := .append) (xs := #[.tmp 72, .tmp 75]) rfl ?_); at_builtin; refine Kd.N_append_rows k31 (w0 := w) w.heap.size rfl (.tmp 72) (.tmp 75) 29 31 (.agg #[(.int .i64 0), (.bool false), (.int .i64 0), (.string ⟨#[]⟩), (.string ⟨#[]⟩), (.string ⟨#[]⟩), (.slice none 0 0)]) 96 rfl Try.underlying29 info31 rfl (by decide) (by omega) (.slice none 0 0) ([] : List (S31)) y207 _ _ _ (fun k_ => (P0_ k_ ∨ w.heap.size ≤ k_) ∧ k_ ≠ gb177) (fun k_ => ((fun k_ => (P0_ k_ ∨ w.heap.size ≤ k_) ∧ k_ ≠ gb177)) k_ ∧ some k_ ≠ (.slice none 0 0 : Value).ownBlock) rfl rfl ?aO ?aR (fun _ hk => hk) ?aF ?aB ?aS ?aL ?_; (case aR => exact (by skip; exact Kd.V_F (Kd.V_mono (ok' := (fun k_ => ((fun k_ => (P0_ k_ ∨ w.heap.size ≤ k_) ∧ k_ ≠ gb177)) k_ ∧ some k_ ≠ (.slice none 0 0 : Value).ownBlock)) (HO211.out) (fun k_ hk => ⟨⟨hk.1, hk.2⟩, (by simp [Value.ownBlock])⟩)))); (case aB => exact (bl1 HB GE177)); (case aF => exact (fun k_ hk => ⟨(.inr (Nat.le_trans (below_size (bl1 HB GE177)) hk)), Kd.freshB (g := gb177) (o := .cells #[.int .i64 x178000_1, .bool x178001_1, .int .i64 x178002_1, .string x178003_1, .string x178004_1, .string x178005_1, .slice none 0 0] 31 (0, 0)) (bk BK177) k_ hk⟩)); (case aO => exact ((Kd.N_nil _ _ _ _ (fun k_ => (P0_ k_ ∨ w.heap.size ≤ k_) ∧ k_ ≠ gb177)))); (case aS => exact (below_size (bl1 HB GE177))); (case aL => have := LMc49.out; omega); intro v213 w60 ho hb hg hat; rw [← Ny212.out] at ho; replace HO_0 := aZ_ (Kd.V_afterv (Kd.V_apart_nil (kV HO_0)) hg hat); replace HO_5 := aZ_ (Kd.N_afterv (Kd.N_apart_nil (kN HO_5)) hg hat); replace BK177 := aZ_ (blk_grown (g := gb177) (o := .cells #[.int .i64 x178000_1, .bool x178001_1, .int .i64 x178002_1, .string x178003_1, .string x178004_1, .string x178005_1, .slice none 0 0] 31 (0, 0)) (bk BK177) hg (by simp [Value.ownBlock])); replace HO211 := aZ_ (Kd.V_afterv (Kd.V_apart_nil (kV HO211)) hg hat); replace HB := aZ_ (hb); have HO214 := aZ_ (ho); clear ho hb hg hat; have p215 : 0 ≤ (x6_2 : Int) := of_decide_eq_true asm_; have q215 : x6_2 < (l0.length : Int) := of_decide_eq_true asm_; obtain ⟨ad215, A215_6, c215_6, e215, hx215_0, hx215_1, hx215_2, hx215_3, hx215_4, hx215_5, hx215_6, hl215_6, hi215_6⟩ := at_T31 (Kd.V_reads' HO_0.out).2.2 x6_2 p215 q215; cases e215; obtain ⟨ce215, hce215, hMe215, hcc215⟩ := Kd.V_get HO_0.out z31 x6_2 p215 (by first | exact q215 | exact of_decide_eq_true asm_ | (have e_ := (Kd.V_reads' HO_0.out).1; omega)); obtain ⟨ua215_6, uc215_6, rfl, ul215_6, ge215_6⟩ := k31_openF hMe215; have hv215_6 := hcc215 6 _ rfl; rw [add_field _ _ 6 (by omega)] at hv215_6; replace hv215_6 := Option.some.inj (hv215_6.symm.trans hx215_6); injection hv215_6 with hva_ hvn_ hvc_; rw [hva_] at ge215_6; rw [hvc_] at ul215_6; have HL215_6 := aZ_ (show Kd.V k31 31 _ w.heap.size _ _ ((rd_T31 l0 x6_2).f5) from Kd.V_mk ul215_6 ge215_6); clear hva_ hvn_ hvc_ ge215_6 ul215_6; clear hcc215 hce215; have HR215_6 := aZ_ hi215_6; have HC215_6 := aZ_ hl215_6; clear hi215_6 hl215_6; replace p215 := eq_true p215; replace q215 := eq_true q215) | ((with_reducible refine gate_builtin (b := .append) (xs := #[.tmp 77, .tmp 82]) rfl ?_); at_builtin; refine Kd.N_append k31 (w0 := w) w.heap.size rfl (.tmp 77) (.tmp 82) 29 31 (.agg #[(.int .i64 0), (.bool false), (.int .i64 0), (.string ⟨#[]⟩), (.string ⟨#[]⟩), (.string ⟨#[]⟩), (.slice none 0 0)]) 96 rfl Try.underlying29 info31 rfl (by decide) (by omega) v213 y212 (⟨(rd_T31 l0 x6_2).f0, (rd_T31 l0 x6_2).f1, (rd_T31 l0 x6_2).f2, (rd_T31 l0 x6_2).f3, (⟨(rd_T31 l0 x6_2).f4.f0, (rd_T31 l0 x6_2).f4.f1⟩ : S28), (rd_T31 l0 x6_2).f5⟩ : S31) [.int .i64 ((rd_T31 l0 x6_2).f0), .bool ((rd_T31 l0 x6_2).f1), .int .i64 ((rd_T31 l0 x6_2).f2), .string ((rd_T31 l0 x6_2).f3), .string ((rd_T31 l0 x6_2).f4.f0), .string ((rd_T31 l0 x6_2).f4.f1), .slice A215_6 ((rd_T31 l0 x6_2).f5).length c215_6] (fun k_ => (P0_ k_ ∨ w.heap.size ≤ k_) ∧ k_ ≠ gb177) (fun k_ => ((fun k_ => (P0_ k_ ∨ w.heap.size ≤ k_) ∧ k_ ≠ gb177)) k_ ∧ some k_ ≠ (v213 : Value).ownBlock) rfl rfl ?aP (fun _ hk => hk) ?aF ?aO ?aB ?aS ?aL ?_; (case aP => exact (k31_mkF _ _ (⟨(rd_T31 l0 x6_2).f0, (rd_T31 l0 x6_2).f1, (rd_T31 l0 x6_2).f2, (rd_T31 l0 x6_2).f3, (⟨(rd_T31 l0 x6_2).f4.f0, (rd_T31 l0 x6_2).f4.f1⟩ : S28), (rd_T31 l0 x6_2).f5⟩ : S31) (Kd.V_reads' (Kd.V_mono (ok' := (fun k_ => ((fun k_ => (P0_ k_ ∨ w.heap.size ≤ k_) ∧ k_ ≠ gb177)) k_ ∧ some k_ ≠ (v213 : Value).ownBlock)) (HL215_6.out) (fun k_ hk => ⟨⟨hk.1.1, hk.1.2.2⟩, hk.2⟩))).2.1 (Kd.V_F (Kd.V_mono (ok' := (fun k_ => ((fun k_ => (P0_ k_ ∨ w.heap.size ≤ k_) ∧ k_ ≠ gb177)) k_ ∧ some k_ ≠ (v213 : Value).ownBlock)) (HL215_6.out) (fun k_ hk => ⟨⟨hk.1.1, hk.1.2.2⟩, hk.2⟩))))); (case aB => exact (bl1 HB GE177)); (case aF => exact (fun k_ hk => ⟨(.inr (Nat.le_trans (below_size (bl1 HB GE177)) hk)), Kd.freshB (g := gb177) (o := .cells #[.int .i64 x178000_1, .bool x178001_1, .int .i64 x178002_1, .string x178003_1, .string x178004_1, .string x178005_1, .slice none 0 0] 31 (0, 0)) (bk BK177) k_ hk⟩)); (case aO => exact (kN HO214)); (case aS => exact (below_size (bl1 HB GE177))); (case aL => have := LMc52.out; omega); intro v217 w61 ho hb hg hat; rw [← Ny216.out] at ho; replace HO_0 := aZ_ (Kd.V_afterv (ok := (fun k_ => (P0_ k_ ∨ w.heap.size ≤ k_) ∧ some k_ ≠ (.slice Ao57 x5_2.length co57 : Value).ownBlock ∧ k_ ≠ gb177)) (kV HO_0) hg hat); replace HO_5 := aZ_ (Kd.N_afterv (ok := (fun k_ => (P0_ k_ ∨ w.heap.size ≤ k_) ∧ k_ ≠ gb177)) (kN HO_5) hg hat); replace BK177 := aZ_ (blk_grown (g := gb177) (o := .cells #[.int .i64 x178000_1, .bool x178001_1, .int .i64 x178002_1, .string x178003_1, .string x178004_1, .string x178005_1, .slice none 0 0] 31 (0, 0)) (bk BK177) hg (Kd.N_away HO214.out (fun _ hk => hk.2))); replace HO211 := aZ_ (Kd.V_afterv (ok := (fun k_ => (P0_ k_ ∨ w.heap.size ≤ k_) ∧ k_ ≠ gb177)) (kV HO211) hg hat); replace HL215_6 := aZ_ (Kd.V_afterv (ok := (fun k_ => (P0_ k_ ∨ w.heap.size ≤ k_) ∧ some k_ ≠ (.slice Ao57 x5_2.length co57 : Value).ownBlock ∧ k_ ≠ gb177)) (kV HL215_6) hg hat); replace HB := aZ_ (hb); have HO218 := aZ_ (ho); clear HO214; clear ho hb hg hat; have q62 : (x7_3 : Int) ≤ ((x5_2.length : Int) : Int) := of_decide_eq_true asm_; obtain ⟨i062, hi062, _, hsz62, _⟩ := info_parts info31; have hroom62 : x5_2.length ≤ co57 := (Kd.N_reads' HO_5.out).2.1; have hC62 : Kd.F k31 _ _ Ao57 x5_2.length x5_2 := (Kd.V_at (base := w.heap.size) (Kd.N_V HO_5.out)).2.2; have q062 : (0 : Int) ≤ (x7_3 : Int) := of_decide_eq_true asm_; have hcut62 := cut_from (P := Try.prog) 29 31 .i64 Try.underlying29 hi062 7 hsz62 Ao57 x5_2.length co57 x7_3 q062 q62; have hr62 := Kd.F_cut (m := (x7_3 : Int).toNat) (c := co57) hC62 (by omega) hroom62; obtain ⟨A62, hA62⟩ : ∃ A1, A1 = (if co57 = (x7_3 : Int).toNat then Ao57 else (Ao57 : Option Addr).map (·.add ((x7_3 : Int).toNat * 7))) := ⟨_, rfl⟩; obtain ⟨c62, hc62⟩ : ∃ c1, c1 = co57 - (x7_3 : Int).toNat := ⟨_, rfl⟩; have hy62 : y219.length = x5_2.length - (x7_3 : Int).toNat := (by rw [Ny219.out, List.length_drop] <;> omega); rw [show (x5_2).drop (x7_3 : Int).toNat = y219 from Ny219.out.symm] at hr62; replace hr62 : Kd.F k31 _ _ A62 y219.length y219 := (by rw [hA62]; exact hr62); rw [← hy62, ← hA62, ← hc62] at hcut62; have HO223 := aZ_ (show Kd.V k31 31 _ w.heap.size _ (.slice A62 y219.length c62) y219 from Kd.V_mk (by rw [hy62, hc62]; exact Nat.sub_le_sub_right hroom62 _) hr62); have HC223 := aZ_ (show y219.length ≤ c62 from by rw [hy62, hc62]; exact Nat.sub_le_sub_right hroom62 _); clear hr62 hC62 hroom62 hi062 hsz62 hc62; have KY62 := aZ_ hy62; have KA62 := aZ_ hA62; clear hy62 hA62; replace q62 := eq_true q62) | ((with_reducible refine gate_builtin (b := .append) (xs := #[.tmp 84, .tmp 87]) rfl ?_); at_builtin; refine Kd.N_append_rows k31 (w0 := w) w.heap.size rfl (.tmp 84) (.tmp 87) 29 31 (.agg #[(.int .i64 0), (.bool false), (.int .i64 0), (.string ⟨#[]⟩), (.string ⟨#[]⟩), (.string ⟨#[]⟩), (.slice none 0 0)]) 96 rfl Try.underlying29 info31 rfl (by decide) (by omega) v217 y216 y219 _ _ _ (fun k_ => (P0_ k_ ∨ w.heap.size ≤ k_) ∧ k_ ≠ gb177) (fun k_ => ((fun k_ => (P0_ k_ ∨ w.heap.size ≤ k_) ∧ k_ ≠ gb177)) k_ ∧ some k_ ≠ (v217 : Value).ownBlock) rfl rfl ?aO ?aR (fun _ hk => hk) ?aF ?aB ?aS ?aL ?_; (case aR => exact (by skip; exact Kd.V_F (Kd.V_mono (ok' := (fun k_ => ((fun k_ => (P0_ k_ ∨ w.heap.size ≤ k_) ∧ k_ ≠ gb177)) k_ ∧ some k_ ≠ (v217 : Value).ownBlock)) (HO223.out) (fun k_ hk => ⟨⟨hk.1.1, hk.1.2⟩, hk.2⟩)))); (case aB => exact (bl1 HB GE177)); (case aF => exact (fun k_ hk => ⟨(.inr (Nat.le_trans (below_size (bl1 HB GE177)) hk)), Kd.freshB (g := gb177) (o := .cells #[.int .i64 x178000_1, .bool x178001_1, .int .i64 x178002_1, .string x178003_1, .string x178004_1, .string x178005_1, .slice none 0 0] 31 (0, 0)) (bk BK177) k_ hk⟩)); (case aO => exact (kN HO218)); (case aS => exact (below_size (bl1 HB GE177))); (case aL => have := LMc55.out; omega); intro v225 w63 ho hb hg hat; rw [← Ny224.out] at ho; replace HO_0 := aZ_ (Kd.V_afterv (ok := (fun k_ => (P0_ k_ ∨ w.heap.size ≤ k_) ∧ some k_ ≠ (.slice Ao57 x5_2.length co57 : Value).ownBlock ∧ k_ ≠ gb177)) (kV HO_0) hg hat); replace HO_5 := aZ_ (Kd.N_afterv (ok := (fun k_ => (P0_ k_ ∨ w.heap.size ≤ k_) ∧ k_ ≠ gb177)) (kN HO_5) hg hat); replace BK177 := aZ_ (blk_grown (g := gb177) (o := .cells #[.int .i64 x178000_1, .bool x178001_1, .int .i64 x178002_1, .string x178003_1, .string x178004_1, .string x178005_1, .slice none 0 0] 31 (0, 0)) (bk BK177) hg (Kd.N_away HO218.out (fun _ hk => hk.2))); replace HO211 := aZ_ (Kd.V_afterv (ok := (fun k_ => (P0_ k_ ∨ w.heap.size ≤ k_) ∧ k_ ≠ gb177)) (kV HO211) hg hat); replace HL215_6 := aZ_ (Kd.V_afterv (ok := (fun k_ => (P0_ k_ ∨ w.heap.size ≤ k_) ∧ some k_ ≠ (.slice Ao57 x5_2.length co57 : Value).ownBlock ∧ k_ ≠ gb177)) (kV HL215_6) hg hat); replace HO223 := aZ_ (Kd.V_afterv (ok := (fun k_ => (P0_ k_ ∨ w.heap.size ≤ k_) ∧ k_ ≠ gb177)) (kV HO223) hg hat); replace HB := aZ_ (hb); have HO226 := aZ_ (ho); clear HO218; clear ho hb hg hat))
                 go_roundg k3
                 case measure => have := HK1.out; have := HK2.out; have := HK3.out; omega
                 case rel => exact ⟨(y224), (wrap64 (x6_2 + 1)), rf_, H', ⟨by have := HK1.out; have := HK2.out; have := HK3.out; omega⟩, ⟨by (with_reducible repeat (first | apply Kd.V_alloc | apply Kd.V_drewN | apply Kd.V_drew)); exact Kd.V_mono HO_0.out (fun _ hk => by first | exact ⟨hk.1.1, ⟨hk.2, hk.1.2.2⟩⟩ | (simp only [own_nf] at hk ⊢; exact ⟨hk.1.1, ⟨hk.2, hk.1.2.2⟩⟩))⟩, ⟨kN HO226⟩, ⟨bk BK177⟩, ⟨bl1 HB GE177⟩⟩
                ·
                 rw [if_neg c55] at H
                 exact absurd H (by simp)
               ·
                rw [if_neg c52] at H
                exact absurd H (by simp)
              ·
               rw [if_neg c51] at H
               exact absurd H (by simp)
             ·
              rw [if_neg c50] at H
              exact absurd H (by simp)
            ·
             rw [if_neg c49] at H
             exact absurd H (by simp)
           ·
            rw [if_neg c48] at H
            exact absurd H (by simp)
          ·
           rw [if_neg c47] at H
           exact absurd H (by simp)
      ·
       rw [if_neg c13] at H
       have c13b0 : decide (x6_2 < (l0.length : Int)) = false := decide_eq_false c13
       clear c13
       by_cases c64 : (x5_2.length : Int) > 8
       ·
        rw [if_pos c64] at H
        have c64b0 : decide (8 < (x5_2.length : Int)) = true := decide_eq_true c64
        have c64b1 : decide (8 < x5_2.length) = true := decide_eq_true (by omega)
        clear c64
        simp only [Option.some.injEq, Prod.mk.injEq] at H
        obtain ⟨rfl, rfl, rfl, rfl, rfl, rfl, rfl, rfl⟩ := H
        obtain ⟨Ao65, co65, eo65⟩ := Kd.N_slice HO_5.out
        subst eo65
        obtain ⟨hcz66_0, hcz66_1, hcz66_2, hcz66_3, hcz66_4, hcz66_5, hcz66_6, hfz66_0, hfz66_1, hfz66_2, hfz66_3, hfz66_4, hfz66_5, hfz66_6⟩ := bc7 BK177
        go_wp2
        refine bodyPost_ret (results_ct rfl _ _ gb177 31 #[.int .i64 0, .bool false, .int .i64 0, .string (⟨#[]⟩ : ByteArray), .string (⟨#[]⟩ : ByteArray), .string (⟨#[]⟩ : ByteArray), .slice none 0 0] (0, 0) _ rfl (by (with_reducible repeat (first | refine blk_drewN ?_ _ | refine blk_drew ?_ | refine blk_alloc ?_ _)); refine blk_put (cs := #[.int .i64 0, .bool false, .int .i64 0, .string (⟨#[]⟩ : ByteArray), .string (⟨#[]⟩ : ByteArray), .string (⟨#[]⟩ : ByteArray), .slice none 0 0]) ?_ 6 _ rfl; (with_reducible repeat (first | refine blk_drewN ?_ _ | refine blk_drew ?_ | refine blk_alloc ?_ _)); refine blk_put (cs := #[.int .i64 0, .bool false, .int .i64 0, .string (⟨#[]⟩ : ByteArray), .string (⟨#[]⟩ : ByteArray), .string x178005_1, .slice none 0 0]) ?_ 5 _ rfl; (with_reducible repeat (first | refine blk_drewN ?_ _ | refine blk_drew ?_ | refine blk_alloc ?_ _)); refine blk_put (cs := #[.int .i64 0, .bool false, .int .i64 0, .string (⟨#[]⟩ : ByteArray), .string x178004_1, .string x178005_1, .slice none 0 0]) ?_ 4 _ rfl; (with_reducible repeat (first | refine blk_drewN ?_ _ | refine blk_drew ?_ | refine blk_alloc ?_ _)); refine blk_put (cs := #[.int .i64 0, .bool false, .int .i64 0, .string x178003_1, .string x178004_1, .string x178005_1, .slice none 0 0]) ?_ 3 _ rfl; (with_reducible repeat (first | refine blk_drewN ?_ _ | refine blk_drew ?_ | refine blk_alloc ?_ _)); refine blk_put (cs := #[.int .i64 0, .bool false, .int .i64 x178002_1, .string x178003_1, .string x178004_1, .string x178005_1, .slice none 0 0]) ?_ 2 _ rfl; (with_reducible repeat (first | refine blk_drewN ?_ _ | refine blk_drew ?_ | refine blk_alloc ?_ _)); refine blk_put (cs := #[.int .i64 0, .bool x178001_1, .int .i64 x178002_1, .string x178003_1, .string x178004_1, .string x178005_1, .slice none 0 0]) ?_ 1 _ rfl; (with_reducible repeat (first | refine blk_drewN ?_ _ | refine blk_drew ?_ | refine blk_alloc ?_ _)); refine blk_put (cs := #[.int .i64 x178000_1, .bool x178001_1, .int .i64 x178002_1, .string x178003_1, .string x178004_1, .string x178005_1, .slice none 0 0]) ?_ 0 _ rfl; (with_reducible repeat (first | refine blk_drewN ?_ _ | refine blk_drew ?_ | refine blk_alloc ?_ _)); exact BK177.out) Try.underlying31 rfl (by kernel_rfl)) rfl ?_
        exact ⟨_, by first | rfl | (simp [errW_none, errW_some] <;> rfl) | (simp [*, errW_none, errW_some] <;> rfl), by first | exact Kd.R_nil _ _ _ _ _ | exact Kd.N_nil _ _ _ _ _ | exact Kd.V_nil _ _ _ _ _ | exact Kd.Q_nil _ _ _ _ _ | exact Kd.S_nil _ _ _ _ _, bl1 HB GE177⟩
       ·
        rw [if_neg c64] at H
        have c64b0 : decide (8 < (x5_2.length : Int)) = false := decide_eq_false c64
        have c64b1 : decide (8 < x5_2.length) = false := decide_eq_false (by omega)
        clear c64
        simp only [Option.some.injEq, Prod.mk.injEq] at H
        obtain ⟨rfl, rfl, rfl, rfl, rfl, rfl, rfl, rfl⟩ := H
        obtain ⟨Ao67, co67, eo67⟩ := Kd.N_slice HO_5.out
        subst eo67
        obtain ⟨hcz68_0, hcz68_1, hcz68_2, hcz68_3, hcz68_4, hcz68_5, hcz68_6, hfz68_0, hfz68_1, hfz68_2, hfz68_3, hfz68_4, hfz68_5, hfz68_6⟩ := bc7 BK177
        go_wp2
        refine bodyPost_ret (results_ct rfl _ _ gb177 31 #[.int .i64 5, .bool false, .int .i64 0, .string (⟨#[]⟩ : ByteArray), .string (⟨#[]⟩ : ByteArray), .string (⟨#[]⟩ : ByteArray), .slice Ao67 x5_2.length co67] (0, 0) _ rfl (by (with_reducible repeat (first | refine blk_drewN ?_ _ | refine blk_drew ?_ | refine blk_alloc ?_ _)); refine blk_put (cs := #[.int .i64 5, .bool false, .int .i64 0, .string (⟨#[]⟩ : ByteArray), .string (⟨#[]⟩ : ByteArray), .string (⟨#[]⟩ : ByteArray), .slice none 0 0]) ?_ 6 _ rfl; (with_reducible repeat (first | refine blk_drewN ?_ _ | refine blk_drew ?_ | refine blk_alloc ?_ _)); refine blk_put (cs := #[.int .i64 5, .bool false, .int .i64 0, .string (⟨#[]⟩ : ByteArray), .string (⟨#[]⟩ : ByteArray), .string x178005_1, .slice none 0 0]) ?_ 5 _ rfl; (with_reducible repeat (first | refine blk_drewN ?_ _ | refine blk_drew ?_ | refine blk_alloc ?_ _)); refine blk_put (cs := #[.int .i64 5, .bool false, .int .i64 0, .string (⟨#[]⟩ : ByteArray), .string x178004_1, .string x178005_1, .slice none 0 0]) ?_ 4 _ rfl; (with_reducible repeat (first | refine blk_drewN ?_ _ | refine blk_drew ?_ | refine blk_alloc ?_ _)); refine blk_put (cs := #[.int .i64 5, .bool false, .int .i64 0, .string x178003_1, .string x178004_1, .string x178005_1, .slice none 0 0]) ?_ 3 _ rfl; (with_reducible repeat (first | refine blk_drewN ?_ _ | refine blk_drew ?_ | refine blk_alloc ?_ _)); refine blk_put (cs := #[.int .i64 5, .bool false, .int .i64 x178002_1, .string x178003_1, .string x178004_1, .string x178005_1, .slice none 0 0]) ?_ 2 _ rfl; (with_reducible repeat (first | refine blk_drewN ?_ _ | refine blk_drew ?_ | refine blk_alloc ?_ _)); refine blk_put (cs := #[.int .i64 5, .bool x178001_1, .int .i64 x178002_1, .string x178003_1, .string x178004_1, .string x178005_1, .slice none 0 0]) ?_ 1 _ rfl; (with_reducible repeat (first | refine blk_drewN ?_ _ | refine blk_drew ?_ | refine blk_alloc ?_ _)); refine blk_put (cs := #[.int .i64 x178000_1, .bool x178001_1, .int .i64 x178002_1, .string x178003_1, .string x178004_1, .string x178005_1, .slice none 0 0]) ?_ 0 _ rfl; (with_reducible repeat (first | refine blk_drewN ?_ _ | refine blk_drew ?_ | refine blk_alloc ?_ _)); exact BK177.out) Try.underlying31 rfl (by kernel_rfl)) rfl ?_
        exact ⟨_, by first | rfl | (simp [errW_none, errW_some] <;> rfl) | (simp [*, errW_none, errW_some] <;> rfl), by (with_reducible repeat (first | apply Kd.N_alloc | apply Kd.N_drewN | apply Kd.N_drew)); exact Kd.N_mono (Kd.N_far (p := ⟨gb177, 6, none⟩) (Kd.N_far (p := ⟨gb177, 5, none⟩) (Kd.N_far (p := ⟨gb177, 4, none⟩) (Kd.N_far (p := ⟨gb177, 3, none⟩) (Kd.N_far (p := ⟨gb177, 2, none⟩) (Kd.N_far (p := ⟨gb177, 1, none⟩) (Kd.N_far (p := ⟨gb177, 0, none⟩) (Kd.N_mono HO_5.out (fun k_ hk => (⟨hk, hk.2⟩ : _ ∧ k_ ≠ gb177))) (fun _ hk => hk.2) (.int .i64 5)) (fun _ hk => hk.2) (.bool false)) (fun _ hk => hk.2) (.int .i64 0)) (fun _ hk => hk.2) (.string (⟨#[]⟩ : ByteArray))) (fun _ hk => hk.2) (.string (⟨#[]⟩ : ByteArray))) (fun _ hk => hk.2) (.string (⟨#[]⟩ : ByteArray))) (fun _ hk => hk.2) (.slice Ao67 x5_2.length co67)) (fun _ hk => hk.1.1), bl1 HB GE177⟩

end Go.Proofs.Ytfmghijmcgkpiaa.GO
