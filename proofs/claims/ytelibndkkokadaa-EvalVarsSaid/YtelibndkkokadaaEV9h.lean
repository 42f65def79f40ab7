import Derived.Test.YtelibndkkokadaaGB0
import Derived.Test.YtelibndkkokadaaEV8
import Derived.Test.YtelibndkkokadaaSqz
import Derived.Test.YtelibndkkokadaaA5
import Derived.Deep.RegionWith
import Derived.Deep.CutRange
namespace Go.Proofs.Ytelibndkkokadaa.EV
open Go.RowKit Go.Proofs.YtelibndkkokadaaW.PrintWords Go.Proofs.YtelibndkkokadaaW.PrintLast Go.Proofs.Ytelibndkkokadaa.HandV Go.Proofs.YtelibndkkokadaaW.PrintMore
open Go.Proofs.Ytelibndkkokadaa.GB
attribute [local go_sem] max2_int min2_int max_two min_two max_three min_three max_four min_four   -- for this text's walks alone
set_option linter.unusedVariables false
set_option linter.unusedSimpArgs false
-- IMPORT .EV8
-- IMPORT .Sqz
-- IMPORT .A5
-- IMPORT Derived.Deep.RegionWith
-- IMPORT Derived.Deep.CutRange
open GA (okU)
set_option maxRecDepth 100000 in
set_option maxHeartbeats 16000000 in
theorem within13_calls (a : Int) (w : World) : Calls Try.prog 42 #[.int .i64 a, .int .i64 3] w fun e w' => e = .returned (.int .i64 (if Int.tmod a 3 < 0 then Int.tmod a 3 + 3 else Int.tmod a 3)) ∧ w' = w := by
  have h1 := Int.tmod_lt_of_pos a (show (0 : Int) < 3 by decide)
  have h2 := GP.tmod_gt a 3 (by decide)
  by_cases h : Int.tmod a 3 < 0
  · have d1 : (Int.tmod a 3 < 0) = True := eq_true h
    have hw : IntKind.i64.wrap (Int.tmod a 3 + 3) = Int.tmod a 3 + 3 := (i64_w _).trans (GP.wr_id (by omega) (by omega))
    rw [if_pos h]
    go_enter Try.func42, Try.ntmps42
    go_wp2
    go_ret
    exact ⟨rfl, rfl⟩
  · have d1 : (Int.tmod a 3 < 0) = False := eq_false h
    rw [if_neg h]
    go_enter Try.func42, Try.ntmps42
    go_wp2
    go_ret
    exact ⟨rfl, rfl⟩
/-- What is known behind region 4: the request's box, and one uid's. -/
structure LV (w : World) (g5 g6 : Nat) (p0 p1 p2 p3 p4 p5 pu qu : ByteArray) (W : World) : Prop where
  q : W.heap[g5]? = some (.cells #[.string p0, .string p1, .string p2, .string p3, .string p4, .string p5] 77 (0, 0))
  u : W.heap[g6]? = some (.cells #[.string pu, .string qu] 28 (0, 0))
  be : Below w.heap.size w W
/-- And behind region 5: the first answer's box. -/
structure LW (w : World) (g5 g6 g7 : Nat) (p0 p1 p2 p3 p4 p5 pu qu : ByteArray) (W : World) : Prop extends LV w g5 g6 p0 p1 p2 p3 p4 p5 pu qu W where
  v : W.heap[g7]? = some (.cells #[.int .i64 4, .bool false, .int .i64 0, .string ⟨#[]⟩, .string pu, .string qu, .slice none 0 0] 55 (0, 0))
/-- And behind region 6: the second one's. -/
structure LX (w : World) (g5 g6 g7 g9 : Nat) (p0 p1 p2 p3 p4 p5 pu qu : ByteArray) (W : World) : Prop extends LW w g5 g6 g7 p0 p1 p2 p3 p4 p5 pu qu W where
  b : W.heap[g9]? = some (.cells #[.int .i64 1, .bool true, .int .i64 0, .string ⟨#[]⟩, .string ⟨#[]⟩, .string ⟨#[]⟩, .slice none 0 0] 55 (0, 0))
theorem cells3 {W : World} {g : Nat} {t : TypeId} {a0 a1 a2 : Value} (h : W.heap[g]? = some (.cells #[a0, a1, a2] t (0, 0))) : W.cell? ⟨g, 0, none⟩ = some a0 ∧ W.cell? ⟨g, 1, none⟩ = some a1 ∧ W.cell? ⟨g, 2, none⟩ = some a2 := ⟨(blk_cell h 0).trans rfl, (blk_cell h 1).trans rfl, (blk_cell h 2).trans rfl⟩
theorem in_self (u : GA.U) : GA.inF [] u u = true := by
  unfold GA.inF
  rw [decide_eq_true_eq, GA.climbF_mem]
  exact ⟨u, List.mem_singleton.2 rfl, GA.Up.refl u⟩
theorem lt_set {W : World} {g : Nat} {p : Addr} {v : Value} (h : g < W.heap.size) : g < (W.setCell p v).heap.size := by simpa [World.setCell] using h
def rw4_T : Bool × List (List Nat × List Nat) := (true, [([], []), ([0], [0]), ([], []), ([2], [2]), ([], []), ([4], [4]), ([1, 3, 5], [1, 3, 5]), ([], []), ([7], [7]), ([6, 8], [6, 8]), ([9], [9]), ([], []), ([11, 10, 8, 0, 1, 2, 3, 4, 5, 6, 7, 8, 9, 10, 11], [10, 11])])
def rw4_B : List Nat := [0, 1, 0, 4, 0, 16, 63, 0, 128, 511, 1023, 0, 4095]
theorem rw4_tab : rtab .any (opsOf Try.f12 4) = rw4_T := by kernel_rfl
theorem rw4_bits : waitsOk rw4_T.2 rw4_B = true := by kernel_rfl
def rw5_T : Bool × List (List Nat × List Nat) := (true, [([], []), ([], []), ([], []), ([2], [2]), ([1, 3], [1, 3]), ([4], [4]), ([5], [5]), ([0, 6, 3], [0, 6]), ([7], [7]), ([8], [8]), ([8], [8]), ([], []), ([11, 9, 7, 0, 1, 2, 3, 4, 5, 6, 7, 8, 9, 11], [9, 11]), ([10, 12, 0, 1, 2, 3, 4, 5, 6, 7, 8, 9, 10, 11, 12], [10])])
def rw5_B : List Nat := [0, 0, 0, 4, 14, 30, 62, 127, 255, 511, 511, 0, 3071, 8191]
theorem rw5_tab : rtab .any (opsOf Try.f12 5) = rw5_T := by kernel_rfl
theorem rw5_bits : waitsOk rw5_T.2 rw5_B = true := by kernel_rfl
def rw6_T : Bool × List (List Nat × List Nat) := (true, [([], []), ([], []), ([1], [1]), ([], []), ([], []), ([4], [4]), ([3, 5], [3, 5]), ([6], [6]), ([7], [7]), ([2, 8], [2, 8]), ([9], [9]), ([0, 10, 5], [0, 10]), ([11], [11]), ([12], [12]), ([12], [12]), ([], []), ([15, 13, 11, 0, 1, 2, 3, 4, 5, 6, 7, 8, 9, 10, 11, 12, 13, 15], [13, 15]), ([14, 16, 0, 1, 2, 3, 4, 5, 6, 7, 8, 9, 10, 11, 12, 13, 14, 15, 16], [14])])
def rw6_B : List Nat := [0, 0, 2, 0, 0, 16, 56, 120, 248, 510, 1022, 2047, 4095, 8191, 8191, 0, 49151, 131071]
theorem rw6_tab : rtab .any (opsOf Try.f12 6) = rw6_T := by kernel_rfl
theorem rw6_bits : waitsOk rw6_T.2 rw6_B = true := by kernel_rfl
end Go.Proofs.Ytelibndkkokadaa.EV
