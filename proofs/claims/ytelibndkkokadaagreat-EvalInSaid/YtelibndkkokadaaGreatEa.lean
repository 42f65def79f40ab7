import Derived.Test.YtelibndkkokadaaGreatGB0
import Derived.StillTailTactics
import Derived.Laws.Cover1
import Derived.Outline
namespace Go.Proofs.YtelibndkkokadaaGreat.GB
open Go.RowKit Go.Proofs.YtelibndkkokadaaGreatW.PrintWords Go.Proofs.YtelibndkkokadaaGreatW.PrintLast Go.Proofs.YtelibndkkokadaaGreat.HandV Go.Proofs.YtelibndkkokadaaGreatW.PrintMore
attribute [local go_sem] max2_int min2_int max_two min_two max_three min_three max_four min_four   -- for this text's walks alone
set_option linter.unusedVariables false
set_option linter.unusedSimpArgs false
-- IMPORT Derived.StillTailTactics
-- IMPORT Derived.Laws.Cover1
-- IMPORT Derived.Outline
/-- Is something there that is not the kind's (ErrArg)? The kind's own field is handed in empty. -/
def ofRest (b : Bool) (n : Int) (s t i : List UInt8) (len : Nat) : Int := if b = true then 1 else if n = 0 then (if s = [] then (if t = [] then (if i = [] then (if len = 0 then 0 else 1) else 1) else 1) else 1) else 1
set_option maxHeartbeats 8000000 in
theorem value_of1 (b : Bool) (n : Int) (s t i : ByteArray) (A : Option Addr) (len cap : Nat) (w : World) :
    Calls Tryz.prog 71 #[.agg #[.int .i64 1, .bool b, .int .i64 n, .string s, .string t, .string i, .slice A len cap]] w fun e w' => e = .returned (.tuple #[.iface 162 (.bool b), .int .i64 (ofRest false n s.toList t.toList i.toList len)]) ∧ Below w.heap.size w w' := by
  have HB := Aside0.mk (Below.refl w.heap.size w)
  by_cases hn : n = 0
  · have hn_0 : (n == 0) = true := beq_iff_eq.mpr hn
    have hn_1 : (n != 0) = false := bne_eq_false_iff_eq.mpr hn
    by_cases hs : s.toList = []
    · have hs_0 : (s.toList == ([] : List UInt8)) = true := beq_iff_eq.mpr hs
      have hs_1 : (s.toList != ([] : List UInt8)) = false := bne_eq_false_iff_eq.mpr hs
      by_cases ht : t.toList = []
      · have ht_0 : (t.toList == ([] : List UInt8)) = true := beq_iff_eq.mpr ht
        have ht_1 : (t.toList != ([] : List UInt8)) = false := bne_eq_false_iff_eq.mpr ht
        by_cases hi : i.toList = []
        · have hi_0 : (i.toList == ([] : List UInt8)) = true := beq_iff_eq.mpr hi
          have hi_1 : (i.toList != ([] : List UInt8)) = false := bne_eq_false_iff_eq.mpr hi
          by_cases hl : len = 0
          · have hl_0 : decide (0 < (len : Int)) = false := decide_eq_false (by omega)
            have hl_1 : decide (0 < len) = false := decide_eq_false (by omega)
            have hE : ofRest false n s.toList t.toList i.toList len = 0 := by simp [ofRest, hn, hs, ht, hi, hl]
            rw [hE]
            clear hE
            go_enter Tryz.func71, Tryz.ntmps71
            go_wp2
            go_ret2
            exact ⟨rfl, by repeat (first | (with_reducible first | exact HB.out | apply below_alloc | apply pw_below_drewN | apply below_drew1) | (refine below_set ?_ (by simp)) | exact HB.out)⟩
          · have hl_0 : decide (0 < (len : Int)) = true := decide_eq_true (by omega)
            have hl_1 : decide (0 < len) = true := decide_eq_true (by omega)
            have hE : ofRest false n s.toList t.toList i.toList len = 1 := by simp [ofRest, hn, hs, ht, hi, hl]
            rw [hE]
            clear hE
            go_enter Tryz.func71, Tryz.ntmps71
            go_wp2
            go_ret2
            exact ⟨rfl, by repeat (first | (with_reducible first | exact HB.out | apply below_alloc | apply pw_below_drewN | apply below_drew1) | (refine below_set ?_ (by simp)) | exact HB.out)⟩
        · have hi_0 : (i.toList == ([] : List UInt8)) = false := beq_eq_false_iff_ne.mpr hi
          have hi_1 : (i.toList != ([] : List UInt8)) = true := bne_iff_ne.mpr hi
          have hE : ofRest false n s.toList t.toList i.toList len = 1 := by simp [ofRest, hn, hs, ht, hi]
          rw [hE]
          clear hE
          go_enter Tryz.func71, Tryz.ntmps71
          go_wp2
          go_ret2
          exact ⟨rfl, by repeat (first | (with_reducible first | exact HB.out | apply below_alloc | apply pw_below_drewN | apply below_drew1) | (refine below_set ?_ (by simp)) | exact HB.out)⟩
      · have ht_0 : (t.toList == ([] : List UInt8)) = false := beq_eq_false_iff_ne.mpr ht
        have ht_1 : (t.toList != ([] : List UInt8)) = true := bne_iff_ne.mpr ht
        have hE : ofRest false n s.toList t.toList i.toList len = 1 := by simp [ofRest, hn, hs, ht]
        rw [hE]
        clear hE
        go_enter Tryz.func71, Tryz.ntmps71
        go_wp2
        go_ret2
        exact ⟨rfl, by repeat (first | (with_reducible first | exact HB.out | apply below_alloc | apply pw_below_drewN | apply below_drew1) | (refine below_set ?_ (by simp)) | exact HB.out)⟩
    · have hs_0 : (s.toList == ([] : List UInt8)) = false := beq_eq_false_iff_ne.mpr hs
      have hs_1 : (s.toList != ([] : List UInt8)) = true := bne_iff_ne.mpr hs
      have hE : ofRest false n s.toList t.toList i.toList len = 1 := by simp [ofRest, hn, hs]
      rw [hE]
      clear hE
      go_enter Tryz.func71, Tryz.ntmps71
      go_wp2
      go_ret2
      exact ⟨rfl, by repeat (first | (with_reducible first | exact HB.out | apply below_alloc | apply pw_below_drewN | apply below_drew1) | (refine below_set ?_ (by simp)) | exact HB.out)⟩
  · have hn_0 : (n == 0) = false := beq_eq_false_iff_ne.mpr hn
    have hn_1 : (n != 0) = true := bne_iff_ne.mpr hn
    have hE : ofRest false n s.toList t.toList i.toList len = 1 := by simp [ofRest, hn]
    rw [hE]
    clear hE
    go_enter Tryz.func71, Tryz.ntmps71
    go_wp2
    go_ret2
    exact ⟨rfl, by repeat (first | (with_reducible first | exact HB.out | apply below_alloc | apply pw_below_drewN | apply below_drew1) | (refine below_set ?_ (by simp)) | exact HB.out)⟩
set_option maxHeartbeats 8000000 in
theorem value_of2 (b : Bool) (n : Int) (s t i : ByteArray) (A : Option Addr) (len cap : Nat) (w : World) :
    Calls Tryz.prog 71 #[.agg #[.int .i64 2, .bool b, .int .i64 n, .string s, .string t, .string i, .slice A len cap]] w fun e w' => e = .returned (.tuple #[.iface 163 (.int .i64 n), .int .i64 (ofRest b 0 s.toList t.toList i.toList len)]) ∧ Below w.heap.size w w' := by
  have HB := Aside0.mk (Below.refl w.heap.size w)
  cases b with
  | true =>
    have hE : ofRest true 0 s.toList t.toList i.toList len = 1 := by simp [ofRest]
    rw [hE]
    clear hE
    go_enter Tryz.func71, Tryz.ntmps71
    go_wp2
    go_ret2
    exact ⟨rfl, by repeat (first | (with_reducible first | exact HB.out | apply below_alloc | apply pw_below_drewN | apply below_drew1) | (refine below_set ?_ (by simp)) | exact HB.out)⟩
  | false =>
    by_cases hs : s.toList = []
    · have hs_0 : (s.toList == ([] : List UInt8)) = true := beq_iff_eq.mpr hs
      have hs_1 : (s.toList != ([] : List UInt8)) = false := bne_eq_false_iff_eq.mpr hs
      by_cases ht : t.toList = []
      · have ht_0 : (t.toList == ([] : List UInt8)) = true := beq_iff_eq.mpr ht
        have ht_1 : (t.toList != ([] : List UInt8)) = false := bne_eq_false_iff_eq.mpr ht
        by_cases hi : i.toList = []
        · have hi_0 : (i.toList == ([] : List UInt8)) = true := beq_iff_eq.mpr hi
          have hi_1 : (i.toList != ([] : List UInt8)) = false := bne_eq_false_iff_eq.mpr hi
          by_cases hl : len = 0
          · have hl_0 : decide (0 < (len : Int)) = false := decide_eq_false (by omega)
            have hl_1 : decide (0 < len) = false := decide_eq_false (by omega)
            have hE : ofRest false 0 s.toList t.toList i.toList len = 0 := by simp [ofRest, hs, ht, hi, hl]
            rw [hE]
            clear hE
            go_enter Tryz.func71, Tryz.ntmps71
            go_wp2
            go_ret2
            exact ⟨rfl, by repeat (first | (with_reducible first | exact HB.out | apply below_alloc | apply pw_below_drewN | apply below_drew1) | (refine below_set ?_ (by simp)) | exact HB.out)⟩
          · have hl_0 : decide (0 < (len : Int)) = true := decide_eq_true (by omega)
            have hl_1 : decide (0 < len) = true := decide_eq_true (by omega)
            have hE : ofRest false 0 s.toList t.toList i.toList len = 1 := by simp [ofRest, hs, ht, hi, hl]
            rw [hE]
            clear hE
            go_enter Tryz.func71, Tryz.ntmps71
            go_wp2
            go_ret2
            exact ⟨rfl, by repeat (first | (with_reducible first | exact HB.out | apply below_alloc | apply pw_below_drewN | apply below_drew1) | (refine below_set ?_ (by simp)) | exact HB.out)⟩
        · have hi_0 : (i.toList == ([] : List UInt8)) = false := beq_eq_false_iff_ne.mpr hi
          have hi_1 : (i.toList != ([] : List UInt8)) = true := bne_iff_ne.mpr hi
          have hE : ofRest false 0 s.toList t.toList i.toList len = 1 := by simp [ofRest, hs, ht, hi]
          rw [hE]
          clear hE
          go_enter Tryz.func71, Tryz.ntmps71
          go_wp2
          go_ret2
          exact ⟨rfl, by repeat (first | (with_reducible first | exact HB.out | apply below_alloc | apply pw_below_drewN | apply below_drew1) | (refine below_set ?_ (by simp)) | exact HB.out)⟩
      · have ht_0 : (t.toList == ([] : List UInt8)) = false := beq_eq_false_iff_ne.mpr ht
        have ht_1 : (t.toList != ([] : List UInt8)) = true := bne_iff_ne.mpr ht
        have hE : ofRest false 0 s.toList t.toList i.toList len = 1 := by simp [ofRest, hs, ht]
        rw [hE]
        clear hE
        go_enter Tryz.func71, Tryz.ntmps71
        go_wp2
        go_ret2
        exact ⟨rfl, by repeat (first | (with_reducible first | exact HB.out | apply below_alloc | apply pw_below_drewN | apply below_drew1) | (refine below_set ?_ (by simp)) | exact HB.out)⟩
    · have hs_0 : (s.toList == ([] : List UInt8)) = false := beq_eq_false_iff_ne.mpr hs
      have hs_1 : (s.toList != ([] : List UInt8)) = true := bne_iff_ne.mpr hs
      have hE : ofRest false 0 s.toList t.toList i.toList len = 1 := by simp [ofRest, hs]
      rw [hE]
      clear hE
      go_enter Tryz.func71, Tryz.ntmps71
      go_wp2
      go_ret2
      exact ⟨rfl, by repeat (first | (with_reducible first | exact HB.out | apply below_alloc | apply pw_below_drewN | apply below_drew1) | (refine below_set ?_ (by simp)) | exact HB.out)⟩
set_option maxHeartbeats 8000000 in
theorem value_of3 (b : Bool) (n : Int) (s t i : ByteArray) (A : Option Addr) (len cap : Nat) (w : World) :
    Calls Tryz.prog 71 #[.agg #[.int .i64 3, .bool b, .int .i64 n, .string s, .string t, .string i, .slice A len cap]] w fun e w' => e = .returned (.tuple #[.iface 164 (.string s), .int .i64 (ofRest b n [] t.toList i.toList len)]) ∧ Below w.heap.size w w' := by
  have HB := Aside0.mk (Below.refl w.heap.size w)
  cases b with
  | true =>
    have hE : ofRest true n [] t.toList i.toList len = 1 := by simp [ofRest]
    rw [hE]
    clear hE
    go_enter Tryz.func71, Tryz.ntmps71
    go_wp2
    go_ret2
    exact ⟨rfl, by repeat (first | (with_reducible first | exact HB.out | apply below_alloc | apply pw_below_drewN | apply below_drew1) | (refine below_set ?_ (by simp)) | exact HB.out)⟩
  | false =>
    by_cases hn : n = 0
    · have hn_0 : (n == 0) = true := beq_iff_eq.mpr hn
      have hn_1 : (n != 0) = false := bne_eq_false_iff_eq.mpr hn
      by_cases ht : t.toList = []
      · have ht_0 : (t.toList == ([] : List UInt8)) = true := beq_iff_eq.mpr ht
        have ht_1 : (t.toList != ([] : List UInt8)) = false := bne_eq_false_iff_eq.mpr ht
        by_cases hi : i.toList = []
        · have hi_0 : (i.toList == ([] : List UInt8)) = true := beq_iff_eq.mpr hi
          have hi_1 : (i.toList != ([] : List UInt8)) = false := bne_eq_false_iff_eq.mpr hi
          by_cases hl : len = 0
          · have hl_0 : decide (0 < (len : Int)) = false := decide_eq_false (by omega)
            have hl_1 : decide (0 < len) = false := decide_eq_false (by omega)
            have hE : ofRest false n [] t.toList i.toList len = 0 := by simp [ofRest, hn, ht, hi, hl]
            rw [hE]
            clear hE
            go_enter Tryz.func71, Tryz.ntmps71
            go_wp2
            go_ret2
            exact ⟨rfl, by repeat (first | (with_reducible first | exact HB.out | apply below_alloc | apply pw_below_drewN | apply below_drew1) | (refine below_set ?_ (by simp)) | exact HB.out)⟩
          · have hl_0 : decide (0 < (len : Int)) = true := decide_eq_true (by omega)
            have hl_1 : decide (0 < len) = true := decide_eq_true (by omega)
            have hE : ofRest false n [] t.toList i.toList len = 1 := by simp [ofRest, hn, ht, hi, hl]
            rw [hE]
            clear hE
            go_enter Tryz.func71, Tryz.ntmps71
            go_wp2
            go_ret2
            exact ⟨rfl, by repeat (first | (with_reducible first | exact HB.out | apply below_alloc | apply pw_below_drewN | apply below_drew1) | (refine below_set ?_ (by simp)) | exact HB.out)⟩
        · have hi_0 : (i.toList == ([] : List UInt8)) = false := beq_eq_false_iff_ne.mpr hi
          have hi_1 : (i.toList != ([] : List UInt8)) = true := bne_iff_ne.mpr hi
          have hE : ofRest false n [] t.toList i.toList len = 1 := by simp [ofRest, hn, ht, hi]
          rw [hE]
          clear hE
          go_enter Tryz.func71, Tryz.ntmps71
          go_wp2
          go_ret2
          exact ⟨rfl, by repeat (first | (with_reducible first | exact HB.out | apply below_alloc | apply pw_below_drewN | apply below_drew1) | (refine below_set ?_ (by simp)) | exact HB.out)⟩
      · have ht_0 : (t.toList == ([] : List UInt8)) = false := beq_eq_false_iff_ne.mpr ht
        have ht_1 : (t.toList != ([] : List UInt8)) = true := bne_iff_ne.mpr ht
        have hE : ofRest false n [] t.toList i.toList len = 1 := by simp [ofRest, hn, ht]
        rw [hE]
        clear hE
        go_enter Tryz.func71, Tryz.ntmps71
        go_wp2
        go_ret2
        exact ⟨rfl, by repeat (first | (with_reducible first | exact HB.out | apply below_alloc | apply pw_below_drewN | apply below_drew1) | (refine below_set ?_ (by simp)) | exact HB.out)⟩
    · have hn_0 : (n == 0) = false := beq_eq_false_iff_ne.mpr hn
      have hn_1 : (n != 0) = true := bne_iff_ne.mpr hn
      have hE : ofRest false n [] t.toList i.toList len = 1 := by simp [ofRest, hn]
      rw [hE]
      clear hE
      go_enter Tryz.func71, Tryz.ntmps71
      go_wp2
      go_ret2
      exact ⟨rfl, by repeat (first | (with_reducible first | exact HB.out | apply below_alloc | apply pw_below_drewN | apply below_drew1) | (refine below_set ?_ (by simp)) | exact HB.out)⟩
set_option maxHeartbeats 8000000 in
theorem value_of4 (b : Bool) (n : Int) (s t i : ByteArray) (A : Option Addr) (len cap : Nat) (w : World) :
    Calls Tryz.prog 71 #[.agg #[.int .i64 4, .bool b, .int .i64 n, .string s, .string t, .string i, .slice A len cap]] w fun e w' => e = .returned (.tuple #[.iface 165 (.agg #[.string t, .string i]), .int .i64 (ofRest b n s.toList [] [] len)]) ∧ Below w.heap.size w w' := by
  have HB := Aside0.mk (Below.refl w.heap.size w)
  cases b with
  | true =>
    have hE : ofRest true n s.toList [] [] len = 1 := by simp [ofRest]
    rw [hE]
    clear hE
    go_enter Tryz.func71, Tryz.ntmps71
    go_wp2
    go_ret2
    exact ⟨rfl, by repeat (first | (with_reducible first | exact HB.out | apply below_alloc | apply pw_below_drewN | apply below_drew1) | (refine below_set ?_ (by simp)) | exact HB.out)⟩
  | false =>
    by_cases hn : n = 0
    · have hn_0 : (n == 0) = true := beq_iff_eq.mpr hn
      have hn_1 : (n != 0) = false := bne_eq_false_iff_eq.mpr hn
      by_cases hs : s.toList = []
      · have hs_0 : (s.toList == ([] : List UInt8)) = true := beq_iff_eq.mpr hs
        have hs_1 : (s.toList != ([] : List UInt8)) = false := bne_eq_false_iff_eq.mpr hs
        by_cases hl : len = 0
        · have hl_0 : decide (0 < (len : Int)) = false := decide_eq_false (by omega)
          have hl_1 : decide (0 < len) = false := decide_eq_false (by omega)
          have hE : ofRest false n s.toList [] [] len = 0 := by simp [ofRest, hn, hs, hl]
          rw [hE]
          clear hE
          go_enter Tryz.func71, Tryz.ntmps71
          go_wp2
          go_ret2
          exact ⟨rfl, by repeat (first | (with_reducible first | exact HB.out | apply below_alloc | apply pw_below_drewN | apply below_drew1) | (refine below_set ?_ (by simp)) | exact HB.out)⟩
        · have hl_0 : decide (0 < (len : Int)) = true := decide_eq_true (by omega)
          have hl_1 : decide (0 < len) = true := decide_eq_true (by omega)
          have hE : ofRest false n s.toList [] [] len = 1 := by simp [ofRest, hn, hs, hl]
          rw [hE]
          clear hE
          go_enter Tryz.func71, Tryz.ntmps71
          go_wp2
          go_ret2
          exact ⟨rfl, by repeat (first | (with_reducible first | exact HB.out | apply below_alloc | apply pw_below_drewN | apply below_drew1) | (refine below_set ?_ (by simp)) | exact HB.out)⟩
      · have hs_0 : (s.toList == ([] : List UInt8)) = false := beq_eq_false_iff_ne.mpr hs
        have hs_1 : (s.toList != ([] : List UInt8)) = true := bne_iff_ne.mpr hs
        have hE : ofRest false n s.toList [] [] len = 1 := by simp [ofRest, hn, hs]
        rw [hE]
        clear hE
        go_enter Tryz.func71, Tryz.ntmps71
        go_wp2
        go_ret2
        exact ⟨rfl, by repeat (first | (with_reducible first | exact HB.out | apply below_alloc | apply pw_below_drewN | apply below_drew1) | (refine below_set ?_ (by simp)) | exact HB.out)⟩
    · have hn_0 : (n == 0) = false := beq_eq_false_iff_ne.mpr hn
      have hn_1 : (n != 0) = true := bne_iff_ne.mpr hn
      have hE : ofRest false n s.toList [] [] len = 1 := by simp [ofRest, hn]
      rw [hE]
      clear hE
      go_enter Tryz.func71, Tryz.ntmps71
      go_wp2
      go_ret2
      exact ⟨rfl, by repeat (first | (with_reducible first | exact HB.out | apply below_alloc | apply pw_below_drewN | apply below_drew1) | (refine below_set ?_ (by simp)) | exact HB.out)⟩
set_option maxHeartbeats 8000000 in
theorem value_of5 (b : Bool) (n : Int) (s t i : ByteArray) (A : Option Addr) (len cap : Nat) (w : World) :
    Calls Tryz.prog 71 #[.agg #[.int .i64 5, .bool b, .int .i64 n, .string s, .string t, .string i, .slice A len cap]] w fun e w' => e = .returned (.tuple #[.iface 147 (.slice A len cap), .int .i64 (ofRest b n s.toList t.toList i.toList 0)]) ∧ Below w.heap.size w w' := by
  have HB := Aside0.mk (Below.refl w.heap.size w)
  cases b with
  | true =>
    have hE : ofRest true n s.toList t.toList i.toList 0 = 1 := by simp [ofRest]
    rw [hE]
    clear hE
    go_enter Tryz.func71, Tryz.ntmps71
    go_wp2
    go_ret2
    exact ⟨rfl, by repeat (first | (with_reducible first | exact HB.out | apply below_alloc | apply pw_below_drewN | apply below_drew1) | (refine below_set ?_ (by simp)) | exact HB.out)⟩
  | false =>
    by_cases hn : n = 0
    · have hn_0 : (n == 0) = true := beq_iff_eq.mpr hn
      have hn_1 : (n != 0) = false := bne_eq_false_iff_eq.mpr hn
      by_cases hs : s.toList = []
      · have hs_0 : (s.toList == ([] : List UInt8)) = true := beq_iff_eq.mpr hs
        have hs_1 : (s.toList != ([] : List UInt8)) = false := bne_eq_false_iff_eq.mpr hs
        by_cases ht : t.toList = []
        · have ht_0 : (t.toList == ([] : List UInt8)) = true := beq_iff_eq.mpr ht
          have ht_1 : (t.toList != ([] : List UInt8)) = false := bne_eq_false_iff_eq.mpr ht
          by_cases hi : i.toList = []
          · have hi_0 : (i.toList == ([] : List UInt8)) = true := beq_iff_eq.mpr hi
            have hi_1 : (i.toList != ([] : List UInt8)) = false := bne_eq_false_iff_eq.mpr hi
            have hE : ofRest false n s.toList t.toList i.toList 0 = 0 := by simp [ofRest, hn, hs, ht, hi]
            rw [hE]
            clear hE
            go_enter Tryz.func71, Tryz.ntmps71
            go_wp2
            go_ret2
            exact ⟨rfl, by repeat (first | (with_reducible first | exact HB.out | apply below_alloc | apply pw_below_drewN | apply below_drew1) | (refine below_set ?_ (by simp)) | exact HB.out)⟩
          · have hi_0 : (i.toList == ([] : List UInt8)) = false := beq_eq_false_iff_ne.mpr hi
            have hi_1 : (i.toList != ([] : List UInt8)) = true := bne_iff_ne.mpr hi
            have hE : ofRest false n s.toList t.toList i.toList 0 = 1 := by simp [ofRest, hn, hs, ht, hi]
            rw [hE]
            clear hE
            go_enter Tryz.func71, Tryz.ntmps71
            go_wp2
            go_ret2
            exact ⟨rfl, by repeat (first | (with_reducible first | exact HB.out | apply below_alloc | apply pw_below_drewN | apply below_drew1) | (refine below_set ?_ (by simp)) | exact HB.out)⟩
        · have ht_0 : (t.toList == ([] : List UInt8)) = false := beq_eq_false_iff_ne.mpr ht
          have ht_1 : (t.toList != ([] : List UInt8)) = true := bne_iff_ne.mpr ht
          have hE : ofRest false n s.toList t.toList i.toList 0 = 1 := by simp [ofRest, hn, hs, ht]
          rw [hE]
          clear hE
          go_enter Tryz.func71, Tryz.ntmps71
          go_wp2
          go_ret2
          exact ⟨rfl, by repeat (first | (with_reducible first | exact HB.out | apply below_alloc | apply pw_below_drewN | apply below_drew1) | (refine below_set ?_ (by simp)) | exact HB.out)⟩
      · have hs_0 : (s.toList == ([] : List UInt8)) = false := beq_eq_false_iff_ne.mpr hs
        have hs_1 : (s.toList != ([] : List UInt8)) = true := bne_iff_ne.mpr hs
        have hE : ofRest false n s.toList t.toList i.toList 0 = 1 := by simp [ofRest, hn, hs]
        rw [hE]
        clear hE
        go_enter Tryz.func71, Tryz.ntmps71
        go_wp2
        go_ret2
        exact ⟨rfl, by repeat (first | (with_reducible first | exact HB.out | apply below_alloc | apply pw_below_drewN | apply below_drew1) | (refine below_set ?_ (by simp)) | exact HB.out)⟩
    · have hn_0 : (n == 0) = false := beq_eq_false_iff_ne.mpr hn
      have hn_1 : (n != 0) = true := bne_iff_ne.mpr hn
      have hE : ofRest false n s.toList t.toList i.toList 0 = 1 := by simp [ofRest, hn]
      rw [hE]
      clear hE
      go_enter Tryz.func71, Tryz.ntmps71
      go_wp2
      go_ret2
      exact ⟨rfl, by repeat (first | (with_reducible first | exact HB.out | apply below_alloc | apply pw_below_drewN | apply below_drew1) | (refine below_set ?_ (by simp)) | exact HB.out)⟩
set_option maxHeartbeats 8000000 in
theorem value_of0 (k : Int) (h1 : k ≠ 1) (h2 : k ≠ 2) (h3 : k ≠ 3) (h4 : k ≠ 4) (h5 : k ≠ 5) (b : Bool) (n : Int) (s t i : ByteArray) (A : Option Addr) (len cap : Nat) (w : World) :
    Calls Tryz.prog 71 #[.agg #[.int .i64 k, .bool b, .int .i64 n, .string s, .string t, .string i, .slice A len cap]] w fun e w' => e = .returned (.tuple #[.nilIface, .int .i64 3]) ∧ Below w.heap.size w w' := by
  have HB := Aside0.mk (Below.refl w.heap.size w)
  have h1_0 : (k == 1) = false := beq_eq_false_iff_ne.mpr h1
  have h2_0 : (k == 2) = false := beq_eq_false_iff_ne.mpr h2
  have h3_0 : (k == 3) = false := beq_eq_false_iff_ne.mpr h3
  have h4_0 : (k == 4) = false := beq_eq_false_iff_ne.mpr h4
  have h5_0 : (k == 5) = false := beq_eq_false_iff_ne.mpr h5
  go_enter Tryz.func71, Tryz.ntmps71
  go_wp2
  go_ret2
  exact ⟨rfl, by repeat (first | (with_reducible first | exact HB.out | apply below_alloc | apply pw_below_drewN | apply below_drew1) | (refine below_set ?_ (by simp)) | exact HB.out)⟩
/-- How two whole numbers stand. -/
def cmpI (a b : Int) : Int := if a < b then -1 else if a > b then 1 else 0
/-- How two texts stand, byte by byte. -/
def cmpS (s t : ByteArray) : Int := if Op.bytesLess s.toList t.toList = true then -1 else if s.toList = t.toList then 0 else 1
def cmpB (x y : Bool) : Int := if x = y then 0 else if y then -1 else 1
/-- The first of two that is not nought. -/
def orI (a b : Int) : Int := if a = 0 then b else a
/-- How two uids stand. -/
def cmpU (t i t2 i2 : ByteArray) : Int := orI (cmpS t t2) (cmpS i i2)
set_option maxRecDepth 100000 in
theorem nan_int (n : Int) (w : World) : Calls Tryz.prog 91 #[.int .i64 n] w fun e w' => e = .returned (.bool false) ∧ w = w' := by
  go_enter Tryz.func91, Tryz.ntmps91
  go_wp2
  go_ret
  exact ⟨by first | rfl | simp, rfl⟩
set_option maxRecDepth 100000 in
theorem cmp_int (n m : Int) (w : World) : Calls Tryz.prog 86 #[.int .i64 n, .int .i64 m] w fun e w' => e = .returned (.int .i64 (cmpI n m)) ∧ w = w' := by
  unfold cmpI
  by_cases h1 : n < m
  · have h1_0 : decide (n < m) = true := decide_eq_true h1
    rw [if_pos h1]
    go_enter Tryz.func86, Tryz.ntmps86
    go_wp2_with (go_at_call 91; refine (nan_int _ _).mono ?_; rintro e w' ⟨rfl, rfl⟩)
    go_ret
    exact ⟨rfl, rfl⟩
  · have h1_0 : decide (n < m) = false := decide_eq_false h1
    rw [if_neg h1]
    by_cases h2 : n > m
    · have h2_0 : decide (m < n) = true := decide_eq_true h2
      rw [if_pos h2]
      go_enter Tryz.func86, Tryz.ntmps86
      go_wp2_with (go_at_call 91; refine (nan_int _ _).mono ?_; rintro e w' ⟨rfl, rfl⟩)
      go_ret
      exact ⟨rfl, rfl⟩
    · have h2_0 : decide (m < n) = false := decide_eq_false h2
      rw [if_neg h2]
      go_enter Tryz.func86, Tryz.ntmps86
      go_wp2_with (go_at_call 91; refine (nan_int _ _).mono ?_; rintro e w' ⟨rfl, rfl⟩)
      go_ret
      exact ⟨rfl, rfl⟩
set_option maxRecDepth 100000 in
theorem nan_number (n : Int) (w : World) : Calls Tryz.prog 124 #[.int .i64 n] w fun e w' => e = .returned (.bool false) ∧ w = w' := by
  go_enter Tryz.func124, Tryz.ntmps124
  go_wp2
  go_ret
  exact ⟨by first | rfl | simp, rfl⟩
set_option maxRecDepth 100000 in
theorem cmp_number (n m : Int) (w : World) : Calls Tryz.prog 123 #[.int .i64 n, .int .i64 m] w fun e w' => e = .returned (.int .i64 (cmpI n m)) ∧ w = w' := by
  unfold cmpI
  by_cases h1 : n < m
  · have h1_0 : decide (n < m) = true := decide_eq_true h1
    rw [if_pos h1]
    go_enter Tryz.func123, Tryz.ntmps123
    go_wp2_with (go_at_call 124; refine (nan_number _ _).mono ?_; rintro e w' ⟨rfl, rfl⟩)
    go_ret
    exact ⟨rfl, rfl⟩
  · have h1_0 : decide (n < m) = false := decide_eq_false h1
    rw [if_neg h1]
    by_cases h2 : n > m
    · have h2_0 : decide (m < n) = true := decide_eq_true h2
      rw [if_pos h2]
      go_enter Tryz.func123, Tryz.ntmps123
      go_wp2_with (go_at_call 124; refine (nan_number _ _).mono ?_; rintro e w' ⟨rfl, rfl⟩)
      go_ret
      exact ⟨rfl, rfl⟩
    · have h2_0 : decide (m < n) = false := decide_eq_false h2
      rw [if_neg h2]
      go_enter Tryz.func123, Tryz.ntmps123
      go_wp2_with (go_at_call 124; refine (nan_number _ _).mono ?_; rintro e w' ⟨rfl, rfl⟩)
      go_ret
      exact ⟨rfl, rfl⟩
set_option maxRecDepth 100000 in
theorem nan_words (n : ByteArray) (w : World) : Calls Tryz.prog 129 #[.string n] w fun e w' => e = .returned (.bool false) ∧ w = w' := by
  go_enter Tryz.func129, Tryz.ntmps129
  go_wp2
  go_ret
  exact ⟨by first | rfl | simp, rfl⟩
set_option maxRecDepth 100000 in
theorem cmp_words (s t : ByteArray) (w : World) : Calls Tryz.prog 128 #[.string s, .string t] w fun e w' => e = .returned (.int .i64 (cmpS s t)) ∧ w = w' := by
  unfold cmpS
  cases h1 : Op.bytesLess s.toList t.toList with
  | true =>
    rw [if_pos rfl]
    go_enter Tryz.func128, Tryz.ntmps128
    go_wp2_with (go_at_call 129; refine (nan_words _ _).mono ?_; rintro e w' ⟨rfl, rfl⟩)
    go_ret
    exact ⟨rfl, rfl⟩
  | false =>
    rw [if_neg (by decide)]
    by_cases h2 : s.toList = t.toList
    · have h2_0 : (s.toList == t.toList) = true := beq_iff_eq.mpr h2
      rw [if_pos h2]
      clear h2
      go_enter Tryz.func128, Tryz.ntmps128
      go_wp2_with (go_at_call 129; refine (nan_words _ _).mono ?_; rintro e w' ⟨rfl, rfl⟩)
      go_ret
      exact ⟨rfl, rfl⟩
    · have h2_0 : (s.toList == t.toList) = false := beq_eq_false_iff_ne.mpr h2
      rw [if_neg h2]
      clear h2
      go_enter Tryz.func128, Tryz.ntmps128
      go_wp2_with (go_at_call 129; refine (nan_words _ _).mono ?_; rintro e w' ⟨rfl, rfl⟩)
      go_ret
      exact ⟨rfl, rfl⟩
set_option maxRecDepth 100000 in
theorem nan_string (n : ByteArray) (w : World) : Calls Tryz.prog 96 #[.string n] w fun e w' => e = .returned (.bool false) ∧ w = w' := by
  go_enter Tryz.func96, Tryz.ntmps96
  go_wp2
  go_ret
  exact ⟨by first | rfl | simp, rfl⟩
set_option maxRecDepth 100000 in
theorem cmp_string (s t : ByteArray) (w : World) : Calls Tryz.prog 95 #[.string s, .string t] w fun e w' => e = .returned (.int .i64 (cmpS s t)) ∧ w = w' := by
  unfold cmpS
  cases h1 : Op.bytesLess s.toList t.toList with
  | true =>
    rw [if_pos rfl]
    go_enter Tryz.func95, Tryz.ntmps95
    go_wp2_with (go_at_call 96; refine (nan_string _ _).mono ?_; rintro e w' ⟨rfl, rfl⟩)
    go_ret
    exact ⟨rfl, rfl⟩
  | false =>
    rw [if_neg (by decide)]
    by_cases h2 : s.toList = t.toList
    · have h2_0 : (s.toList == t.toList) = true := beq_iff_eq.mpr h2
      rw [if_pos h2]
      clear h2
      go_enter Tryz.func95, Tryz.ntmps95
      go_wp2_with (go_at_call 96; refine (nan_string _ _).mono ?_; rintro e w' ⟨rfl, rfl⟩)
      go_ret
      exact ⟨rfl, rfl⟩
    · have h2_0 : (s.toList == t.toList) = false := beq_eq_false_iff_ne.mpr h2
      rw [if_neg h2]
      clear h2
      go_enter Tryz.func95, Tryz.ntmps95
      go_wp2_with (go_at_call 96; refine (nan_string _ _).mono ?_; rintro e w' ⟨rfl, rfl⟩)
      go_ret
      exact ⟨rfl, rfl⟩
theorem ta_number (x : Value) (w : World) : Sem.run Tryz.prog (Instr.typeAssert (.iface 163 x) 144 163 false) w = .ok x w := by simp [Instr.typeAssert, go_sem]
theorem ta_words (x : Value) (w : World) : Sem.run Tryz.prog (Instr.typeAssert (.iface 164 x) 144 164 false) w = .ok x w := by simp [Instr.typeAssert, go_sem]
theorem ta_truth (x : Value) (w : World) : Sem.run Tryz.prog (Instr.typeAssert (.iface 162 x) 144 162 false) w = .ok x w := by simp [Instr.typeAssert, go_sem]
theorem ta_uid (x : Value) (w : World) : Sem.run Tryz.prog (Instr.typeAssert (.iface 165 x) 144 165 false) w = .ok x w := by simp [Instr.typeAssert, go_sem]
theorem ta_set (x : Value) (w : World) : Sem.run Tryz.prog (Instr.typeAssert (.iface 147 x) 144 147 false) w = .ok x w := by simp [Instr.typeAssert, go_sem]
set_option maxRecDepth 100000 in
theorem compare_number (n m : Int) (w : World) : Calls Tryz.prog 121 #[.int .i64 n, .iface 163 (.int .i64 m)] w fun e w' => e = .returned (.int .i64 (cmpI n m)) ∧ w = w' := by
  have hta := ta_number (Value.int .i64 m)
  go_enter Tryz.func121, Tryz.ntmps121
  go_wp2_with (go_at_call 123; refine (cmp_number _ _ _).mono ?_; rintro e w' ⟨rfl, rfl⟩)
  go_ret
  exact ⟨rfl, rfl⟩
set_option maxRecDepth 100000 in
theorem compare_words (n m : ByteArray) (w : World) : Calls Tryz.prog 126 #[.string n, .iface 164 (.string m)] w fun e w' => e = .returned (.int .i64 (cmpS n m)) ∧ w = w' := by
  have hta := ta_words (Value.string m)
  go_enter Tryz.func126, Tryz.ntmps126
  go_wp2_with (go_at_call 128; refine (cmp_words _ _ _).mono ?_; rintro e w' ⟨rfl, rfl⟩)
  go_ret
  exact ⟨rfl, rfl⟩
set_option maxRecDepth 100000 in
theorem compare_truth (x y : Bool) (w : World) : Calls Tryz.prog 118 #[.bool x, .iface 162 (.bool y)] w fun e w' => e = .returned (.int .i64 (cmpB x y)) ∧ w = w' := by
  have hta := ta_truth (Value.bool y)
  cases x <;> cases y <;>
  · go_enter Tryz.func118, Tryz.ntmps118
    go_wp2
    go_ret
    exact ⟨rfl, rfl⟩
set_option maxRecDepth 100000 in
theorem or_two (a b : Int) (g c : Nat) (w : World) (ha : w.cell? ⟨g, 0, none⟩ = some (.int .i64 a)) (hb : w.cell? ⟨g, 1, none⟩ = some (.int .i64 b)) :
    Calls Tryz.prog 94 #[.slice (some ⟨g, 0, none⟩) 2 c] w fun e w' => e = .returned (.int .i64 (orI a b)) ∧ w = w' := by
  obtain ⟨r, hr⟩ : ∃ r, orI a b = r := ⟨_, rfl⟩
  rw [hr]
  unfold orI at hr
  go_enter Tryz.func94, Tryz.ntmps94
  go_wp2
  go_loopw [8] (fun v wr => wr = w ∧ (v = .int .i64 0 ∨ (v = .int .i64 1 ∧ a = 0) ∨ (v = .int .i64 2 ∧ a = 0 ∧ b = 0))) (fun v _ => match v with | .int _ x => 2 - x.toNat | _ => 0)
  case atStart => exact ⟨rfl, .inl rfl⟩
  case round =>
    obtain ⟨rfl, rfl | ⟨rfl, h0⟩ | ⟨rfl, h0, h1⟩⟩ := hrel
    · by_cases h : a = 0
      · have h_1 : (a != 0) = false := bne_eq_false_iff_eq.mpr h
        clear hr
        have H := Aside0.mk h
        clear h
        go_wp2
        go_roundw
        case rel => exact ⟨by first | rfl | trivial, .inr (.inl ⟨by first | rfl | (simp; done), H.out⟩)⟩
        case measure => simp
      · have h_1 : (a != 0) = true := bne_iff_ne.mpr h
        rw [if_neg h] at hr
        subst hr
        clear h
        go_wp2
        go_ret
        exact ⟨rfl, rfl⟩
    · rw [if_pos h0] at hr
      by_cases h : b = 0
      · have h_1 : (b != 0) = false := bne_eq_false_iff_eq.mpr h
        clear hr
        have H := Aside0.mk (And.intro h0 h)
        clear h h0
        go_wp2
        go_roundw
        case rel => exact ⟨by first | rfl | trivial, .inr (.inr ⟨by first | rfl | (simp; done), H.out.1, H.out.2⟩)⟩
        case measure => simp
      · have h_1 : (b != 0) = true := bne_iff_ne.mpr h
        subst hr
        clear h
        go_wp2
        go_ret
        exact ⟨rfl, rfl⟩
    · rw [if_pos h0, h1] at hr
      subst hr
      clear h0 h1
      go_wp2
      go_ret
      exact ⟨rfl, rfl⟩
set_option maxRecDepth 100000 in
set_option maxHeartbeats 8000000 in
/-- uid.compare. -/
theorem compare_uid (t i t2 i2 : ByteArray) (w : World) : Calls Tryz.prog 93 #[.agg #[.string t, .string i], .iface 165 (.agg #[.string t2, .string i2])] w fun e w' => e = .returned (.int .i64 (cmpU t i t2 i2)) ∧ Below w.heap.size w w' := by
  have hta := ta_uid (.agg #[.string t2, .string i2])
  go_enter Tryz.func93, Tryz.ntmps93
  go_wp2
  have hb : Below w.heap.size w ((w.alloc (Obj.cells #[Value.string t, Value.string i] 165)).alloc (Obj.cells #[Value.string t2, Value.string i2] 165)) := by repeat (first | exact Below.refl _ _ | apply below_alloc)
  have c0 : ((w.alloc (Obj.cells #[Value.string t, Value.string i] 165)).alloc (Obj.cells #[Value.string t2, Value.string i2] 165)).cell? ⟨w.heap.size, 0, none⟩ = some (.string t) := by go_simp
  have c1 : ((w.alloc (Obj.cells #[Value.string t, Value.string i] 165)).alloc (Obj.cells #[Value.string t2, Value.string i2] 165)).cell? ⟨w.heap.size, 1, none⟩ = some (.string i) := by go_simp
  have c2 : ((w.alloc (Obj.cells #[Value.string t, Value.string i] 165)).alloc (Obj.cells #[Value.string t2, Value.string i2] 165)).cell? ⟨w.heap.size + 1, 0, none⟩ = some (.string t2) := by go_simp
  have c3 : ((w.alloc (Obj.cells #[Value.string t, Value.string i] 165)).alloc (Obj.cells #[Value.string t2, Value.string i2] 165)).cell? ⟨w.heap.size + 1, 1, none⟩ = some (.string i2) := by go_simp
  have HB := Aside0.mk hb
  clear hb hta
  generalize (w.alloc (Obj.cells #[Value.string t, Value.string i] 165)).alloc (Obj.cells #[Value.string t2, Value.string i2] 165) = W at c0 c1 c2 c3 HB
  have k1 : ∀ s u V, Calls Tryz.prog 95 #[.string s, .string u] V fun e w' => e = .returned (.int .i64 (cmpS s u)) ∧ w' = V := fun s u V => (cmp_string s u V).mono fun e w' h => ⟨h.1, h.2.symm⟩
  have HBD : Aside0 (Below w.heap.size w W.drew) := ⟨below_drew1 HB.out⟩
  refine wp_region_still_tail 10 (by kernel_rfl) (by kernel_rfl) ?_
  simp only [List.take_succ_cons, List.take_zero, List.drop_succ_cons, List.drop_zero]
  change wpStill Tryz.prog _ W.drew _ _ _
  replace c0 : W.drew.cell? ⟨w.heap.size, 0, none⟩ = some (.string t) := c0
  replace c1 : W.drew.cell? ⟨w.heap.size, 1, none⟩ = some (.string i) := c1
  replace c2 : W.drew.cell? ⟨w.heap.size + 1, 0, none⟩ = some (.string t2) := c2
  replace c3 : W.drew.cell? ⟨w.heap.size + 1, 1, none⟩ = some (.string i2) := c3
  generalize W.drew = V at c0 c1 c2 c3 HBD ⊢
  repeat (first | still_step | still_call (k1 _ _ _))
  refine wpStill_nil ?_
  go_wp2_with (go_at_call 94; refine (or_two (cmpS t t2) (cmpS i i2) _ _ _ (by go_simp) (by go_simp)).mono ?_; rintro e w' ⟨rfl, rfl⟩)
  go_ret
  exact ⟨rfl, by repeat (first | exact HB.out | exact HBD.out | apply below_drew1 | apply below_alloc)⟩
set_option maxRecDepth 100000 in
set_option maxHeartbeats 8000000 in
theorem compare_k1 (b b2 : Bool) (n n2 : Int) (s t i s2 t2 i2 : ByteArray) (A B : Option Addr) (la lb cA cB : Nat) (w : World) :
    Calls Tryz.prog 74 #[.agg #[.int .i64 1, .bool b, .int .i64 n, .string s, .string t, .string i, .slice A la cA], .agg #[.int .i64 1, .bool b2, .int .i64 n2, .string s2, .string t2, .string i2, .slice B lb cB]] w fun e w' => e = .returned (.int .i64 (cmpB b b2)) ∧ Below w.heap.size w w' := by
  have HB := Aside0.mk (Below.refl w.heap.size w)
  go_enter Tryz.func74, Tryz.ntmps74
  have hm : ∀ (v : Value) (w : World), Sem.run Tryz.prog (method 303 162 v "chancel/value.compare") w = .ok (118, v) w := fun v w => by first | kernel_rfl | rfl
  go_wp2_with (first | (go_at_call 118; refine (compare_truth _ _ _).mono ?_; rintro e w' ⟨rfl, rfl⟩) | (go_at_call 71; refine (value_of1 _ _ _ _ _ _ _ _ _).mono ?_; rintro e w' ⟨rfl, hb⟩; have d0_ := (hb.cell (p := ⟨w.heap.size + 1, 0, none⟩) (by first | assumption | (simp; done))).trans (show _ = some (Value.int .i64 1) by first | assumption | (simp; done) | (go_simp; done)); have d1_ := (hb.cell (p := ⟨w.heap.size + 1, 1, none⟩) (by first | assumption | (simp; done))).trans (show _ = some (Value.bool b2) by first | assumption | (simp; done) | (go_simp; done)); have d2_ := (hb.cell (p := ⟨w.heap.size + 1, 2, none⟩) (by first | assumption | (simp; done))).trans (show _ = some (Value.int .i64 n2) by first | assumption | (simp; done) | (go_simp; done)); have d3_ := (hb.cell (p := ⟨w.heap.size + 1, 3, none⟩) (by first | assumption | (simp; done))).trans (show _ = some (Value.string s2) by first | assumption | (simp; done) | (go_simp; done)); have d4_ := (hb.cell (p := ⟨w.heap.size + 1, 4, none⟩) (by first | assumption | (simp; done))).trans (show _ = some (Value.string t2) by first | assumption | (simp; done) | (go_simp; done)); have d5_ := (hb.cell (p := ⟨w.heap.size + 1, 5, none⟩) (by first | assumption | (simp; done))).trans (show _ = some (Value.string i2) by first | assumption | (simp; done) | (go_simp; done)); have d6_ := (hb.cell (p := ⟨w.heap.size + 1, 6, none⟩) (by first | assumption | (simp; done))).trans (show _ = some (Value.slice B lb cB) by first | assumption | (simp; done) | (go_simp; done)); have hz_ := Nat.lt_of_lt_of_le (show w.heap.size + 1 < _ by first | assumption | (simp; done)) hb.size; have n1_ := Aside0.mk (below_step (by repeat (first | (with_reducible first | exact HB.out | apply below_alloc | apply pw_below_drewN | apply below_drew1) | exact HB.out)) hb); clear HB; have HB := n1_; clear n1_ hb))
  go_ret
  exact ⟨rfl, by repeat (first | (with_reducible first | exact HB.out | apply below_alloc | apply pw_below_drewN | apply below_drew1) | exact HB.out)⟩
set_option maxRecDepth 100000 in
set_option maxHeartbeats 8000000 in
theorem compare_k2 (b b2 : Bool) (n n2 : Int) (s t i s2 t2 i2 : ByteArray) (A B : Option Addr) (la lb cA cB : Nat) (w : World) :
    Calls Tryz.prog 74 #[.agg #[.int .i64 2, .bool b, .int .i64 n, .string s, .string t, .string i, .slice A la cA], .agg #[.int .i64 2, .bool b2, .int .i64 n2, .string s2, .string t2, .string i2, .slice B lb cB]] w fun e w' => e = .returned (.int .i64 (cmpI n n2)) ∧ Below w.heap.size w w' := by
  have HB := Aside0.mk (Below.refl w.heap.size w)
  go_enter Tryz.func74, Tryz.ntmps74
  have hm : ∀ (v : Value) (w : World), Sem.run Tryz.prog (method 303 163 v "chancel/value.compare") w = .ok (121, v) w := fun v w => by first | kernel_rfl | rfl
  go_wp2_with (first | (go_at_call 121; refine (compare_number _ _ _).mono ?_; rintro e w' ⟨rfl, rfl⟩) | (go_at_call 71; refine (value_of2 _ _ _ _ _ _ _ _ _).mono ?_; rintro e w' ⟨rfl, hb⟩; have d0_ := (hb.cell (p := ⟨w.heap.size + 1, 0, none⟩) (by first | assumption | (simp; done))).trans (show _ = some (Value.int .i64 2) by first | assumption | (simp; done) | (go_simp; done)); have d1_ := (hb.cell (p := ⟨w.heap.size + 1, 1, none⟩) (by first | assumption | (simp; done))).trans (show _ = some (Value.bool b2) by first | assumption | (simp; done) | (go_simp; done)); have d2_ := (hb.cell (p := ⟨w.heap.size + 1, 2, none⟩) (by first | assumption | (simp; done))).trans (show _ = some (Value.int .i64 n2) by first | assumption | (simp; done) | (go_simp; done)); have d3_ := (hb.cell (p := ⟨w.heap.size + 1, 3, none⟩) (by first | assumption | (simp; done))).trans (show _ = some (Value.string s2) by first | assumption | (simp; done) | (go_simp; done)); have d4_ := (hb.cell (p := ⟨w.heap.size + 1, 4, none⟩) (by first | assumption | (simp; done))).trans (show _ = some (Value.string t2) by first | assumption | (simp; done) | (go_simp; done)); have d5_ := (hb.cell (p := ⟨w.heap.size + 1, 5, none⟩) (by first | assumption | (simp; done))).trans (show _ = some (Value.string i2) by first | assumption | (simp; done) | (go_simp; done)); have d6_ := (hb.cell (p := ⟨w.heap.size + 1, 6, none⟩) (by first | assumption | (simp; done))).trans (show _ = some (Value.slice B lb cB) by first | assumption | (simp; done) | (go_simp; done)); have hz_ := Nat.lt_of_lt_of_le (show w.heap.size + 1 < _ by first | assumption | (simp; done)) hb.size; have n1_ := Aside0.mk (below_step (by repeat (first | (with_reducible first | exact HB.out | apply below_alloc | apply pw_below_drewN | apply below_drew1) | exact HB.out)) hb); clear HB; have HB := n1_; clear n1_ hb))
  go_ret
  exact ⟨rfl, by repeat (first | (with_reducible first | exact HB.out | apply below_alloc | apply pw_below_drewN | apply below_drew1) | exact HB.out)⟩
set_option maxRecDepth 100000 in
set_option maxHeartbeats 8000000 in
theorem compare_k3 (b b2 : Bool) (n n2 : Int) (s t i s2 t2 i2 : ByteArray) (A B : Option Addr) (la lb cA cB : Nat) (w : World) :
    Calls Tryz.prog 74 #[.agg #[.int .i64 3, .bool b, .int .i64 n, .string s, .string t, .string i, .slice A la cA], .agg #[.int .i64 3, .bool b2, .int .i64 n2, .string s2, .string t2, .string i2, .slice B lb cB]] w fun e w' => e = .returned (.int .i64 (cmpS s s2)) ∧ Below w.heap.size w w' := by
  have HB := Aside0.mk (Below.refl w.heap.size w)
  go_enter Tryz.func74, Tryz.ntmps74
  have hm : ∀ (v : Value) (w : World), Sem.run Tryz.prog (method 303 164 v "chancel/value.compare") w = .ok (126, v) w := fun v w => by first | kernel_rfl | rfl
  go_wp2_with (first | (go_at_call 126; refine (compare_words _ _ _).mono ?_; rintro e w' ⟨rfl, rfl⟩) | (go_at_call 71; refine (value_of3 _ _ _ _ _ _ _ _ _).mono ?_; rintro e w' ⟨rfl, hb⟩; have d0_ := (hb.cell (p := ⟨w.heap.size + 1, 0, none⟩) (by first | assumption | (simp; done))).trans (show _ = some (Value.int .i64 3) by first | assumption | (simp; done) | (go_simp; done)); have d1_ := (hb.cell (p := ⟨w.heap.size + 1, 1, none⟩) (by first | assumption | (simp; done))).trans (show _ = some (Value.bool b2) by first | assumption | (simp; done) | (go_simp; done)); have d2_ := (hb.cell (p := ⟨w.heap.size + 1, 2, none⟩) (by first | assumption | (simp; done))).trans (show _ = some (Value.int .i64 n2) by first | assumption | (simp; done) | (go_simp; done)); have d3_ := (hb.cell (p := ⟨w.heap.size + 1, 3, none⟩) (by first | assumption | (simp; done))).trans (show _ = some (Value.string s2) by first | assumption | (simp; done) | (go_simp; done)); have d4_ := (hb.cell (p := ⟨w.heap.size + 1, 4, none⟩) (by first | assumption | (simp; done))).trans (show _ = some (Value.string t2) by first | assumption | (simp; done) | (go_simp; done)); have d5_ := (hb.cell (p := ⟨w.heap.size + 1, 5, none⟩) (by first | assumption | (simp; done))).trans (show _ = some (Value.string i2) by first | assumption | (simp; done) | (go_simp; done)); have d6_ := (hb.cell (p := ⟨w.heap.size + 1, 6, none⟩) (by first | assumption | (simp; done))).trans (show _ = some (Value.slice B lb cB) by first | assumption | (simp; done) | (go_simp; done)); have hz_ := Nat.lt_of_lt_of_le (show w.heap.size + 1 < _ by first | assumption | (simp; done)) hb.size; have n1_ := Aside0.mk (below_step (by repeat (first | (with_reducible first | exact HB.out | apply below_alloc | apply pw_below_drewN | apply below_drew1) | exact HB.out)) hb); clear HB; have HB := n1_; clear n1_ hb))
  go_ret
  exact ⟨rfl, by repeat (first | (with_reducible first | exact HB.out | apply below_alloc | apply pw_below_drewN | apply below_drew1) | exact HB.out)⟩
set_option maxRecDepth 100000 in
set_option maxHeartbeats 8000000 in
theorem compare_k4 (b b2 : Bool) (n n2 : Int) (s t i s2 t2 i2 : ByteArray) (A B : Option Addr) (la lb cA cB : Nat) (w : World) :
    Calls Tryz.prog 74 #[.agg #[.int .i64 4, .bool b, .int .i64 n, .string s, .string t, .string i, .slice A la cA], .agg #[.int .i64 4, .bool b2, .int .i64 n2, .string s2, .string t2, .string i2, .slice B lb cB]] w fun e w' => e = .returned (.int .i64 (cmpU t i t2 i2)) ∧ Below w.heap.size w w' := by
  have HB := Aside0.mk (Below.refl w.heap.size w)
  go_enter Tryz.func74, Tryz.ntmps74
  have hm : ∀ (v : Value) (w : World), Sem.run Tryz.prog (method 303 165 v "chancel/value.compare") w = .ok (93, v) w := fun v w => by first | kernel_rfl | rfl
  go_wp2_with (first | (go_at_call 93; refine (compare_uid _ _ _ _ _).mono ?_; rintro e w' ⟨rfl, hb⟩; have n1_ := Aside0.mk (below_step (by repeat (first | (with_reducible first | exact HB.out | apply below_alloc | apply pw_below_drewN | apply below_drew1) | exact HB.out)) hb); clear HB; have HB := n1_; clear n1_ hb) | (go_at_call 71; refine (value_of4 _ _ _ _ _ _ _ _ _).mono ?_; rintro e w' ⟨rfl, hb⟩; have d0_ := (hb.cell (p := ⟨w.heap.size + 1, 0, none⟩) (by first | assumption | (simp; done))).trans (show _ = some (Value.int .i64 4) by first | assumption | (simp; done) | (go_simp; done)); have d1_ := (hb.cell (p := ⟨w.heap.size + 1, 1, none⟩) (by first | assumption | (simp; done))).trans (show _ = some (Value.bool b2) by first | assumption | (simp; done) | (go_simp; done)); have d2_ := (hb.cell (p := ⟨w.heap.size + 1, 2, none⟩) (by first | assumption | (simp; done))).trans (show _ = some (Value.int .i64 n2) by first | assumption | (simp; done) | (go_simp; done)); have d3_ := (hb.cell (p := ⟨w.heap.size + 1, 3, none⟩) (by first | assumption | (simp; done))).trans (show _ = some (Value.string s2) by first | assumption | (simp; done) | (go_simp; done)); have d4_ := (hb.cell (p := ⟨w.heap.size + 1, 4, none⟩) (by first | assumption | (simp; done))).trans (show _ = some (Value.string t2) by first | assumption | (simp; done) | (go_simp; done)); have d5_ := (hb.cell (p := ⟨w.heap.size + 1, 5, none⟩) (by first | assumption | (simp; done))).trans (show _ = some (Value.string i2) by first | assumption | (simp; done) | (go_simp; done)); have d6_ := (hb.cell (p := ⟨w.heap.size + 1, 6, none⟩) (by first | assumption | (simp; done))).trans (show _ = some (Value.slice B lb cB) by first | assumption | (simp; done) | (go_simp; done)); have hz_ := Nat.lt_of_lt_of_le (show w.heap.size + 1 < _ by first | assumption | (simp; done)) hb.size; have n1_ := Aside0.mk (below_step (by repeat (first | (with_reducible first | exact HB.out | apply below_alloc | apply pw_below_drewN | apply below_drew1) | exact HB.out)) hb); clear HB; have HB := n1_; clear n1_ hb))
  go_ret
  exact ⟨rfl, by repeat (first | (with_reducible first | exact HB.out | apply below_alloc | apply pw_below_drewN | apply below_drew1) | exact HB.out)⟩
set_option maxRecDepth 100000 in
set_option maxHeartbeats 8000000 in
theorem compare_k5 (b b2 : Bool) (n n2 : Int) (s t i s2 t2 i2 : ByteArray) (A B : Option Addr) (la lb cA cB : Nat) (w : World) (r : Int) (hM : ∀ W, Below w.heap.size w W → Calls Tryz.prog 114 #[.slice A la cA, .iface 147 (.slice B lb cB)] W fun e w' => e = .returned (.int .i64 r) ∧ Below W.heap.size W w') :
    Calls Tryz.prog 74 #[.agg #[.int .i64 5, .bool b, .int .i64 n, .string s, .string t, .string i, .slice A la cA], .agg #[.int .i64 5, .bool b2, .int .i64 n2, .string s2, .string t2, .string i2, .slice B lb cB]] w fun e w' => e = .returned (.int .i64 (r)) ∧ Below w.heap.size w w' := by
  have HB := Aside0.mk (Below.refl w.heap.size w)
  go_enter Tryz.func74, Tryz.ntmps74
  have hm : ∀ (v : Value) (w : World), Sem.run Tryz.prog (method 303 147 v "chancel/value.compare") w = .ok (114, v) w := fun v w => by first | kernel_rfl | rfl
  go_wp2_with (first | (go_at_call 114; refine (hM _ HB.out).mono ?_; rintro e w' ⟨rfl, hb⟩; have n1_ := Aside0.mk (below_step (by repeat (first | (with_reducible first | exact HB.out | apply below_alloc | apply pw_below_drewN | apply below_drew1) | exact HB.out)) hb); clear HB; have HB := n1_; clear n1_ hb) | (go_at_call 71; refine (value_of5 _ _ _ _ _ _ _ _ _).mono ?_; rintro e w' ⟨rfl, hb⟩; have d0_ := (hb.cell (p := ⟨w.heap.size + 1, 0, none⟩) (by first | assumption | (simp; done))).trans (show _ = some (Value.int .i64 5) by first | assumption | (simp; done) | (go_simp; done)); have d1_ := (hb.cell (p := ⟨w.heap.size + 1, 1, none⟩) (by first | assumption | (simp; done))).trans (show _ = some (Value.bool b2) by first | assumption | (simp; done) | (go_simp; done)); have d2_ := (hb.cell (p := ⟨w.heap.size + 1, 2, none⟩) (by first | assumption | (simp; done))).trans (show _ = some (Value.int .i64 n2) by first | assumption | (simp; done) | (go_simp; done)); have d3_ := (hb.cell (p := ⟨w.heap.size + 1, 3, none⟩) (by first | assumption | (simp; done))).trans (show _ = some (Value.string s2) by first | assumption | (simp; done) | (go_simp; done)); have d4_ := (hb.cell (p := ⟨w.heap.size + 1, 4, none⟩) (by first | assumption | (simp; done))).trans (show _ = some (Value.string t2) by first | assumption | (simp; done) | (go_simp; done)); have d5_ := (hb.cell (p := ⟨w.heap.size + 1, 5, none⟩) (by first | assumption | (simp; done))).trans (show _ = some (Value.string i2) by first | assumption | (simp; done) | (go_simp; done)); have d6_ := (hb.cell (p := ⟨w.heap.size + 1, 6, none⟩) (by first | assumption | (simp; done))).trans (show _ = some (Value.slice B lb cB) by first | assumption | (simp; done) | (go_simp; done)); have hz_ := Nat.lt_of_lt_of_le (show w.heap.size + 1 < _ by first | assumption | (simp; done)) hb.size; have n1_ := Aside0.mk (below_step (by repeat (first | (with_reducible first | exact HB.out | apply below_alloc | apply pw_below_drewN | apply below_drew1) | exact HB.out)) hb); clear HB; have HB := n1_; clear n1_ hb))
  go_ret
  exact ⟨rfl, by repeat (first | (with_reducible first | exact HB.out | apply below_alloc | apply pw_below_drewN | apply below_drew1) | exact HB.out)⟩
set_option maxRecDepth 100000 in
set_option maxHeartbeats 8000000 in
theorem compare_k0 (k : Int) (h1 : k ≠ 1) (h2 : k ≠ 2) (h3 : k ≠ 3) (h4 : k ≠ 4) (h5 : k ≠ 5) (b b2 : Bool) (n n2 : Int) (s t i s2 t2 i2 : ByteArray) (A B : Option Addr) (la lb cA cB : Nat) (w : World) :
    Calls Tryz.prog 74 #[.agg #[.int .i64 k, .bool b, .int .i64 n, .string s, .string t, .string i, .slice A la cA], .agg #[.int .i64 k, .bool b2, .int .i64 n2, .string s2, .string t2, .string i2, .slice B lb cB]] w fun e w' => e = .returned (.int .i64 0) ∧ Below w.heap.size w w' := by
  have HB := Aside0.mk (Below.refl w.heap.size w)
  have hk : (k != k) = false := by simp
  go_enter Tryz.func74, Tryz.ntmps74
  go_wp2_with (first | (go_at_call 71; refine (value_of0 _ h1 h2 h3 h4 h5 _ _ _ _ _ _ _ _ _).mono ?_; rintro e w' ⟨rfl, hb⟩; have d0_ := (hb.cell (p := ⟨w.heap.size + 1, 0, none⟩) (by first | assumption | (simp; done))).trans (show _ = some (Value.int .i64 k) by first | assumption | (simp; done) | (go_simp; done)); have d1_ := (hb.cell (p := ⟨w.heap.size + 1, 1, none⟩) (by first | assumption | (simp; done))).trans (show _ = some (Value.bool b2) by first | assumption | (simp; done) | (go_simp; done)); have d2_ := (hb.cell (p := ⟨w.heap.size + 1, 2, none⟩) (by first | assumption | (simp; done))).trans (show _ = some (Value.int .i64 n2) by first | assumption | (simp; done) | (go_simp; done)); have d3_ := (hb.cell (p := ⟨w.heap.size + 1, 3, none⟩) (by first | assumption | (simp; done))).trans (show _ = some (Value.string s2) by first | assumption | (simp; done) | (go_simp; done)); have d4_ := (hb.cell (p := ⟨w.heap.size + 1, 4, none⟩) (by first | assumption | (simp; done))).trans (show _ = some (Value.string t2) by first | assumption | (simp; done) | (go_simp; done)); have d5_ := (hb.cell (p := ⟨w.heap.size + 1, 5, none⟩) (by first | assumption | (simp; done))).trans (show _ = some (Value.string i2) by first | assumption | (simp; done) | (go_simp; done)); have d6_ := (hb.cell (p := ⟨w.heap.size + 1, 6, none⟩) (by first | assumption | (simp; done))).trans (show _ = some (Value.slice B lb cB) by first | assumption | (simp; done) | (go_simp; done)); have hz_ := Nat.lt_of_lt_of_le (show w.heap.size + 1 < _ by first | assumption | (simp; done)) hb.size; have n1_ := Aside0.mk (below_step (by repeat (first | (with_reducible first | exact HB.out | apply below_alloc | apply pw_below_drewN | apply below_drew1) | exact HB.out)) hb); clear HB; have HB := n1_; clear n1_ hb))
  go_ret
  exact ⟨rfl, by repeat (first | (with_reducible first | exact HB.out | apply below_alloc | apply pw_below_drewN | apply below_drew1) | exact HB.out)⟩
set_option maxRecDepth 100000 in
set_option maxHeartbeats 8000000 in
theorem compare_kk (k k2 : Int) (hk : k ≠ k2) (b b2 : Bool) (n n2 : Int) (s t i s2 t2 i2 : ByteArray) (A B : Option Addr) (la lb cA cB : Nat) (w : World) :
    Calls Tryz.prog 74 #[.agg #[.int .i64 k, .bool b, .int .i64 n, .string s, .string t, .string i, .slice A la cA], .agg #[.int .i64 k2, .bool b2, .int .i64 n2, .string s2, .string t2, .string i2, .slice B lb cB]] w fun e w' => e = .returned (.int .i64 (cmpI k k2)) ∧ Below w.heap.size w w' := by
  have HB := Aside0.mk (Below.refl w.heap.size w)
  have hk0 : (k != k2) = true := bne_iff_ne.mpr hk
  clear hk
  go_enter Tryz.func74, Tryz.ntmps74
  go_wp2_with (go_at_call 86; refine (cmp_int _ _ _).mono ?_; rintro e w' ⟨rfl, rfl⟩)
  go_ret
  exact ⟨rfl, by repeat (first | (with_reducible first | exact HB.out | apply below_alloc | apply pw_below_drewN | apply below_drew1) | exact HB.out)⟩
mutual
/-- How two values stand. -/
def cmpV : S39 → S39 → Int
  | ⟨k, b, n, s, u, l⟩, ⟨k2, b2, n2, s2, u2, l2⟩ => if k = k2 then (if k = 1 then cmpB b b2 else if k = 2 then cmpI n n2 else if k = 3 then cmpS s s2 else if k = 4 then cmpU u.f0 u.f1 u2.f0 u2.f1 else if k = 5 then cmpL l l2 else 0) else cmpI k k2
def cmpL : List S39 → List S39 → Int
  | [], [] => 0
  | [], _ :: _ => -1
  | _ :: _, [] => 1
  | x :: xs, y :: ys => if cmpV x y = 0 then cmpL xs ys else cmpV x y
end
/-- A value's cells, but for where its row lies. -/
abbrev valC (x : S39) (A : Option Addr) (c : Nat) : Array Value := #[.int .i64 x.f0, .bool x.f1, .int .i64 x.f2, .string x.f3, .string x.f4.f0, .string x.f4.f1, .slice A x.f5.length c]
/-- Element k of a row of values. -/
theorem val_at {w : World} {A : Option Addr} {n : Nat} {xs : List S39} (h : Kd.C k39 w A n xs) (k : Nat) (x : S39) (hx : xs[k]? = some x) : ∃ ad A6 c6, A = some ad ∧ w.cell? (ad.add (k * 7)) = some (.int .i64 x.f0) ∧ w.cell? ⟨(ad.add (k * 7)).block, (ad.add (k * 7)).off + 1, none⟩ = some (.bool x.f1) ∧ w.cell? ⟨(ad.add (k * 7)).block, (ad.add (k * 7)).off + 2, none⟩ = some (.int .i64 x.f2) ∧ w.cell? ⟨(ad.add (k * 7)).block, (ad.add (k * 7)).off + 3, none⟩ = some (.string x.f3) ∧ w.cell? ⟨(ad.add (k * 7)).block, (ad.add (k * 7)).off + 4, none⟩ = some (.string x.f4.f0) ∧ w.cell? ⟨(ad.add (k * 7)).block, (ad.add (k * 7)).off + 5, none⟩ = some (.string x.f4.f1) ∧ w.cell? ⟨(ad.add (k * 7)).block, (ad.add (k * 7)).off + 6, none⟩ = some (.slice A6 x.f5.length c6) ∧ x.f5.length ≤ c6 ∧ k39.C w A6 x.f5.length x.f5 := by
  have hlt : k < xs.length := (List.getElem?_eq_some_iff.1 hx).1
  have hr : rd_T39 xs (k : Int) = x := by unfold rd_T39; rw [Int.toNat_natCast, List.getD_eq_getElem?_getD, hx]; rfl
  have hn := Kd.C_len h
  obtain ⟨ad, A6, c6, e, h1⟩ := at_T39 h (k : Int) (by omega) (by omega)
  rw [hr, Int.toNat_natCast] at h1
  exact ⟨ad, A6, c6, e, h1⟩
/-- What is asked of a comparison of two values. -/
def CmpOk (x y : S39) : Prop := ∀ (A B : Option Addr) (cA cB : Nat) (W : World), x.f5.length ≤ cA → k39.C W A x.f5.length x.f5 → y.f5.length ≤ cB → k39.C W B y.f5.length y.f5 →
  Calls Tryz.prog 74 #[.agg #[.int .i64 x.f0, .bool x.f1, .int .i64 x.f2, .string x.f3, .string x.f4.f0, .string x.f4.f1, .slice A x.f5.length cA], .agg #[.int .i64 y.f0, .bool y.f1, .int .i64 y.f2, .string y.f3, .string y.f4.f0, .string y.f4.f1, .slice B y.f5.length cB]] W fun e w' => e = .returned (.int .i64 (cmpV x y)) ∧ Below W.heap.size W w'
set_option maxRecDepth 100000 in
set_option maxHeartbeats 8000000 in
theorem comparefunc (xs ys : List S39) (A B : Option Addr) (cA cB : Nat) (w : World) (hA : k39.C w A xs.length xs) (hB : k39.C w B ys.length ys) (hc : ∀ x ∈ xs, ∀ y, CmpOk x y) :
   Calls Tryz.prog 116 #[.slice A xs.length cA, .slice B ys.length cB, .func (.func 74) #[] #[]] w fun e w' => e = .returned (.int .i64 (cmpL xs ys)) ∧ Below w.heap.size w w' := by
  have HA := Aside0.mk hA
  have HBy := Aside0.mk hB
  have HCM := Aside0.mk hc
  have hm1 := Kd.C_max hA
  have hm2 := Kd.C_max hB
  clear hA hB hc
  obtain ⟨r, hr⟩ : ∃ r, cmpL xs ys = r := ⟨_, rfl⟩
  rw [hr]
  have HR := Aside0.mk hr
  clear hr
  go_enter Tryz.func116, Tryz.ntmps116
  go_wp2
  go_loopw [13] (fun v wr => ∃ k : Nat, v = .int .i64 (k : Int) ∧ k ≤ xs.length ∧ k ≤ ys.length ∧ Aside0 (cmpL (xs.drop k) (ys.drop k) = r) ∧ Aside0 (Below w.heap.size w wr)) (fun v _ => match v with | .int _ x => xs.length - x.toNat | _ => 0)
  case atStart => exact ⟨0, rfl, Nat.zero_le _, Nat.zero_le _, HR, ⟨Below.refl _ _⟩⟩
  case round =>
    obtain ⟨k, rfl, hk, hk2, HD, HB⟩ := hrel
    clear HR
    by_cases hlt : k < xs.length
    · have hlt0 : decide ((k : Int) < (xs.length : Int)) = true := decide_eq_true (by omega)
      have p0 : (0 ≤ (k : Int)) = True := eq_true (by omega)
      have p1 : ((k : Int) < (xs.length : Int)) = True := eq_true (by omega)
      obtain ⟨x, hx⟩ : ∃ x, xs[k]? = some x := ⟨_, List.getElem?_eq_getElem hlt⟩
      have HX := Aside0.mk hx
      obtain ⟨ad, A6, c6, rfl, x0, x1, x2, x3, x4, x5, x6, hl6, hC6⟩ := val_at (Kd.C_below HA.out HB.out) k x hx
      clear hx
      have HL6 := Aside0.mk hl6
      have HC6 := Aside0.mk hC6
      clear hl6 hC6
      by_cases hlt2 : k < ys.length
      · have hlt2a : decide ((ys.length : Int) ≤ (k : Int)) = false := decide_eq_false (by omega)
        have p2 : ((k : Int) < (ys.length : Int)) = True := eq_true (by omega)
        obtain ⟨y, hy⟩ : ∃ y, ys[k]? = some y := ⟨_, List.getElem?_eq_getElem hlt2⟩
        have HY := Aside0.mk hy
        obtain ⟨bd, B6, d6, rfl, y0, y1, y2, y3, y4, y5, y6, hm6, hD6⟩ := val_at (Kd.C_below HBy.out HB.out) k y hy
        clear hy
        have HM6 := Aside0.mk hm6
        have HD6 := Aside0.mk hD6
        clear hm6 hD6
        have hyb : (bd.add (k * 7)).block < wr.heap.size := World.block_lt_of_cell? _ _ y0
        have hyn : ¬ (bd.add (k * 7)).block = wr.heap.size := Nat.ne_of_lt hyb
        have HCU := fun W h1 h2 => HCM.out x (List.mem_of_getElem? HX.out) y A6 B6 c6 d6 W HL6.out h1 HM6.out h2
        have HST : Aside0 ((if cmpV x y = 0 then cmpL (xs.drop (k + 1)) (ys.drop (k + 1)) else cmpV x y) = r) := ⟨by
          have h := HD.out
          rw [List.drop_eq_getElem_cons hlt, List.drop_eq_getElem_cons hlt2, (List.getElem?_eq_some_iff.1 HX.out).2, (List.getElem?_eq_some_iff.1 HY.out).2, cmpL] at h
          exact h⟩
        generalize cmpV x y = c at HCU HST
        have HCU2 := Aside0.mk HCU
        clear HCU
        have HB0 := Aside0.mk (Below.refl wr.heap.size wr)
        by_cases hc0 : c = 0
        · have hc1 : (c != 0) = false := bne_eq_false_iff_eq.mpr hc0
          have HST2 : Aside0 (cmpL (xs.drop (k + 1)) (ys.drop (k + 1)) = r) := ⟨by have := HST.out; rwa [if_pos hc0] at this⟩
          clear HST hc0
          go_wp2_with (go_at_call 74; refine (HCU2.out _ (Kd.C_below HC6.out (by repeat (first | exact HB0.out | apply below_alloc))) (Kd.C_below HD6.out (by repeat (first | exact HB0.out | apply below_alloc)))).mono ?_; rintro e w' ⟨rfl, hb⟩; have HB2 : Aside0 (Below w.heap.size w w') := ⟨below_step (by repeat (first | exact HB.out | apply below_alloc)) hb⟩; clear hb)
          go_roundw
          case rel => exact ⟨k + 1, by first | rfl | (simp; done) | (simp; omega), by omega, by omega, HST2, HB2⟩
          case measure => simp; omega
        · have hc1 : (c != 0) = true := bne_iff_ne.mpr hc0
          have HST2 : Aside0 (c = r) := ⟨by have := HST.out; rwa [if_neg hc0] at this⟩
          clear HST hc0
          go_wp2_with (go_at_call 74; refine (HCU2.out _ (Kd.C_below HC6.out (by repeat (first | exact HB0.out | apply below_alloc))) (Kd.C_below HD6.out (by repeat (first | exact HB0.out | apply below_alloc)))).mono ?_; rintro e w' ⟨rfl, hb⟩; have HB2 : Aside0 (Below w.heap.size w w') := ⟨below_step (by repeat (first | exact HB.out | apply below_alloc)) hb⟩; clear hb)
          go_ret
          exact ⟨congrArg (fun z => Ending.returned (Value.int .i64 z)) HST2.out, HB2.out⟩
      · have hlt2a : decide ((ys.length : Int) ≤ (k : Int)) = true := decide_eq_true (by omega)
        have HST : Aside0 (1 = r) := ⟨by
          have h := HD.out
          rw [List.drop_eq_getElem_cons hlt, show ys.drop k = [] from List.drop_eq_nil_of_le (by omega), cmpL] at h
          exact h⟩
        go_wp2
        go_ret
        exact ⟨congrArg (fun z => Ending.returned (Value.int .i64 z)) HST.out, by repeat (first | exact HB.out | apply below_alloc)⟩
    · have hlt0 : decide ((k : Int) < (xs.length : Int)) = false := decide_eq_false (by omega)
      have hke : k = xs.length := by omega
      subst hke
      by_cases hlt2 : xs.length < ys.length
      · have hlt2a : decide ((xs.length : Int) < (ys.length : Int)) = true := decide_eq_true (by omega)
        have HST : Aside0 (-1 = r) := ⟨by
          have h := HD.out
          rw [show xs.drop xs.length = [] from List.drop_eq_nil_of_le (Nat.le_refl _), List.drop_eq_getElem_cons hlt2, cmpL] at h
          exact h⟩
        go_wp2
        go_ret
        exact ⟨congrArg (fun z => Ending.returned (Value.int .i64 z)) HST.out, HB.out⟩
      · have hlt2a : decide ((xs.length : Int) < (ys.length : Int)) = false := decide_eq_false (by omega)
        have HST : Aside0 (0 = r) := ⟨by
          have h := HD.out
          rw [show xs.drop xs.length = [] from List.drop_eq_nil_of_le (Nat.le_refl _), show ys.drop xs.length = [] from List.drop_eq_nil_of_le (by omega), cmpL] at h
          exact h⟩
        go_wp2
        go_ret
        exact ⟨congrArg (fun z => Ending.returned (Value.int .i64 z)) HST.out, HB.out⟩
set_option maxRecDepth 100000 in
set_option maxHeartbeats 8000000 in
theorem compare_set (xs ys : List S39) (A B : Option Addr) (cA cB : Nat) (w : World) (hA : k39.C w A xs.length xs) (hB : k39.C w B ys.length ys) (hc : ∀ x ∈ xs, ∀ y, CmpOk x y) :
    Calls Tryz.prog 114 #[.slice A xs.length cA, .iface 147 (.slice B ys.length cB)] w fun e w' => e = .returned (.int .i64 (cmpL xs ys)) ∧ Below w.heap.size w w' := by
  have hta := ta_set (.slice B ys.length cB)
  have hcf := comparefunc xs ys A B cA cB w hA hB hc
  clear hA hB hc
  go_enter Tryz.func114, Tryz.ntmps114
  go_wp2_with (go_at_call 116; refine hcf.mono ?_; rintro e w' ⟨rfl, hb⟩; have HB2 := Aside0.mk hb; clear hb)
  go_ret
  exact ⟨rfl, HB2.out⟩
theorem cmpOk_all : ∀ (n : Nat) (x : S39), SizeOf.sizeOf x < n → ∀ y, CmpOk x y
  | 0, _, h, _ => absurd h (Nat.not_lt_zero _)
  | n + 1, ⟨k, b, m, s, ⟨t, i⟩, l⟩, h, ⟨k2, b2, m2, s2, ⟨t2, i2⟩, l2⟩ => by
    intro A B cA cB W h1 h2 h3 h4
    by_cases hk : k = k2
    · subst hk
      by_cases e1 : k = 1
      · subst e1
        exact (compare_k1 b b2 m m2 s t i s2 t2 i2 A B l.length l2.length cA cB W).mono fun e w' h => ⟨h.1.trans (by simp [cmpV]), h.2⟩
      by_cases e2 : k = 2
      · subst e2
        exact (compare_k2 b b2 m m2 s t i s2 t2 i2 A B l.length l2.length cA cB W).mono fun e w' h => ⟨h.1.trans (by simp [cmpV]), h.2⟩
      by_cases e3 : k = 3
      · subst e3
        exact (compare_k3 b b2 m m2 s t i s2 t2 i2 A B l.length l2.length cA cB W).mono fun e w' h => ⟨h.1.trans (by simp [cmpV]), h.2⟩
      by_cases e4 : k = 4
      · subst e4
        exact (compare_k4 b b2 m m2 s t i s2 t2 i2 A B l.length l2.length cA cB W).mono fun e w' h => ⟨h.1.trans (by simp [cmpV]), h.2⟩
      by_cases e5 : k = 5
      · subst e5
        exact (compare_k5 b b2 m m2 s t i s2 t2 i2 A B l.length l2.length cA cB W (cmpL l l2) (fun W2 hW => compare_set l l2 A B cA cB W2 (Kd.C_below h2 hW) (Kd.C_below h4 hW) (fun x hx y => cmpOk_all n x (by have := List.sizeOf_lt_of_mem hx; simp at h; omega) y))).mono fun e w' h => ⟨h.1.trans (by simp [cmpV]), h.2⟩
      · exact (compare_k0 k e1 e2 e3 e4 e5 b b2 m m2 s t i s2 t2 i2 A B l.length l2.length cA cB W).mono fun e w' h => ⟨h.1.trans (by simp [cmpV, e1, e2, e3, e4, e5]), h.2⟩
    · exact (compare_kk k k2 hk b b2 m m2 s t i s2 t2 i2 A B l.length l2.length cA cB W).mono fun e w' h => ⟨h.1.trans (by simp [cmpV, hk]), h.2⟩
/-- value.compare of any two values. -/
theorem compare_any (x y : S39) : CmpOk x y := cmpOk_all (SizeOf.sizeOf x + 1) x (Nat.lt_succ_self _) y
set_option maxRecDepth 100000 in
set_option maxHeartbeats 4000000 in
theorem same_any (x y : S39) (A B : Option Addr) (cA cB : Nat) (w : World) (h1 : x.f5.length ≤ cA) (h2 : k39.C w A x.f5.length x.f5) (h3 : y.f5.length ≤ cB) (h4 : k39.C w B y.f5.length y.f5) :
    Calls Tryz.prog 53 #[.agg #[.int .i64 x.f0, .bool x.f1, .int .i64 x.f2, .string x.f3, .string x.f4.f0, .string x.f4.f1, .slice A x.f5.length cA], .agg #[.int .i64 y.f0, .bool y.f1, .int .i64 y.f2, .string y.f3, .string y.f4.f0, .string y.f4.f1, .slice B y.f5.length cB]] w fun e w' => e = .returned (.bool (cmpV x y == 0)) ∧ Below w.heap.size w w' := by
  have hc := fun W (hW : Below w.heap.size w W) => compare_any x y A B cA cB W h1 (Kd.C_below h2 hW) h3 (Kd.C_below h4 hW)
  clear h1 h2 h3 h4
  generalize cmpV x y = c at hc ⊢
  have HC := Aside0.mk hc
  clear hc
  go_enter Tryz.func53, Tryz.ntmps53
  go_wp2_with (go_at_call 74; refine (HC.out _ (by repeat (first | exact Below.refl _ _ | apply below_alloc))).mono ?_; rintro e w' ⟨rfl, hb⟩; have HB : Aside0 (Below w.heap.size w w') := ⟨below_step (by repeat (first | exact Below.refl _ _ | apply below_alloc)) hb⟩; clear hb)
  go_ret
  exact ⟨rfl, HB.out⟩
set_option maxRecDepth 100000 in
set_option maxHeartbeats 4000000 in
theorem less_any (x y : S39) (A B : Option Addr) (cA cB : Nat) (w : World) (h1 : x.f5.length ≤ cA) (h2 : k39.C w A x.f5.length x.f5) (h3 : y.f5.length ≤ cB) (h4 : k39.C w B y.f5.length y.f5) :
    Calls Tryz.prog 65 #[.agg #[.int .i64 x.f0, .bool x.f1, .int .i64 x.f2, .string x.f3, .string x.f4.f0, .string x.f4.f1, .slice A x.f5.length cA], .agg #[.int .i64 y.f0, .bool y.f1, .int .i64 y.f2, .string y.f3, .string y.f4.f0, .string y.f4.f1, .slice B y.f5.length cB]] w fun e w' => e = .returned (.bool (decide (cmpV x y < 0))) ∧ Below w.heap.size w w' := by
  have hc := fun W (hW : Below w.heap.size w W) => compare_any x y A B cA cB W h1 (Kd.C_below h2 hW) h3 (Kd.C_below h4 hW)
  clear h1 h2 h3 h4
  generalize cmpV x y = c at hc ⊢
  have HC := Aside0.mk hc
  clear hc
  go_enter Tryz.func65, Tryz.ntmps65
  go_wp2_with (go_at_call 74; refine (HC.out _ (by repeat (first | exact Below.refl _ _ | apply below_alloc))).mono ?_; rintro e w' ⟨rfl, hb⟩; have HB : Aside0 (Below w.heap.size w w') := ⟨below_step (by repeat (first | exact Below.refl _ _ | apply below_alloc)) hb⟩; clear hb)
  go_ret
  exact ⟨rfl, HB.out⟩
set_option maxRecDepth 100000 in
set_option maxHeartbeats 4000000 in
theorem lessUid_any (t i t2 i2 : ByteArray) (w : World) :
    Calls Tryz.prog 89 #[.agg #[.string t, .string i], .agg #[.string t2, .string i2]] w fun e w' => e = .returned (.bool (decide (cmpU t i t2 i2 < 0))) ∧ Below w.heap.size w w' := by
  have hc := fun W => compare_uid t i t2 i2 W
  generalize cmpU t i t2 i2 = c at hc ⊢
  have HC := Aside0.mk hc
  clear hc
  go_enter Tryz.func89, Tryz.ntmps89
  go_wp2_with (go_at_call 93; refine (HC.out _).mono ?_; rintro e w' ⟨rfl, hb⟩; have HB : Aside0 (Below w.heap.size w w') := ⟨below_step (by repeat (first | exact Below.refl _ _ | apply below_alloc)) hb⟩; clear hb)
  go_ret
  exact ⟨rfl, HB.out⟩
/-- Where a search by halves ends. -/
def searchF (p : Nat → Bool) : Nat → Nat → Nat → Nat
  | 0, a, _ => a
  | k + 1, a, b => if a < b then (if p ((a + b) / 2) then searchF p k a ((a + b) / 2) else searchF p k ((a + b) / 2 + 1) b) else a
end Go.Proofs.YtelibndkkokadaaGreat.GB
