import Derived.Test.YtnjlggpidkbjcaaGV0
/-! value.of, walked: one theorem a kind. Printed by wip/tools/value_of.py; goes over the first text of a print (G<KEY>0). -/
namespace Go.Proofs.Ytnjlggpidkbjcaa.GV
open Go.RowKit Go.Proofs.YtnjlggpidkbjcaaW.PrintWords Go.Proofs.YtnjlggpidkbjcaaW.PrintLast Go.Proofs.Ytnjlggpidkbjcaa.HandV Go.Proofs.YtnjlggpidkbjcaaW.PrintMore
attribute [local go_sem] max2_int min2_int max_two min_two max_three min_three max_four min_four
/-- Is something there that is not the kind's (ErrArg)? The kind's own field is handed in empty. -/
def ofRest (b : Bool) (n : Int) (s t i : List UInt8) (len : Nat) : Int := if b = true then 1 else if n = 0 then (if s = [] then (if t = [] then (if i = [] then (if len = 0 then 0 else 1) else 1) else 1) else 1) else 1
set_option maxHeartbeats 8000000 in
theorem value_of1 (b : Bool) (n : Int) (s t i : ByteArray) (A : Option Addr) (len cap : Nat) (w : World) :
    Calls Try.prog 31 #[.agg #[.int .i64 1, .bool b, .int .i64 n, .string s, .string t, .string i, .slice A len cap]] w fun e w' => e = .returned (.tuple #[.iface 78 (.bool b), .int .i64 (ofRest false n s.toList t.toList i.toList len)]) ∧ Below w.heap.size w w' := by
  have HB := Aside0.mk (Below.refl w.heap.size w)
  by_cases hn : n = 0
  · have hn_0 : (n == 0) = true := beq_iff_eq.mpr hn
    have hn_1 : (n != 0) = false := bne_eq_false_iff_eq.mpr hn
    by_cases hs : s.toList = []
    · have hs_0 : (s.toList == ([] : List UInt8)) = true := beq_iff_eq.mpr hs
      have hs_1 : (s.toList != ([] : List UInt8)) = false := bne_eq_false_iff_eq.mpr hs
      by_cases ht : t.toList = []
      · have ht_0 : (t.toList == ([] : List UInt8)) = true := beq_iff_eq.mpr ht
        have ht_1 : (t.toList != ([] : List UInt8)) = false := bne_eq_false_iff_eq.mpr ht
        by_cases hi : i.toList = []
        · have hi_0 : (i.toList == ([] : List UInt8)) = true := beq_iff_eq.mpr hi
          have hi_1 : (i.toList != ([] : List UInt8)) = false := bne_eq_false_iff_eq.mpr hi
          by_cases hl : len = 0
          · have hl_0 : decide (0 < (len : Int)) = false := decide_eq_false (by omega)
            have hl_1 : decide (0 < len) = false := decide_eq_false (by omega)
            have hE : ofRest false n s.toList t.toList i.toList len = 0 := by simp [ofRest, hn, hs, ht, hi, hl]
            rw [hE]
            clear hE
            go_enter Try.func31, Try.ntmps31
            go_wp2
            go_ret2
            exact ⟨rfl, by repeat (first | (with_reducible first | exact HB.out | apply below_alloc | apply pw_below_drewN | apply below_drew1) | (refine below_set ?_ (by simp)) | exact HB.out)⟩
          · have hl_0 : decide (0 < (len : Int)) = true := decide_eq_true (by omega)
            have hl_1 : decide (0 < len) = true := decide_eq_true (by omega)
            have hE : ofRest false n s.toList t.toList i.toList len = 1 := by simp [ofRest, hn, hs, ht, hi, hl]
            rw [hE]
            clear hE
            go_enter Try.func31, Try.ntmps31
            go_wp2
            go_ret2
            exact ⟨rfl, by repeat (first | (with_reducible first | exact HB.out | apply below_alloc | apply pw_below_drewN | apply below_drew1) | (refine below_set ?_ (by simp)) | exact HB.out)⟩
        · have hi_0 : (i.toList == ([] : List UInt8)) = false := beq_eq_false_iff_ne.mpr hi
          have hi_1 : (i.toList != ([] : List UInt8)) = true := bne_iff_ne.mpr hi
          have hE : ofRest false n s.toList t.toList i.toList len = 1 := by simp [ofRest, hn, hs, ht, hi]
          rw [hE]
          clear hE
          go_enter Try.func31, Try.ntmps31
          go_wp2
          go_ret2
          exact ⟨rfl, by repeat (first | (with_reducible first | exact HB.out | apply below_alloc | apply pw_below_drewN | apply below_drew1) | (refine below_set ?_ (by simp)) | exact HB.out)⟩
      · have ht_0 : (t.toList == ([] : List UInt8)) = false := beq_eq_false_iff_ne.mpr ht
        have ht_1 : (t.toList != ([] : List UInt8)) = true := bne_iff_ne.mpr ht
        have hE : ofRest false n s.toList t.toList i.toList len = 1 := by simp [ofRest, hn, hs, ht]
        rw [hE]
        clear hE
        go_enter Try.func31, Try.ntmps31
        go_wp2
        go_ret2
        exact ⟨rfl, by repeat (first | (with_reducible first | exact HB.out | apply below_alloc | apply pw_below_drewN | apply below_drew1) | (refine below_set ?_ (by simp)) | exact HB.out)⟩
    · have hs_0 : (s.toList == ([] : List UInt8)) = false := beq_eq_false_iff_ne.mpr hs
      have hs_1 : (s.toList != ([] : List UInt8)) = true := bne_iff_ne.mpr hs
      have hE : ofRest false n s.toList t.toList i.toList len = 1 := by simp [ofRest, hn, hs]
      rw [hE]
      clear hE
      go_enter Try.func31, Try.ntmps31
      go_wp2
      go_ret2
      exact ⟨rfl, by repeat (first | (with_reducible first | exact HB.out | apply below_alloc | apply pw_below_drewN | apply below_drew1) | (refine below_set ?_ (by simp)) | exact HB.out)⟩
  · have hn_0 : (n == 0) = false := beq_eq_false_iff_ne.mpr hn
    have hn_1 : (n != 0) = true := bne_iff_ne.mpr hn
    have hE : ofRest false n s.toList t.toList i.toList len = 1 := by simp [ofRest, hn]
    rw [hE]
    clear hE
    go_enter Try.func31, Try.ntmps31
    go_wp2
    go_ret2
    exact ⟨rfl, by repeat (first | (with_reducible first | exact HB.out | apply below_alloc | apply pw_below_drewN | apply below_drew1) | (refine below_set ?_ (by simp)) | exact HB.out)⟩
set_option maxHeartbeats 8000000 in
theorem value_of2 (b : Bool) (n : Int) (s t i : ByteArray) (A : Option Addr) (len cap : Nat) (w : World) :
    Calls Try.prog 31 #[.agg #[.int .i64 2, .bool b, .int .i64 n, .string s, .string t, .string i, .slice A len cap]] w fun e w' => e = .returned (.tuple #[.iface 79 (.int .i64 n), .int .i64 (ofRest b 0 s.toList t.toList i.toList len)]) ∧ Below w.heap.size w w' := by
  have HB := Aside0.mk (Below.refl w.heap.size w)
  cases b with
  | true =>
    have hE : ofRest true 0 s.toList t.toList i.toList len = 1 := by simp [ofRest]
    rw [hE]
    clear hE
    go_enter Try.func31, Try.ntmps31
    go_wp2
    go_ret2
    exact ⟨rfl, by repeat (first | (with_reducible first | exact HB.out | apply below_alloc | apply pw_below_drewN | apply below_drew1) | (refine below_set ?_ (by simp)) | exact HB.out)⟩
  | false =>
    by_cases hs : s.toList = []
    · have hs_0 : (s.toList == ([] : List UInt8)) = true := beq_iff_eq.mpr hs
      have hs_1 : (s.toList != ([] : List UInt8)) = false := bne_eq_false_iff_eq.mpr hs
      by_cases ht : t.toList = []
      · have ht_0 : (t.toList == ([] : List UInt8)) = true := beq_iff_eq.mpr ht
        have ht_1 : (t.toList != ([] : List UInt8)) = false := bne_eq_false_iff_eq.mpr ht
        by_cases hi : i.toList = []
        · have hi_0 : (i.toList == ([] : List UInt8)) = true := beq_iff_eq.mpr hi
          have hi_1 : (i.toList != ([] : List UInt8)) = false := bne_eq_false_iff_eq.mpr hi
          by_cases hl : len = 0
          · have hl_0 : decide (0 < (len : Int)) = false := decide_eq_false (by omega)
            have hl_1 : decide (0 < len) = false := decide_eq_false (by omega)
            have hE : ofRest false 0 s.toList t.toList i.toList len = 0 := by simp [ofRest, hs, ht, hi, hl]
            rw [hE]
            clear hE
            go_enter Try.func31, Try.ntmps31
            go_wp2
            go_ret2
            exact ⟨rfl, by repeat (first | (with_reducible first | exact HB.out | apply below_alloc | apply pw_below_drewN | apply below_drew1) | (refine below_set ?_ (by simp)) | exact HB.out)⟩
          · have hl_0 : decide (0 < (len : Int)) = true := decide_eq_true (by omega)
            have hl_1 : decide (0 < len) = true := decide_eq_true (by omega)
            have hE : ofRest false 0 s.toList t.toList i.toList len = 1 := by simp [ofRest, hs, ht, hi, hl]
            rw [hE]
            clear hE
            go_enter Try.func31, Try.ntmps31
            go_wp2
            go_ret2
            exact ⟨rfl, by repeat (first | (with_reducible first | exact HB.out | apply below_alloc | apply pw_below_drewN | apply below_drew1) | (refine below_set ?_ (by simp)) | exact HB.out)⟩
        · have hi_0 : (i.toList == ([] : List UInt8)) = false := beq_eq_false_iff_ne.mpr hi
          have hi_1 : (i.toList != ([] : List UInt8)) = true := bne_iff_ne.mpr hi
          have hE : ofRest false 0 s.toList t.toList i.toList len = 1 := by simp [ofRest, hs, ht, hi]
          rw [hE]
          clear hE
          go_enter Try.func31, Try.ntmps31
          go_wp2
          go_ret2
          exact ⟨rfl, by repeat (first | (with_reducible first | exact HB.out | apply below_alloc | apply pw_below_drewN | apply below_drew1) | (refine below_set ?_ (by simp)) | exact HB.out)⟩
      · have ht_0 : (t.toList == ([] : List UInt8)) = false := beq_eq_false_iff_ne.mpr ht
        have ht_1 : (t.toList != ([] : List UInt8)) = true := bne_iff_ne.mpr ht
        have hE : ofRest false 0 s.toList t.toList i.toList len = 1 := by simp [ofRest, hs, ht]
        rw [hE]
        clear hE
        go_enter Try.func31, Try.ntmps31
        go_wp2
        go_ret2
        exact ⟨rfl, by repeat (first | (with_reducible first | exact HB.out | apply below_alloc | apply pw_below_drewN | apply below_drew1) | (refine below_set ?_ (by simp)) | exact HB.out)⟩
    · have hs_0 : (s.toList == ([] : List UInt8)) = false := beq_eq_false_iff_ne.mpr hs
      have hs_1 : (s.toList != ([] : List UInt8)) = true := bne_iff_ne.mpr hs
      have hE : ofRest false 0 s.toList t.toList i.toList len = 1 := by simp [ofRest, hs]
      rw [hE]
      clear hE
      go_enter Try.func31, Try.ntmps31
      go_wp2
      go_ret2
      exact ⟨rfl, by repeat (first | (with_reducible first | exact HB.out | apply below_alloc | apply pw_below_drewN | apply below_drew1) | (refine below_set ?_ (by simp)) | exact HB.out)⟩
set_option maxHeartbeats 8000000 in
theorem value_of3 (b : Bool) (n : Int) (s t i : ByteArray) (A : Option Addr) (len cap : Nat) (w : World) :
    Calls Try.prog 31 #[.agg #[.int .i64 3, .bool b, .int .i64 n, .string s, .string t, .string i, .slice A len cap]] w fun e w' => e = .returned (.tuple #[.iface 80 (.string s), .int .i64 (ofRest b n [] t.toList i.toList len)]) ∧ Below w.heap.size w w' := by
  have HB := Aside0.mk (Below.refl w.heap.size w)
  cases b with
  | true =>
    have hE : ofRest true n [] t.toList i.toList len = 1 := by simp [ofRest]
    rw [hE]
    clear hE
    go_enter Try.func31, Try.ntmps31
    go_wp2
    go_ret2
    exact ⟨rfl, by repeat (first | (with_reducible first | exact HB.out | apply below_alloc | apply pw_below_drewN | apply below_drew1) | (refine below_set ?_ (by simp)) | exact HB.out)⟩
  | false =>
    by_cases hn : n = 0
    · have hn_0 : (n == 0) = true := beq_iff_eq.mpr hn
      have hn_1 : (n != 0) = false := bne_eq_false_iff_eq.mpr hn
      by_cases ht : t.toList = []
      · have ht_0 : (t.toList == ([] : List UInt8)) = true := beq_iff_eq.mpr ht
        have ht_1 : (t.toList != ([] : List UInt8)) = false := bne_eq_false_iff_eq.mpr ht
        by_cases hi : i.toList = []
        · have hi_0 : (i.toList == ([] : List UInt8)) = true := beq_iff_eq.mpr hi
          have hi_1 : (i.toList != ([] : List UInt8)) = false := bne_eq_false_iff_eq.mpr hi
          by_cases hl : len = 0
          · have hl_0 : decide (0 < (len : Int)) = false := decide_eq_false (by omega)
            have hl_1 : decide (0 < len) = false := decide_eq_false (by omega)
            have hE : ofRest false n [] t.toList i.toList len = 0 := by simp [ofRest, hn, ht, hi, hl]
            rw [hE]
            clear hE
            go_enter Try.func31, Try.ntmps31
            go_wp2
            go_ret2
            exact ⟨rfl, by repeat (first | (with_reducible first | exact HB.out | apply below_alloc | apply pw_below_drewN | apply below_drew1) | (refine below_set ?_ (by simp)) | exact HB.out)⟩
          · have hl_0 : decide (0 < (len : Int)) = true := decide_eq_true (by omega)
            have hl_1 : decide (0 < len) = true := decide_eq_true (by omega)
            have hE : ofRest false n [] t.toList i.toList len = 1 := by simp [ofRest, hn, ht, hi, hl]
            rw [hE]
            clear hE
            go_enter Try.func31, Try.ntmps31
            go_wp2
            go_ret2
            exact ⟨rfl, by repeat (first | (with_reducible first | exact HB.out | apply below_alloc | apply pw_below_drewN | apply below_drew1) | (refine below_set ?_ (by simp)) | exact HB.out)⟩
        · have hi_0 : (i.toList == ([] : List UInt8)) = false := beq_eq_false_iff_ne.mpr hi
          have hi_1 : (i.toList != ([] : List UInt8)) = true := bne_iff_ne.mpr hi
          have hE : ofRest false n [] t.toList i.toList len = 1 := by simp [ofRest, hn, ht, hi]
          rw [hE]
          clear hE
          go_enter Try.func31, Try.ntmps31
          go_wp2
          go_ret2
          exact ⟨rfl, by repeat (first | (with_reducible first | exact HB.out | apply below_alloc | apply pw_below_drewN | apply below_drew1) | (refine below_set ?_ (by simp)) | exact HB.out)⟩
      · have ht_0 : (t.toList == ([] : List UInt8)) = false := beq_eq_false_iff_ne.mpr ht
        have ht_1 : (t.toList != ([] : List UInt8)) = true := bne_iff_ne.mpr ht
        have hE : ofRest false n [] t.toList i.toList len = 1 := by simp [ofRest, hn, ht]
        rw [hE]
        clear hE
        go_enter Try.func31, Try.ntmps31
        go_wp2
        go_ret2
        exact ⟨rfl, by repeat (first | (with_reducible first | exact HB.out | apply below_alloc | apply pw_below_drewN | apply below_drew1) | (refine below_set ?_ (by simp)) | exact HB.out)⟩
    · have hn_0 : (n == 0) = false := beq_eq_false_iff_ne.mpr hn
      have hn_1 : (n != 0) = true := bne_iff_ne.mpr hn
      have hE : ofRest false n [] t.toList i.toList len = 1 := by simp [ofRest, hn]
      rw [hE]
      clear hE
      go_enter Try.func31, Try.ntmps31
      go_wp2
      go_ret2
      exact ⟨rfl, by repeat (first | (with_reducible first | exact HB.out | apply below_alloc | apply pw_below_drewN | apply below_drew1) | (refine below_set ?_ (by simp)) | exact HB.out)⟩
set_option maxHeartbeats 8000000 in
theorem value_of4 (b : Bool) (n : Int) (s t i : ByteArray) (A : Option Addr) (len cap : Nat) (w : World) :
    Calls Try.prog 31 #[.agg #[.int .i64 4, .bool b, .int .i64 n, .string s, .string t, .string i, .slice A len cap]] w fun e w' => e = .returned (.tuple #[.iface 70 (.agg #[.string t, .string i]), .int .i64 (ofRest b n s.toList [] [] len)]) ∧ Below w.heap.size w w' := by
  have HB := Aside0.mk (Below.refl w.heap.size w)
  cases b with
  | true =>
    have hE : ofRest true n s.toList [] [] len = 1 := by simp [ofRest]
    rw [hE]
    clear hE
    go_enter Try.func31, Try.ntmps31
    go_wp2
    go_ret2
    exact ⟨rfl, by repeat (first | (with_reducible first | exact HB.out | apply below_alloc | apply pw_below_drewN | apply below_drew1) | (refine below_set ?_ (by simp)) | exact HB.out)⟩
  | false =>
    by_cases hn : n = 0
    · have hn_0 : (n == 0) = true := beq_iff_eq.mpr hn
      have hn_1 : (n != 0) = false := bne_eq_false_iff_eq.mpr hn
      by_cases hs : s.toList = []
      · have hs_0 : (s.toList == ([] : List UInt8)) = true := beq_iff_eq.mpr hs
        have hs_1 : (s.toList != ([] : List UInt8)) = false := bne_eq_false_iff_eq.mpr hs
        by_cases hl : len = 0
        · have hl_0 : decide (0 < (len : Int)) = false := decide_eq_false (by omega)
          have hl_1 : decide (0 < len) = false := decide_eq_false (by omega)
          have hE : ofRest false n s.toList [] [] len = 0 := by simp [ofRest, hn, hs, hl]
          rw [hE]
          clear hE
          go_enter Try.func31, Try.ntmps31
          go_wp2
          go_ret2
          exact ⟨rfl, by repeat (first | (with_reducible first | exact HB.out | apply below_alloc | apply pw_below_drewN | apply below_drew1) | (refine below_set ?_ (by simp)) | exact HB.out)⟩
        · have hl_0 : decide (0 < (len : Int)) = true := decide_eq_true (by omega)
          have hl_1 : decide (0 < len) = true := decide_eq_true (by omega)
          have hE : ofRest false n s.toList [] [] len = 1 := by simp [ofRest, hn, hs, hl]
          rw [hE]
          clear hE
          go_enter Try.func31, Try.ntmps31
          go_wp2
          go_ret2
          exact ⟨rfl, by repeat (first | (with_reducible first | exact HB.out | apply below_alloc | apply pw_below_drewN | apply below_drew1) | (refine below_set ?_ (by simp)) | exact HB.out)⟩
      · have hs_0 : (s.toList == ([] : List UInt8)) = false := beq_eq_false_iff_ne.mpr hs
        have hs_1 : (s.toList != ([] : List UInt8)) = true := bne_iff_ne.mpr hs
        have hE : ofRest false n s.toList [] [] len = 1 := by simp [ofRest, hn, hs]
        rw [hE]
        clear hE
        go_enter Try.func31, Try.ntmps31
        go_wp2
        go_ret2
        exact ⟨rfl, by repeat (first | (with_reducible first | exact HB.out | apply below_alloc | apply pw_below_drewN | apply below_drew1) | (refine below_set ?_ (by simp)) | exact HB.out)⟩
    · have hn_0 : (n == 0) = false := beq_eq_false_iff_ne.mpr hn
      have hn_1 : (n != 0) = true := bne_iff_ne.mpr hn
      have hE : ofRest false n s.toList [] [] len = 1 := by simp [ofRest, hn]
      rw [hE]
      clear hE
      go_enter Try.func31, Try.ntmps31
      go_wp2
      go_ret2
      exact ⟨rfl, by repeat (first | (with_reducible first | exact HB.out | apply below_alloc | apply pw_below_drewN | apply below_drew1) | (refine below_set ?_ (by simp)) | exact HB.out)⟩
set_option maxHeartbeats 8000000 in
theorem value_of5 (b : Bool) (n : Int) (s t i : ByteArray) (A : Option Addr) (len cap : Nat) (w : World) :
    Calls Try.prog 31 #[.agg #[.int .i64 5, .bool b, .int .i64 n, .string s, .string t, .string i, .slice A len cap]] w fun e w' => e = .returned (.tuple #[.iface 64 (.slice A len cap), .int .i64 (ofRest b n s.toList t.toList i.toList 0)]) ∧ Below w.heap.size w w' := by
  have HB := Aside0.mk (Below.refl w.heap.size w)
  cases b with
  | true =>
    have hE : ofRest true n s.toList t.toList i.toList 0 = 1 := by simp [ofRest]
    rw [hE]
    clear hE
    go_enter Try.func31, Try.ntmps31
    go_wp2
    go_ret2
    exact ⟨rfl, by repeat (first | (with_reducible first | exact HB.out | apply below_alloc | apply pw_below_drewN | apply below_drew1) | (refine below_set ?_ (by simp)) | exact HB.out)⟩
  | false =>
    by_cases hn : n = 0
    · have hn_0 : (n == 0) = true := beq_iff_eq.mpr hn
      have hn_1 : (n != 0) = false := bne_eq_false_iff_eq.mpr hn
      by_cases hs : s.toList = []
      · have hs_0 : (s.toList == ([] : List UInt8)) = true := beq_iff_eq.mpr hs
        have hs_1 : (s.toList != ([] : List UInt8)) = false := bne_eq_false_iff_eq.mpr hs
        by_cases ht : t.toList = []
        · have ht_0 : (t.toList == ([] : List UInt8)) = true := beq_iff_eq.mpr ht
          have ht_1 : (t.toList != ([] : List UInt8)) = false := bne_eq_false_iff_eq.mpr ht
          by_cases hi : i.toList = []
          · have hi_0 : (i.toList == ([] : List UInt8)) = true := beq_iff_eq.mpr hi
            have hi_1 : (i.toList != ([] : List UInt8)) = false := bne_eq_false_iff_eq.mpr hi
            have hE : ofRest false n s.toList t.toList i.toList 0 = 0 := by simp [ofRest, hn, hs, ht, hi]
            rw [hE]
            clear hE
            go_enter Try.func31, Try.ntmps31
            go_wp2
            go_ret2
            exact ⟨rfl, by repeat (first | (with_reducible first | exact HB.out | apply below_alloc | apply pw_below_drewN | apply below_drew1) | (refine below_set ?_ (by simp)) | exact HB.out)⟩
          · have hi_0 : (i.toList == ([] : List UInt8)) = false := beq_eq_false_iff_ne.mpr hi
            have hi_1 : (i.toList != ([] : List UInt8)) = true := bne_iff_ne.mpr hi
            have hE : ofRest false n s.toList t.toList i.toList 0 = 1 := by simp [ofRest, hn, hs, ht, hi]
            rw [hE]
            clear hE
            go_enter Try.func31, Try.ntmps31
            go_wp2
            go_ret2
            exact ⟨rfl, by repeat (first | (with_reducible first | exact HB.out | apply below_alloc | apply pw_below_drewN | apply below_drew1) | (refine below_set ?_ (by simp)) | exact HB.out)⟩
        · have ht_0 : (t.toList == ([] : List UInt8)) = false := beq_eq_false_iff_ne.mpr ht
          have ht_1 : (t.toList != ([] : List UInt8)) = true := bne_iff_ne.mpr ht
          have hE : ofRest false n s.toList t.toList i.toList 0 = 1 := by simp [ofRest, hn, hs, ht]
          rw [hE]
          clear hE
          go_enter Try.func31, Try.ntmps31
          go_wp2
          go_ret2
          exact ⟨rfl, by repeat (first | (with_reducible first | exact HB.out | apply below_alloc | apply pw_below_drewN | apply below_drew1) | (refine below_set ?_ (by simp)) | exact HB.out)⟩
      · have hs_0 : (s.toList == ([] : List UInt8)) = false := beq_eq_false_iff_ne.mpr hs
        have hs_1 : (s.toList != ([] : List UInt8)) = true := bne_iff_ne.mpr hs
        have hE : ofRest false n s.toList t.toList i.toList 0 = 1 := by simp [ofRest, hn, hs]
        rw [hE]
        clear hE
        go_enter Try.func31, Try.ntmps31
        go_wp2
        go_ret2
        exact ⟨rfl, by repeat (first | (with_reducible first | exact HB.out | apply below_alloc | apply pw_below_drewN | apply below_drew1) | (refine below_set ?_ (by simp)) | exact HB.out)⟩
    · have hn_0 : (n == 0) = false := beq_eq_false_iff_ne.mpr hn
      have hn_1 : (n != 0) = true := bne_iff_ne.mpr hn
      have hE : ofRest false n s.toList t.toList i.toList 0 = 1 := by simp [ofRest, hn]
      rw [hE]
      clear hE
      go_enter Try.func31, Try.ntmps31
      go_wp2
      go_ret2
      exact ⟨rfl, by repeat (first | (with_reducible first | exact HB.out | apply below_alloc | apply pw_below_drewN | apply below_drew1) | (refine below_set ?_ (by simp)) | exact HB.out)⟩
set_option maxHeartbeats 8000000 in
theorem value_of0 (k : Int) (h1 : k ≠ 1) (h2 : k ≠ 2) (h3 : k ≠ 3) (h4 : k ≠ 4) (h5 : k ≠ 5) (b : Bool) (n : Int) (s t i : ByteArray) (A : Option Addr) (len cap : Nat) (w : World) :
    Calls Try.prog 31 #[.agg #[.int .i64 k, .bool b, .int .i64 n, .string s, .string t, .string i, .slice A len cap]] w fun e w' => e = .returned (.tuple #[.nilIface, .int .i64 3]) ∧ Below w.heap.size w w' := by
  have HB := Aside0.mk (Below.refl w.heap.size w)
  have h1_0 : (k == 1) = false := beq_eq_false_iff_ne.mpr h1
  have h2_0 : (k == 2) = false := beq_eq_false_iff_ne.mpr h2
  have h3_0 : (k == 3) = false := beq_eq_false_iff_ne.mpr h3
  have h4_0 : (k == 4) = false := beq_eq_false_iff_ne.mpr h4
  have h5_0 : (k == 5) = false := beq_eq_false_iff_ne.mpr h5
  go_enter Try.func31, Try.ntmps31
  go_wp2
  go_ret2
  exact ⟨rfl, by repeat (first | (with_reducible first | exact HB.out | apply below_alloc | apply pw_below_drewN | apply below_drew1) | (refine below_set ?_ (by simp)) | exact HB.out)⟩
end Go.Proofs.Ytnjlggpidkbjcaa.GV
