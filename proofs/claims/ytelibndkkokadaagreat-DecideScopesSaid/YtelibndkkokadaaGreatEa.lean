import Derived.Test.YtelibndkkokadaaGreatGB0
import Derived.StillTailTactics
import Derived.Laws.Cover1
namespace Go.Proofs.YtelibndkkokadaaGreat.GB
open Go.RowKit Go.Proofs.YtelibndkkokadaaGreatW.PrintWords Go.Proofs.YtelibndkkokadaaGreatW.PrintLast Go.Proofs.YtelibndkkokadaaGreat.HandV Go.Proofs.YtelibndkkokadaaGreatW.PrintMore
attribute [local go_sem] max2_int min2_int max_two min_two max_three min_three max_four min_four   -- for this text's walks alone
set_option linter.unusedVariables false
set_option linter.unusedSimpArgs false
-- IMPORT Derived.StillTailTactics
-- IMPORT Derived.Laws.Cover1
/-- Is something there that is not the kind's (ErrArg)? The kind's own field is handed in empty. -/
def ofRest (b : Bool) (n : Int) (s t i : List UInt8) (len : Nat) : Int := if b = true then 1 else if n = 0 then (if s = [] then (if t = [] then (if i = [] then (if len = 0 then 0 else 1) else 1) else 1) else 1) else 1
set_option maxHeartbeats 8000000 in
theorem value_of4 (b : Bool) (n : Int) (s t i : ByteArray) (A : Option Addr) (len cap : Nat) (w : World) :
    Calls Tryz.prog 71 #[.agg #[.int .i64 4, .bool b, .int .i64 n, .string s, .string t, .string i, .slice A len cap]] w fun e w' => e = .returned (.tuple #[.iface 165 (.agg #[.string t, .string i]), .int .i64 (ofRest b n s.toList [] [] len)]) ∧ Below w.heap.size w w' := by
  have HB := Aside0.mk (Below.refl w.heap.size w)
  cases b with
  | true =>
    have hE : ofRest true n s.toList [] [] len = 1 := by simp [ofRest]
    rw [hE]
    clear hE
    go_enter Tryz.func71, Tryz.ntmps71
    go_wp2
    go_ret2
    exact ⟨rfl, by repeat (first | (with_reducible first | exact HB.out | apply below_alloc | apply pw_below_drewN | apply below_drew1) | (refine below_set ?_ (by simp)) | exact HB.out)⟩
  | false =>
    by_cases hn : n = 0
    · have hn_0 : (n == 0) = true := beq_iff_eq.mpr hn
      have hn_1 : (n != 0) = false := bne_eq_false_iff_eq.mpr hn
      by_cases hs : s.toList = []
      · have hs_0 : (s.toList == ([] : List UInt8)) = true := beq_iff_eq.mpr hs
        have hs_1 : (s.toList != ([] : List UInt8)) = false := bne_eq_false_iff_eq.mpr hs
        by_cases hl : len = 0
        · have hl_0 : decide (0 < (len : Int)) = false := decide_eq_false (by omega)
          have hl_1 : decide (0 < len) = false := decide_eq_false (by omega)
          have hE : ofRest false n s.toList [] [] len = 0 := by simp [ofRest, hn, hs, hl]
          rw [hE]
          clear hE
          go_enter Tryz.func71, Tryz.ntmps71
          go_wp2
          go_ret2
          exact ⟨rfl, by repeat (first | (with_reducible first | exact HB.out | apply below_alloc | apply pw_below_drewN | apply below_drew1) | (refine below_set ?_ (by simp)) | exact HB.out)⟩
        · have hl_0 : decide (0 < (len : Int)) = true := decide_eq_true (by omega)
          have hl_1 : decide (0 < len) = true := decide_eq_true (by omega)
          have hE : ofRest false n s.toList [] [] len = 1 := by simp [ofRest, hn, hs, hl]
          rw [hE]
          clear hE
          go_enter Tryz.func71, Tryz.ntmps71
          go_wp2
          go_ret2
          exact ⟨rfl, by repeat (first | (with_reducible first | exact HB.out | apply below_alloc | apply pw_below_drewN | apply below_drew1) | (refine below_set ?_ (by simp)) | exact HB.out)⟩
      · have hs_0 : (s.toList == ([] : List UInt8)) = false := beq_eq_false_iff_ne.mpr hs
        have hs_1 : (s.toList != ([] : List UInt8)) = true := bne_iff_ne.mpr hs
        have hE : ofRest false n s.toList [] [] len = 1 := by simp [ofRest, hn, hs]
        rw [hE]
        clear hE
        go_enter Tryz.func71, Tryz.ntmps71
        go_wp2
        go_ret2
        exact ⟨rfl, by repeat (first | (with_reducible first | exact HB.out | apply below_alloc | apply pw_below_drewN | apply below_drew1) | (refine below_set ?_ (by simp)) | exact HB.out)⟩
    · have hn_0 : (n == 0) = false := beq_eq_false_iff_ne.mpr hn
      have hn_1 : (n != 0) = true := bne_iff_ne.mpr hn
      have hE : ofRest false n s.toList [] [] len = 1 := by simp [ofRest, hn]
      rw [hE]
      clear hE
      go_enter Tryz.func71, Tryz.ntmps71
      go_wp2
      go_ret2
      exact ⟨rfl, by repeat (first | (with_reducible first | exact HB.out | apply below_alloc | apply pw_below_drewN | apply below_drew1) | (refine below_set ?_ (by simp)) | exact HB.out)⟩
/-- How two whole numbers stand. -/
def cmpI (a b : Int) : Int := if a < b then -1 else if a > b then 1 else 0
/-- How two texts stand, byte by byte. -/
def cmpS (s t : ByteArray) : Int := if Op.bytesLess s.toList t.toList = true then -1 else if s.toList = t.toList then 0 else 1
def cmpB (x y : Bool) : Int := if x = y then 0 else if y then -1 else 1
/-- The first of two that is not nought. -/
def orI (a b : Int) : Int := if a = 0 then b else a
/-- How two uids stand. -/
def cmpU (t i t2 i2 : ByteArray) : Int := orI (cmpS t t2) (cmpS i i2)
set_option maxRecDepth 100000 in
theorem nan_int (n : Int) (w : World) : Calls Tryz.prog 91 #[.int .i64 n] w fun e w' => e = .returned (.bool false) ∧ w = w' := by
  go_enter Tryz.func91, Tryz.ntmps91
  go_wp2
  go_ret
  exact ⟨by first | rfl | simp, rfl⟩
set_option maxRecDepth 100000 in
theorem cmp_int (n m : Int) (w : World) : Calls Tryz.prog 86 #[.int .i64 n, .int .i64 m] w fun e w' => e = .returned (.int .i64 (cmpI n m)) ∧ w = w' := by
  unfold cmpI
  by_cases h1 : n < m
  · have h1_0 : decide (n < m) = true := decide_eq_true h1
    rw [if_pos h1]
    go_enter Tryz.func86, Tryz.ntmps86
    go_wp2_with (go_at_call 91; refine (nan_int _ _).mono ?_; rintro e w' ⟨rfl, rfl⟩)
    go_ret
    exact ⟨rfl, rfl⟩
  · have h1_0 : decide (n < m) = false := decide_eq_false h1
    rw [if_neg h1]
    by_cases h2 : n > m
    · have h2_0 : decide (m < n) = true := decide_eq_true h2
      rw [if_pos h2]
      go_enter Tryz.func86, Tryz.ntmps86
      go_wp2_with (go_at_call 91; refine (nan_int _ _).mono ?_; rintro e w' ⟨rfl, rfl⟩)
      go_ret
      exact ⟨rfl, rfl⟩
    · have h2_0 : decide (m < n) = false := decide_eq_false h2
      rw [if_neg h2]
      go_enter Tryz.func86, Tryz.ntmps86
      go_wp2_with (go_at_call 91; refine (nan_int _ _).mono ?_; rintro e w' ⟨rfl, rfl⟩)
      go_ret
      exact ⟨rfl, rfl⟩
set_option maxRecDepth 100000 in
theorem nan_number (n : Int) (w : World) : Calls Tryz.prog 124 #[.int .i64 n] w fun e w' => e = .returned (.bool false) ∧ w = w' := by
  go_enter Tryz.func124, Tryz.ntmps124
  go_wp2
  go_ret
  exact ⟨by first | rfl | simp, rfl⟩
set_option maxRecDepth 100000 in
theorem cmp_number (n m : Int) (w : World) : Calls Tryz.prog 123 #[.int .i64 n, .int .i64 m] w fun e w' => e = .returned (.int .i64 (cmpI n m)) ∧ w = w' := by
  unfold cmpI
  by_cases h1 : n < m
  · have h1_0 : decide (n < m) = true := decide_eq_true h1
    rw [if_pos h1]
    go_enter Tryz.func123, Tryz.ntmps123
    go_wp2_with (go_at_call 124; refine (nan_number _ _).mono ?_; rintro e w' ⟨rfl, rfl⟩)
    go_ret
    exact ⟨rfl, rfl⟩
  · have h1_0 : decide (n < m) = false := decide_eq_false h1
    rw [if_neg h1]
    by_cases h2 : n > m
    · have h2_0 : decide (m < n) = true := decide_eq_true h2
      rw [if_pos h2]
      go_enter Tryz.func123, Tryz.ntmps123
      go_wp2_with (go_at_call 124; refine (nan_number _ _).mono ?_; rintro e w' ⟨rfl, rfl⟩)
      go_ret
      exact ⟨rfl, rfl⟩
    · have h2_0 : decide (m < n) = false := decide_eq_false h2
      rw [if_neg h2]
      go_enter Tryz.func123, Tryz.ntmps123
      go_wp2_with (go_at_call 124; refine (nan_number _ _).mono ?_; rintro e w' ⟨rfl, rfl⟩)
      go_ret
      exact ⟨rfl, rfl⟩
set_option maxRecDepth 100000 in
theorem nan_words (n : ByteArray) (w : World) : Calls Tryz.prog 129 #[.string n] w fun e w' => e = .returned (.bool false) ∧ w = w' := by
  go_enter Tryz.func129, Tryz.ntmps129
  go_wp2
  go_ret
  exact ⟨by first | rfl | simp, rfl⟩
set_option maxRecDepth 100000 in
theorem cmp_words (s t : ByteArray) (w : World) : Calls Tryz.prog 128 #[.string s, .string t] w fun e w' => e = .returned (.int .i64 (cmpS s t)) ∧ w = w' := by
  unfold cmpS
  cases h1 : Op.bytesLess s.toList t.toList with
  | true =>
    rw [if_pos rfl]
    go_enter Tryz.func128, Tryz.ntmps128
    go_wp2_with (go_at_call 129; refine (nan_words _ _).mono ?_; rintro e w' ⟨rfl, rfl⟩)
    go_ret
    exact ⟨rfl, rfl⟩
  | false =>
    rw [if_neg (by decide)]
    by_cases h2 : s.toList = t.toList
    · have h2_0 : (s.toList == t.toList) = true := beq_iff_eq.mpr h2
      rw [if_pos h2]
      clear h2
      go_enter Tryz.func128, Tryz.ntmps128
      go_wp2_with (go_at_call 129; refine (nan_words _ _).mono ?_; rintro e w' ⟨rfl, rfl⟩)
      go_ret
      exact ⟨rfl, rfl⟩
    · have h2_0 : (s.toList == t.toList) = false := beq_eq_false_iff_ne.mpr h2
      rw [if_neg h2]
      clear h2
      go_enter Tryz.func128, Tryz.ntmps128
      go_wp2_with (go_at_call 129; refine (nan_words _ _).mono ?_; rintro e w' ⟨rfl, rfl⟩)
      go_ret
      exact ⟨rfl, rfl⟩
set_option maxRecDepth 100000 in
theorem nan_string (n : ByteArray) (w : World) : Calls Tryz.prog 96 #[.string n] w fun e w' => e = .returned (.bool false) ∧ w = w' := by
  go_enter Tryz.func96, Tryz.ntmps96
  go_wp2
  go_ret
  exact ⟨by first | rfl | simp, rfl⟩
set_option maxRecDepth 100000 in
theorem cmp_string (s t : ByteArray) (w : World) : Calls Tryz.prog 95 #[.string s, .string t] w fun e w' => e = .returned (.int .i64 (cmpS s t)) ∧ w = w' := by
  unfold cmpS
  cases h1 : Op.bytesLess s.toList t.toList with
  | true =>
    rw [if_pos rfl]
    go_enter Tryz.func95, Tryz.ntmps95
    go_wp2_with (go_at_call 96; refine (nan_string _ _).mono ?_; rintro e w' ⟨rfl, rfl⟩)
    go_ret
    exact ⟨rfl, rfl⟩
  | false =>
    rw [if_neg (by decide)]
    by_cases h2 : s.toList = t.toList
    · have h2_0 : (s.toList == t.toList) = true := beq_iff_eq.mpr h2
      rw [if_pos h2]
      clear h2
      go_enter Tryz.func95, Tryz.ntmps95
      go_wp2_with (go_at_call 96; refine (nan_string _ _).mono ?_; rintro e w' ⟨rfl, rfl⟩)
      go_ret
      exact ⟨rfl, rfl⟩
    · have h2_0 : (s.toList == t.toList) = false := beq_eq_false_iff_ne.mpr h2
      rw [if_neg h2]
      clear h2
      go_enter Tryz.func95, Tryz.ntmps95
      go_wp2_with (go_at_call 96; refine (nan_string _ _).mono ?_; rintro e w' ⟨rfl, rfl⟩)
      go_ret
      exact ⟨rfl, rfl⟩
theorem ta_ok (T I : TypeId) (x : Value) (w : World) (h : Sem.run Tryz.prog (Instr.typeAssert (.iface T x) I T false) w = .ok x w) : Sem.run Tryz.prog (Instr.typeAssert (.iface T x) I T false) w = .ok x w := h
theorem ta_number (x : Value) (w : World) : Sem.run Tryz.prog (Instr.typeAssert (.iface 163 x) 144 163 false) w = .ok x w := by simp [Instr.typeAssert, go_sem]
theorem ta_words (x : Value) (w : World) : Sem.run Tryz.prog (Instr.typeAssert (.iface 164 x) 144 164 false) w = .ok x w := by simp [Instr.typeAssert, go_sem]
theorem ta_truth (x : Value) (w : World) : Sem.run Tryz.prog (Instr.typeAssert (.iface 162 x) 144 162 false) w = .ok x w := by simp [Instr.typeAssert, go_sem]
theorem ta_uid (x : Value) (w : World) : Sem.run Tryz.prog (Instr.typeAssert (.iface 165 x) 144 165 false) w = .ok x w := by simp [Instr.typeAssert, go_sem]
theorem ta_set (x : Value) (w : World) : Sem.run Tryz.prog (Instr.typeAssert (.iface 147 x) 144 147 false) w = .ok x w := by simp [Instr.typeAssert, go_sem]
set_option maxRecDepth 100000 in
theorem compare_number (n m : Int) (w : World) : Calls Tryz.prog 121 #[.int .i64 n, .iface 163 (.int .i64 m)] w fun e w' => e = .returned (.int .i64 (cmpI n m)) ∧ w = w' := by
  have hta := ta_number (Value.int .i64 m)
  go_enter Tryz.func121, Tryz.ntmps121
  go_wp2_with (go_at_call 123; refine (cmp_number _ _ _).mono ?_; rintro e w' ⟨rfl, rfl⟩)
  go_ret
  exact ⟨rfl, rfl⟩
set_option maxRecDepth 100000 in
theorem compare_words (n m : ByteArray) (w : World) : Calls Tryz.prog 126 #[.string n, .iface 164 (.string m)] w fun e w' => e = .returned (.int .i64 (cmpS n m)) ∧ w = w' := by
  have hta := ta_words (Value.string m)
  go_enter Tryz.func126, Tryz.ntmps126
  go_wp2_with (go_at_call 128; refine (cmp_words _ _ _).mono ?_; rintro e w' ⟨rfl, rfl⟩)
  go_ret
  exact ⟨rfl, rfl⟩
set_option maxRecDepth 100000 in
theorem compare_truth (x y : Bool) (w : World) : Calls Tryz.prog 118 #[.bool x, .iface 162 (.bool y)] w fun e w' => e = .returned (.int .i64 (cmpB x y)) ∧ w = w' := by
  have hta := ta_truth (Value.bool y)
  cases x <;> cases y <;>
  · go_enter Tryz.func118, Tryz.ntmps118
    go_wp2
    go_ret
    exact ⟨rfl, rfl⟩
set_option maxRecDepth 100000 in
theorem or_two (a b : Int) (g c : Nat) (w : World) (ha : w.cell? ⟨g, 0, none⟩ = some (.int .i64 a)) (hb : w.cell? ⟨g, 1, none⟩ = some (.int .i64 b)) :
    Calls Tryz.prog 94 #[.slice (some ⟨g, 0, none⟩) 2 c] w fun e w' => e = .returned (.int .i64 (orI a b)) ∧ w = w' := by
  obtain ⟨r, hr⟩ : ∃ r, orI a b = r := ⟨_, rfl⟩
  rw [hr]
  unfold orI at hr
  go_enter Tryz.func94, Tryz.ntmps94
  go_wp2
  go_loopw [8] (fun v wr => wr = w ∧ (v = .int .i64 0 ∨ (v = .int .i64 1 ∧ a = 0) ∨ (v = .int .i64 2 ∧ a = 0 ∧ b = 0))) (fun v _ => match v with | .int _ x => 2 - x.toNat | _ => 0)
  case atStart => exact ⟨rfl, .inl rfl⟩
  case round =>
    obtain ⟨rfl, rfl | ⟨rfl, h0⟩ | ⟨rfl, h0, h1⟩⟩ := hrel
    · by_cases h : a = 0
      · have h_1 : (a != 0) = false := bne_eq_false_iff_eq.mpr h
        clear hr
        have H := Aside0.mk h
        clear h
        go_wp2
        go_roundw
        case rel => exact ⟨by first | rfl | trivial, .inr (.inl ⟨by first | rfl | (simp; done), H.out⟩)⟩
        case measure => simp
      · have h_1 : (a != 0) = true := bne_iff_ne.mpr h
        rw [if_neg h] at hr
        subst hr
        clear h
        go_wp2
        go_ret
        exact ⟨rfl, rfl⟩
    · rw [if_pos h0] at hr
      by_cases h : b = 0
      · have h_1 : (b != 0) = false := bne_eq_false_iff_eq.mpr h
        clear hr
        have H := Aside0.mk (And.intro h0 h)
        clear h h0
        go_wp2
        go_roundw
        case rel => exact ⟨by first | rfl | trivial, .inr (.inr ⟨by first | rfl | (simp; done), H.out.1, H.out.2⟩)⟩
        case measure => simp
      · have h_1 : (b != 0) = true := bne_iff_ne.mpr h
        subst hr
        clear h
        go_wp2
        go_ret
        exact ⟨rfl, rfl⟩
    · rw [if_pos h0, h1] at hr
      subst hr
      clear h0 h1
      go_wp2
      go_ret
      exact ⟨rfl, rfl⟩
set_option maxRecDepth 100000 in
set_option maxHeartbeats 8000000 in
/-- uid.compare. -/
theorem compare_uid (t i t2 i2 : ByteArray) (w : World) : Calls Tryz.prog 93 #[.agg #[.string t, .string i], .iface 165 (.agg #[.string t2, .string i2])] w fun e w' => e = .returned (.int .i64 (cmpU t i t2 i2)) ∧ Below w.heap.size w w' := by
  have hta := ta_uid (.agg #[.string t2, .string i2])
  go_enter Tryz.func93, Tryz.ntmps93
  go_wp2
  have hb : Below w.heap.size w ((w.alloc (Obj.cells #[Value.string t, Value.string i] 165)).alloc (Obj.cells #[Value.string t2, Value.string i2] 165)) := by repeat (first | exact Below.refl _ _ | apply below_alloc)
  have c0 : ((w.alloc (Obj.cells #[Value.string t, Value.string i] 165)).alloc (Obj.cells #[Value.string t2, Value.string i2] 165)).cell? ⟨w.heap.size, 0, none⟩ = some (.string t) := by go_simp
  have c1 : ((w.alloc (Obj.cells #[Value.string t, Value.string i] 165)).alloc (Obj.cells #[Value.string t2, Value.string i2] 165)).cell? ⟨w.heap.size, 1, none⟩ = some (.string i) := by go_simp
  have c2 : ((w.alloc (Obj.cells #[Value.string t, Value.string i] 165)).alloc (Obj.cells #[Value.string t2, Value.string i2] 165)).cell? ⟨w.heap.size + 1, 0, none⟩ = some (.string t2) := by go_simp
  have c3 : ((w.alloc (Obj.cells #[Value.string t, Value.string i] 165)).alloc (Obj.cells #[Value.string t2, Value.string i2] 165)).cell? ⟨w.heap.size + 1, 1, none⟩ = some (.string i2) := by go_simp
  have HB := Aside0.mk hb
  clear hb hta
  generalize (w.alloc (Obj.cells #[Value.string t, Value.string i] 165)).alloc (Obj.cells #[Value.string t2, Value.string i2] 165) = W at c0 c1 c2 c3 HB
  have k1 : ∀ s u V, Calls Tryz.prog 95 #[.string s, .string u] V fun e w' => e = .returned (.int .i64 (cmpS s u)) ∧ w' = V := fun s u V => (cmp_string s u V).mono fun e w' h => ⟨h.1, h.2.symm⟩
  have HBD : Aside0 (Below w.heap.size w W.drew) := ⟨below_drew1 HB.out⟩
  refine wp_region_still_tail 10 (by kernel_rfl) (by kernel_rfl) ?_
  simp only [List.take_succ_cons, List.take_zero, List.drop_succ_cons, List.drop_zero]
  change wpStill Tryz.prog _ W.drew _ _ _
  replace c0 : W.drew.cell? ⟨w.heap.size, 0, none⟩ = some (.string t) := c0
  replace c1 : W.drew.cell? ⟨w.heap.size, 1, none⟩ = some (.string i) := c1
  replace c2 : W.drew.cell? ⟨w.heap.size + 1, 0, none⟩ = some (.string t2) := c2
  replace c3 : W.drew.cell? ⟨w.heap.size + 1, 1, none⟩ = some (.string i2) := c3
  generalize W.drew = V at c0 c1 c2 c3 HBD ⊢
  repeat (first | still_step | still_call (k1 _ _ _))
  refine wpStill_nil ?_
  go_wp2_with (go_at_call 94; refine (or_two (cmpS t t2) (cmpS i i2) _ _ _ (by go_simp) (by go_simp)).mono ?_; rintro e w' ⟨rfl, rfl⟩)
  go_ret
  exact ⟨rfl, by repeat (first | exact HB.out | exact HBD.out | apply below_drew1 | apply below_alloc)⟩
set_option maxRecDepth 100000 in
set_option maxHeartbeats 4000000 in
theorem lessUid_any (t i t2 i2 : ByteArray) (w : World) :
    Calls Tryz.prog 89 #[.agg #[.string t, .string i], .agg #[.string t2, .string i2]] w fun e w' => e = .returned (.bool (decide (cmpU t i t2 i2 < 0))) ∧ Below w.heap.size w w' := by
  have hc := fun W => compare_uid t i t2 i2 W
  generalize cmpU t i t2 i2 = c at hc ⊢
  have HC := Aside0.mk hc
  clear hc
  go_enter Tryz.func89, Tryz.ntmps89
  go_wp2_with (go_at_call 93; refine (HC.out _).mono ?_; rintro e w' ⟨rfl, hb⟩; have HB : Aside0 (Below w.heap.size w w') := ⟨below_step (by repeat (first | exact Below.refl _ _ | apply below_alloc)) hb⟩; clear hb)
  go_ret
  exact ⟨rfl, HB.out⟩
/-- Where a search by halves ends. -/
def searchF (p : Nat → Bool) : Nat → Nat → Nat → Nat
  | 0, a, _ => a
  | k + 1, a, b => if a < b then (if p ((a + b) / 2) then searchF p k a ((a + b) / 2) else searchF p k ((a + b) / 2 + 1) b) else a
end Go.Proofs.YtelibndkkokadaaGreat.GB
