import Derived.Test.YtelibndkkokadaaGB0
import Derived.Test.YtelibndkkokadaaJg
import Derived.Test.YtelibndkkokadaaGB9
import Derived.Test.YtelibndkkokadaaSqz
namespace Go.Proofs.Ytelibndkkokadaa.GB
open Go.RowKit Go.Proofs.YtelibndkkokadaaW.PrintWords Go.Proofs.YtelibndkkokadaaW.PrintLast Go.Proofs.Ytelibndkkokadaa.HandV Go.Proofs.YtelibndkkokadaaW.PrintMore
attribute [local go_sem] max2_int min2_int max_two min_two max_three min_three max_four min_four   -- for this text's walks alone
set_option linter.unusedVariables false
set_option linter.unusedSimpArgs false

/-! ### chancellaw9_within: function 25 -/
def chancellaw9_within.f (a0 : Int) (a1 : Int) : Option (Int) := if a1 = 0 then (none) else (if (Int.tmod a0 a1) < 0 then (some (wrap64 ((Int.tmod a0 a1) + a1))) else (some (Int.tmod a0 a1)))
set_option maxHeartbeats 8000000 in
set_option maxRecDepth 100000 in
theorem chancellaw9_within.calls (a0 : Int) (a1 : Int) (r : Int) (w : World) (h : chancellaw9_within.f a0 a1 = some r) :
  Calls Try.prog 25 #[.int .i64 a0, .int .i64 a1] w fun e w' => e = .returned (.int .i64 r) ∧ Drawn0 w w' := by
 have H : (if a1 = 0 then (none) else (if (Int.tmod a0 a1) < 0 then (some (wrap64 ((Int.tmod a0 a1) + a1))) else (some (Int.tmod a0 a1)))) = some r := h
 clear h
 by_cases c3 : a1 = 0
 ·
  rw [if_pos c3] at H
  exact absurd H (by simp)
 ·
  rw [if_neg c3] at H
  have c3b0 : (a1 == 0) = false := beq_eq_false_iff_ne.mpr c3
  have c3b1 : (a1 != 0) = true := bne_iff_ne.mpr c3
  by_cases c4 : (Int.tmod a0 a1) < 0
  ·
   rw [if_pos c4] at H
   have c4b0 : decide ((Int.tmod a0 a1) < 0) = true := decide_eq_true c4
   clear c4
   obtain rfl := Option.some.inj H
   go_enter Try.func25, Try.ntmps25
   go_wp2
   go_ret
   exact ⟨by first | rfl | (simp; done) | (simp [*]; done), by repeat (first | exact Drawn0.refl _ | apply Drawn0.step)⟩
  ·
   rw [if_neg c4] at H
   have c4b0 : decide ((Int.tmod a0 a1) < 0) = false := decide_eq_false c4
   clear c4
   obtain rfl := Option.some.inj H
   go_enter Try.func25, Try.ntmps25
   go_wp2
   go_ret
   exact ⟨by first | rfl | (simp; done) | (simp [*]; done), by repeat (first | exact Drawn0.refl _ | apply Drawn0.step)⟩

/-! ### chancellaw5_id: function 74 -/
def chancellaw5_id.f (k : Nat) (l0 : List Int) : Option (ByteArray) := if (l0.length : Int) > 8 then (if 8 ≤ (l0.length : Int) then ((chancellaw1_Of.f k (l0.take 8)).bind fun t435 => (some t435)) else (none)) else ((chancellaw1_Of.f k l0).bind fun t436 => (some t436))
theorem chancellaw5_id.mono : ∀ a0 k, LeO (chancellaw5_id.f k a0) (chancellaw5_id.f (k + 1) a0) := by
 intro a0 k
 unfold chancellaw5_id.f
 repeat' first
   | (with_reducible exact chancellaw1_Of.mono _ _)
   | (with_reducible exact LeO.refl _)
   | (with_reducible exact LeO.none _)
   | (with_reducible refine LeO.ite ?_ ?_)
   | (with_reducible refine LeO.bind ?_ (fun _ => ?_))
   | exact chancellaw1_Of.mono _ _
   | exact LeO.none _
   | refine LeO.ite ?_ ?_
   | refine LeO.bind ?_ (fun _ => ?_)
set_option maxHeartbeats 8000000 in
set_option maxRecDepth 100000 in
theorem chancellaw5_id.calls (k : Nat) (A0 : Option Addr) (c0 : Nat) (l0 : List Int) (r : ByteArray) (w : World) (hr0 : Kd.C (Kd.int .i64) w A0 l0.length l0) (hc0 : l0.length ≤ c0) (h : chancellaw5_id.f k l0 = some r) :
  Calls Try.prog 74 #[.slice A0 l0.length c0] w fun e w' => e = .returned (.string r) ∧ Below w.heap.size w w' := by
 have HR0 := aZ_ hr0
 have HC0 := aZ_ hc0
 clear hr0 hc0
 have HB := aZ_ (Below.refl w.heap.size w)
 have H : (if (l0.length : Int) > 8 then (if 8 ≤ (l0.length : Int) then ((chancellaw1_Of.f k (l0.take 8)).bind fun t435 => (some t435)) else (none)) else ((chancellaw1_Of.f k l0).bind fun t436 => (some t436))) = some r := h
 clear h
 by_cases c2 : (l0.length : Int) > 8
 ·
  rw [if_pos c2] at H
  have c2b0 : decide (8 < (l0.length : Int)) = true := decide_eq_true c2
  have c2b1 : decide (8 < l0.length) = true := decide_eq_true (by omega)
  clear c2
  by_cases c3 : 8 ≤ (l0.length : Int)
  ·
   rw [if_pos c3] at H
   have c3b0 := eq_true c3
   have c3b1 : decide (8 ≤ (l0.length : Int)) = true := decide_eq_true c3
   clear c3
   replace H := Option.bind_eq_some_iff.mp H
   obtain ⟨t435, A40, H⟩ := H
   replace H : (some t435) = some r := H
   have A4 := aZ_ A40
   clear A40
   obtain rfl := Option.some.inj H
   obtain ⟨i05, hi05, _, hsz5, _⟩ := info_parts info3
   obtain ⟨hcut5, hA5, hC5⟩ := print_take_of (P := Try.prog) (Value.int .i64) 0 23 3 .i64 Try.underlying23 hi05 hsz5 A0 c0 l0 8 (by omega) (of_decide_eq_true asm_) HC0.out
   have HR434 := aZ_ (Kd.C_of_reads (h1 := fun _ => rfl) (hA5 _ (Kd.reads_of_C HR0.out)))
   have HC434 := aZ_ hC5
   clear hA5 hC5 hi05 hsz5
   go_enter Try.func74, Try.ntmps74
   go_wp2_with (first | ((with_reducible refine gate_callee (f := 97) rfl ?_); refine goesL_ (some 9) rfl rfl Try.func97 (by kernel_rfl) rfl #[.slice A0 (l0.take 8).length c0] rfl (by (try simp only [List.map_toArray, List.map_cons, List.map_nil]); first | done | (rw [show (l0.take 8).length = 8 from (by rw [List.length_take]; have h_ : (8 : Int) ≤ (l0.length : Int) := of_decide_eq_true asm_; omega)] <;> rfl) | rfl | (simp only [List.length_drop, List.length_take]; rfl)) ?_; (with_reducible refine (chancellaw1_Of.calls k _ _ (l0.take 8) t435 _ ?side1 ?side2 A4.out).mono ?_); (case side1 => repeat (first | exact HR434.out | (with_reducible refine Kd.C_alloc ?_ _) | (with_reducible refine Kd.C_drewN ?_ _) | (with_reducible refine Kd.C_drew ?_))); (case side2 => exact HC434.out); rintro e w6 ⟨rfl, hb⟩; refine ⟨_, rfl, ?_⟩; replace HB := aZ_ (below_step (bl HB) hb); (try clear hb); (try clear hb2); (try clear hk); (try clear hi)))
   go_ret
   exact ⟨by first | rfl | (simp [errW_none, errW_some] <;> rfl) | (simp [*, errW_none, errW_some] <;> rfl), bl HB⟩
  ·
   rw [if_neg c3] at H
   exact absurd H (by simp)
 ·
  rw [if_neg c2] at H
  have c2b0 : decide (8 < (l0.length : Int)) = false := decide_eq_false c2
  have c2b1 : decide (8 < l0.length) = false := decide_eq_false (by omega)
  clear c2
  replace H := Option.bind_eq_some_iff.mp H
  obtain ⟨t436, A70, H⟩ := H
  replace H : (some t436) = some r := H
  have A7 := aZ_ A70
  clear A70
  obtain rfl := Option.some.inj H
  go_enter Try.func74, Try.ntmps74
  go_wp2_with (first | ((with_reducible refine gate_callee (f := 97) rfl ?_); refine goesL_ (some 9) rfl rfl Try.func97 (by kernel_rfl) rfl #[.slice A0 l0.length c0] rfl gm_ ?_; (with_reducible refine (chancellaw1_Of.calls k _ _ l0 t436 _ ?side1 ?side2 A7.out).mono ?_); (case side1 => repeat (first | exact HR0.out | (with_reducible refine Kd.C_alloc ?_ _) | (with_reducible refine Kd.C_drewN ?_ _) | (with_reducible refine Kd.C_drew ?_))); (case side2 => exact HC0.out); rintro e w8 ⟨rfl, hb⟩; refine ⟨_, rfl, ?_⟩; replace HB := aZ_ (below_step (bl HB) hb); (try clear hb); (try clear hb2); (try clear hk); (try clear hi)))
  go_ret
  exact ⟨by first | rfl | (simp [errW_none, errW_some] <;> rfl) | (simp [*, errW_none, errW_some] <;> rfl), bl HB⟩

/-! ### chancellaw5_Uid: function 46 -/
def chancellaw5_Uid.f (k : Nat) (a0 : Int) (l1 : List Int) : Option (ByteArray × ByteArray) := (some (([(⟨#[85, 115, 101, 114]⟩ : ByteArray), (⟨#[71, 114, 111, 117, 112]⟩ : ByteArray), (⟨#[68, 111, 99]⟩ : ByteArray), (⟨#[65, 99, 116, 105, 111, 110]⟩ : ByteArray), (⟨#[105, 102]⟩ : ByteArray)] : List ByteArray) : List ByteArray)).bind fun y438 => ((chancellaw5_within.f a0 5).bind fun t441 => (if 0 ≤ t441 then (if t441 < (y438.length : Int) then ((chancellaw5_id.f k l1).bind fun t443 => (some (rdOf ByteArray.empty y438 t441, t443))) else (none)) else (none)))
theorem chancellaw5_Uid.mono : ∀ a0 a1 k, LeO (chancellaw5_Uid.f k a0 a1) (chancellaw5_Uid.f (k + 1) a0 a1) := by
 intro a0 a1 k
 unfold chancellaw5_Uid.f
 repeat' first
   | (with_reducible exact chancellaw5_id.mono _ _)
   | (with_reducible exact LeO.refl _)
   | (with_reducible exact LeO.none _)
   | (with_reducible refine LeO.ite ?_ ?_)
   | (with_reducible refine LeO.bind ?_ (fun _ => ?_))
   | exact chancellaw5_id.mono _ _
   | exact LeO.none _
   | refine LeO.ite ?_ ?_
   | refine LeO.bind ?_ (fun _ => ?_)
def chancellaw5_Uid.T1 : Bool × List (List Nat × List Nat) := (true, [([], []), ([], []), ([1], [1]), ([0, 2], [0, 2]), ([3], [3]), ([], []), ([5, 2], [5]), ([4, 6], [4, 6]), ([7, 6, 0, 1, 2, 3, 4, 5, 6, 7], [7])])
def chancellaw5_Uid.B1 : List Nat := [0, 0, 2, 7, 15, 0, 38, 127, 255]
theorem chancellaw5_Uid.tab1 : rtab .any (opsOf Try.f46 1) = chancellaw5_Uid.T1 := by kernel_rfl
theorem chancellaw5_Uid.bits1 : waitsOk chancellaw5_Uid.T1.2 chancellaw5_Uid.B1 = true := by kernel_rfl
set_option maxHeartbeats 8000000 in
set_option maxRecDepth 100000 in
theorem chancellaw5_Uid.calls (k : Nat) (a0 : Int) (A1 : Option Addr) (c1 : Nat) (l1 : List Int) (r1 : ByteArray) (r2 : ByteArray) (w : World) (hr1 : Kd.C (Kd.int .i64) w A1 l1.length l1) (hc1 : l1.length ≤ c1) (h : chancellaw5_Uid.f k a0 l1 = some (r1, r2)) :
  Calls Try.prog 46 #[.int .i64 a0, .slice A1 l1.length c1] w fun e w' => e = .returned (.agg #[.string r1, .string r2]) ∧ Below w.heap.size w w' := by
 have hu28 := Try.underlying28
 have HR1 := aZ_ hr1
 have HC1 := aZ_ hc1
 clear hr1 hc1
 have HB := aZ_ (Below.refl w.heap.size w)
 have H : ((some (([(⟨#[85, 115, 101, 114]⟩ : ByteArray), (⟨#[71, 114, 111, 117, 112]⟩ : ByteArray), (⟨#[68, 111, 99]⟩ : ByteArray), (⟨#[65, 99, 116, 105, 111, 110]⟩ : ByteArray), (⟨#[105, 102]⟩ : ByteArray)] : List ByteArray) : List ByteArray)).bind fun y438 => ((chancellaw5_within.f a0 5).bind fun t441 => (if 0 ≤ t441 then (if t441 < (y438.length : Int) then ((chancellaw5_id.f k l1).bind fun t443 => (some (rdOf ByteArray.empty y438 t441, t443))) else (none)) else (none)))) = some (r1, r2) := h
 clear h
 obtain ⟨y438, hy438⟩ : ∃ y_ : List ByteArray, y_ = (([(⟨#[85, 115, 101, 114]⟩ : ByteArray), (⟨#[71, 114, 111, 117, 112]⟩ : ByteArray), (⟨#[68, 111, 99]⟩ : ByteArray), (⟨#[65, 99, 116, 105, 111, 110]⟩ : ByteArray), (⟨#[105, 102]⟩ : ByteArray)] : List ByteArray)) := ⟨_, rfl⟩
 replace H : ((chancellaw5_within.f a0 5).bind fun t441 => (if 0 ≤ t441 then (if t441 < (y438.length : Int) then ((chancellaw5_id.f k l1).bind fun t443 => (some (rdOf ByteArray.empty y438 t441, t443))) else (none)) else (none))) = some (r1, r2) := by first | (rw [hy438]; with_reducible exact H) | (have H2_ := (Option.bind_some _ _).symm.trans H; rw [hy438]; with_reducible exact H2_) | (have H2_ := (Option.bind_some _ _).symm.trans H; with_reducible exact H2_) | with_reducible exact H | (rw [hy438]; exact H) | exact H
 have Ny438 := aZ_ hy438
 clear hy438
 replace H := Option.bind_eq_some_iff.mp H
 obtain ⟨t441, A30, H⟩ := H
 replace H : (if 0 ≤ t441 then (if t441 < (y438.length : Int) then ((chancellaw5_id.f k l1).bind fun t443 => (some (rdOf ByteArray.empty y438 t441, t443))) else (none)) else (none)) = some (r1, r2) := H
 have A3 := aZ_ A30
 clear A30
 by_cases c4 : 0 ≤ t441
 ·
  rw [if_pos c4] at H
  have c4b0 : decide (0 ≤ t441) = true := decide_eq_true c4
  clear c4
  by_cases c5 : t441 < (y438.length : Int)
  ·
   rw [if_pos c5] at H
   have c5b0 : decide (t441 < (y438.length : Int)) = true := decide_eq_true c5
   clear c5
   replace H := Option.bind_eq_some_iff.mp H
   obtain ⟨t443, A60, H⟩ := H
   replace H : (some (rdOf ByteArray.empty y438 t441, t443)) = some (r1, r2) := H
   have A6 := aZ_ A60
   clear A60
   simp only [Option.some.injEq, Prod.mk.injEq] at H
   obtain ⟨rfl, rfl⟩ := H
   go_enter Try.func46, Try.ntmps46
   try go_wp2_with (first | ((with_reducible refine gate_dst (N := 4) rfl ?_); refine bxE 4 #[.string (⟨#[]⟩ : ByteArray), .string (⟨#[]⟩ : ByteArray)] 28 ?_; intro gb437 hg w7 hbox hb; have BK437 := aZ_ (hbox); have GW437 := aZ_ ((by rw [hg]; exact (below_size (bl HB)) : w.heap.size ≤ gb437)); have GE437 := aZ_ ((by rw [hg]; exact (below_size (bl HB)) : w.heap.size ≤ gb437)); replace HB := aZ_ (below_step (bl HB) hb); clear hb hbox hg))
   have pi442 : (0 ≤ (t441 : Int)) = True := eq_true (of_decide_eq_true asm_)
   have qi442 : (t441 < (y438.length : Int)) = True := eq_true (of_decide_eq_true asm_)
   replace BK437 := aZ_ (blk_drew BK437.out)
   replace HB := aZ_ (below_drew1 HB.out)
   refine start_ (n := 9) (S := fun w' => True) (ds := []) #[false, false, false, false, false, false, false, false, false] (by kernel_rfl) rfl rfl trivial (fun hHeld => ?_); refine with_tabW chancellaw5_Uid.tab1 chancellaw5_Uid.bits1 (fun HT_ HW_ => ?_)
   generalize w7.drew = w8 at BK437 HB hHeld ⊢
   refine pS_ 1 6 (fa 9 2) HT_ ?_
   refine pS_ 5 10 (fa 9 34) HT_ ?_
   refine join_ (σ := Value × Addr) 2 #[true, true, true, true, true, true, true, false, false] (fun s_ => [(5, s_.1), (7, .int .i64 t441), (9, .string (rdOf ByteArray.empty y438 t441)), (11, .string t443), (8, .pointer (some (s_.2.add (t441).toNat)))]) (fun s_ w' => (Kd.R Kd.string 9 w' w.heap.size (fun _ => True) s_.1 y438) ∧ (∃ c_, (s_.1 : Value) = .slice (some s_.2) y438.length c_) ∧ (w'.heap[gb437]? = some (.cells #[.string (⟨#[]⟩ : ByteArray), .string (⟨#[]⟩ : ByteArray)] 28 (0, 0))) ∧ (Below w.heap.size w w')) ?_ ?_
   rotate_left
   ·
    intro hJ0_2_4_6
    refine join_ (σ := Value × Addr) 3 #[true, true, true, true, true, true, false, false, false] (fun s_ => [(5, s_.1), (7, .int .i64 t441), (9, .string (rdOf ByteArray.empty y438 t441)), (8, .pointer (some (s_.2.add (t441).toNat)))]) (fun s_ w' => (Kd.R Kd.string 9 w' w.heap.size (fun _ => True) s_.1 y438) ∧ (∃ c_, (s_.1 : Value) = .slice (some s_.2) y438.length c_) ∧ (w'.heap[gb437]? = some (.cells #[.string (⟨#[]⟩ : ByteArray), .string (⟨#[]⟩ : ByteArray)] 28 (0, 0))) ∧ (Below w.heap.size w w')) ?_ ?_
    rotate_left
    ·
     intro hJ0_2_4
     refine join_ (σ := Value × Addr) 3 #[true, true, true, true, false, true, true, false, false] (fun s_ => [(5, s_.1), (7, .int .i64 t441), (11, .string t443), (8, .pointer (some (s_.2.add (t441).toNat)))]) (fun s_ w' => (Kd.R Kd.string 9 w' w.heap.size (fun _ => True) s_.1 y438) ∧ (∃ c_, (s_.1 : Value) = .slice (some s_.2) y438.length c_) ∧ (w'.heap[gb437]? = some (.cells #[.string (⟨#[]⟩ : ByteArray), .string (⟨#[]⟩ : ByteArray)] 28 (0, 0))) ∧ (Below w.heap.size w w')) ?_ ?_
     rotate_left
     ·
      intro hJ0_2_6
      refine join_ (σ := Value × Addr) 4 #[true, true, true, true, false, true, false, false, false] (fun s_ => [(5, s_.1), (7, .int .i64 t441), (8, .pointer (some (s_.2.add (t441).toNat)))]) (fun s_ w' => (Kd.R Kd.string 9 w' w.heap.size (fun _ => True) s_.1 y438) ∧ (∃ c_, (s_.1 : Value) = .slice (some s_.2) y438.length c_) ∧ (w'.heap[gb437]? = some (.cells #[.string (⟨#[]⟩ : ByteArray), .string (⟨#[]⟩ : ByteArray)] 28 (0, 0))) ∧ (Below w.heap.size w w')) ?_ ?_
      rotate_left
      ·
       intro hJ0_2
       refine join_ (σ := Unit) 5 #[false, true, true, false, false, true, true, false, false] (fun s_ => [(7, .int .i64 t441), (11, .string t443)]) (fun s_ w' => (w'.heap[gb437]? = some (.cells #[.string (⟨#[]⟩ : ByteArray), .string (⟨#[]⟩ : ByteArray)] 28 (0, 0))) ∧ (Below w.heap.size w w')) ?_ ?_
       rotate_left
       ·
        intro hJ2_6
        refine join_ (σ := Value × Addr) 6 #[true, true, false, false, false, true, false, false, false] (fun s_ => [(5, s_.1)]) (fun s_ w' => (Kd.R Kd.string 9 w' w.heap.size (fun _ => True) s_.1 y438) ∧ (∃ c_, (s_.1 : Value) = .slice (some s_.2) y438.length c_) ∧ (w'.heap[gb437]? = some (.cells #[.string (⟨#[]⟩ : ByteArray), .string (⟨#[]⟩ : ByteArray)] 28 (0, 0))) ∧ (Below w.heap.size w w')) ?_ ?_
        rotate_left
        ·
         intro hJ0
         refine join_ (σ := Unit) 6 #[false, true, true, false, false, true, false, false, false] (fun s_ => [(7, .int .i64 t441)]) (fun s_ w' => (w'.heap[gb437]? = some (.cells #[.string (⟨#[]⟩ : ByteArray), .string (⟨#[]⟩ : ByteArray)] 28 (0, 0))) ∧ (Below w.heap.size w w')) ?_ ?_
         rotate_left
         ·
          intro hJ2
          refine two_ (i := 0) (j := 2) (Ni := some 5) (Nj := some 7) #[true, true, false, false, false, true, false, false, false] #[false, true, true, false, false, true, false, false, false] rfl rfl rfl rfl (two_of HT_.out (by kernel_rfl)) (by decide) (by decide) (fun K hK => ?_) (fun K hK => ?_)
          ·
           skip
           refine Kd.R_lit_step Kd.string _ 9 ?hg (N := 5) ?hd (xs := ([(⟨#[85, 115, 101, 114]⟩ : ByteArray), (⟨#[71, 114, 111, 117, 112]⟩ : ByteArray), (⟨#[68, 111, 99]⟩ : ByteArray), (⟨#[65, 99, 116, 105, 111, 110]⟩ : ByteArray), (⟨#[105, 102]⟩ : ByteArray)] : List ByteArray)) (inner := [.string (⟨#[85, 115, 101, 114]⟩ : ByteArray), .string (⟨#[71, 114, 111, 117, 112]⟩ : ByteArray), .string (⟨#[68, 111, 99]⟩ : ByteArray), .string (⟨#[65, 99, 116, 105, 111, 110]⟩ : ByteArray), .string (⟨#[105, 102]⟩ : ByteArray)]) (ok := fun _ => True) (okp := fun _ => True) ?hr ?hp (fun _ hk => hk) trivial (Below.refl _ _) (Nat.le_refl _) (by simp) ?_; (case hd => rfl); (case hg => rfl); (case hr => first | (go_simp; done) | (go_simp; rfl)); (case hp => exact (Reps.one (show Kd.M Kd.string _ _ _ (⟨#[85, 115, 101, 114]⟩ : ByteArray) [.string (⟨#[85, 115, 101, 114]⟩ : ByteArray)] from rfl) (Reps.one (show Kd.M Kd.string _ _ _ (⟨#[71, 114, 111, 117, 112]⟩ : ByteArray) [.string (⟨#[71, 114, 111, 117, 112]⟩ : ByteArray)] from rfl) (Reps.one (show Kd.M Kd.string _ _ _ (⟨#[68, 111, 99]⟩ : ByteArray) [.string (⟨#[68, 111, 99]⟩ : ByteArray)] from rfl) (Reps.one (show Kd.M Kd.string _ _ _ (⟨#[65, 99, 116, 105, 111, 110]⟩ : ByteArray) [.string (⟨#[65, 99, 116, 105, 111, 110]⟩ : ByteArray)] from rfl) (Reps.one (show Kd.M Kd.string _ _ _ (⟨#[105, 102]⟩ : ByteArray) [.string (⟨#[105, 102]⟩ : ByteArray)] from rfl) (Reps.none _ _)))))))
           intro v439 w9 ho10 hb hg_ hnew_
           clear hg_ hnew_
           (first | rw [← Ny438.out] at ho10 | (simp only [Int.reduceToNat] at ho10; rw [← Ny438.out] at ho10))
           have HO440 := aZ_ (Kd.R_lower ho10 (below_size (bl1 HB GE437)))
           replace BK437 := aZ_ (blk_below (g := gb437) (o := .cells #[.string (⟨#[]⟩ : ByteArray), .string (⟨#[]⟩ : ByteArray)] 28 (0, 0)) (bk BK437) hb)
           replace HB := aZ_ (below_step (bl1 HB GE437) hb)
           clear hb ho10
           obtain ⟨Ao11, co11, eo11⟩ := Kd.R_slice HO440.out
           subst eo11
           obtain ⟨ado11, fo11, _⟩ := Kd.at_string (Kd.R_reads' HO440.out).2.2 0 (by decide) (by rw [Ny438.out]; simp)
           cases fo11
           refine hK.out _ _ trivial (fun hHeld => ?_)
           clear hK K
           refine norm_ (a' := ?_) ?_ ?_
           rotate_left
           ·
            show Act.put _ (some 5) _ = _
            simp only [Act.put, List.setIfInBounds_toArray, List.set_cons_zero, List.set_cons_succ, i64_w, i32_w]
            rfl
           exact norm_ nm_ (hJ0 (.slice (some ado11) y438.length co11, ado11) _ ⟨(kR HO440), ⟨_, rfl⟩, (bk BK437), (bl1 HB GE437)⟩)
          ·
           skip
           refine goes_ Try.func56 (by kernel_rfl) rfl #[.int .i64 a0, .int .i64 5] (by rfl) rfl rfl gm_ ?_
           with_reducible refine (chancellaw5_within.calls a0 5 t441 _ A3.out).mono ?_
           rintro e w' ⟨rfl, ⟨nd, rfl⟩⟩
           refine ⟨_, rfl, ?_⟩
           refine hK.out _ _ trivial (fun hHeld => ?_)
           clear hK K
           refine norm_ (a' := ?_) ?_ ?_
           rotate_left
           ·
            show Act.put _ (some 7) _ = _
            simp only [Act.put, List.setIfInBounds_toArray, List.set_cons_zero, List.set_cons_succ, i64_w, i32_w]
            rfl
           exact norm_ nm_ (hJ2 () _ ⟨(bk BK437), (bl1 HB GE437)⟩)
         ·
          skip
          rintro _ w9 ⟨h0_, h1_⟩
          have n0_ : Aside0 (w9.heap[gb437]? = some (.cells #[.string (⟨#[]⟩ : ByteArray), .string (⟨#[]⟩ : ByteArray)] 28 (0, 0))) := ⟨h0_⟩
          have n1_ : Aside0 (Below w.heap.size w w9) := ⟨h1_⟩
          clear BK437
          clear HB
          clear h0_ h1_
          have BK437 := n0_
          have HB := n1_
          clear n0_ n1_
          have hHeld := trivial
          refine norm_ (a' := ?_) ?_ ?_
          rotate_left
          ·
           simp only [putAll, Act.put, List.setIfInBounds_toArray, List.set_cons_zero, List.set_cons_succ]
           rfl
          refine two_ (i := 0) (j := 6) (Ni := some 5) (Nj := some 11) #[true, true, true, false, false, true, false, false, false] #[false, true, true, false, false, true, true, false, false] rfl rfl rfl rfl (two_of HT_.out (by kernel_rfl)) (by decide) (by decide) (fun K hK => ?_) (fun K hK => ?_)
          ·
           skip
           refine Kd.R_lit_step Kd.string _ 9 ?hg (N := 5) ?hd (xs := ([(⟨#[85, 115, 101, 114]⟩ : ByteArray), (⟨#[71, 114, 111, 117, 112]⟩ : ByteArray), (⟨#[68, 111, 99]⟩ : ByteArray), (⟨#[65, 99, 116, 105, 111, 110]⟩ : ByteArray), (⟨#[105, 102]⟩ : ByteArray)] : List ByteArray)) (inner := [.string (⟨#[85, 115, 101, 114]⟩ : ByteArray), .string (⟨#[71, 114, 111, 117, 112]⟩ : ByteArray), .string (⟨#[68, 111, 99]⟩ : ByteArray), .string (⟨#[65, 99, 116, 105, 111, 110]⟩ : ByteArray), .string (⟨#[105, 102]⟩ : ByteArray)]) (ok := fun _ => True) (okp := fun _ => True) ?hr ?hp (fun _ hk => hk) trivial (Below.refl _ _) (Nat.le_refl _) (by simp) ?_; (case hd => rfl); (case hg => rfl); (case hr => first | (go_simp; done) | (go_simp; rfl)); (case hp => exact (Reps.one (show Kd.M Kd.string _ _ _ (⟨#[85, 115, 101, 114]⟩ : ByteArray) [.string (⟨#[85, 115, 101, 114]⟩ : ByteArray)] from rfl) (Reps.one (show Kd.M Kd.string _ _ _ (⟨#[71, 114, 111, 117, 112]⟩ : ByteArray) [.string (⟨#[71, 114, 111, 117, 112]⟩ : ByteArray)] from rfl) (Reps.one (show Kd.M Kd.string _ _ _ (⟨#[68, 111, 99]⟩ : ByteArray) [.string (⟨#[68, 111, 99]⟩ : ByteArray)] from rfl) (Reps.one (show Kd.M Kd.string _ _ _ (⟨#[65, 99, 116, 105, 111, 110]⟩ : ByteArray) [.string (⟨#[65, 99, 116, 105, 111, 110]⟩ : ByteArray)] from rfl) (Reps.one (show Kd.M Kd.string _ _ _ (⟨#[105, 102]⟩ : ByteArray) [.string (⟨#[105, 102]⟩ : ByteArray)] from rfl) (Reps.none _ _)))))))
           intro v439 w10 ho11 hb hg_ hnew_
           clear hg_ hnew_
           (first | rw [← Ny438.out] at ho11 | (simp only [Int.reduceToNat] at ho11; rw [← Ny438.out] at ho11))
           have HO440 := aZ_ (Kd.R_lower ho11 (below_size (bl1 HB GE437)))
           replace BK437 := aZ_ (blk_below (g := gb437) (o := .cells #[.string (⟨#[]⟩ : ByteArray), .string (⟨#[]⟩ : ByteArray)] 28 (0, 0)) (bk BK437) hb)
           replace HB := aZ_ (below_step (bl1 HB GE437) hb)
           clear hb ho11
           obtain ⟨Ao12, co12, eo12⟩ := Kd.R_slice HO440.out
           subst eo12
           obtain ⟨ado12, fo12, _⟩ := Kd.at_string (Kd.R_reads' HO440.out).2.2 0 (by decide) (by rw [Ny438.out]; simp)
           cases fo12
           refine hK.out _ _ trivial (fun hHeld => ?_)
           clear hK K
           refine norm_ (a' := ?_) ?_ ?_
           rotate_left
           ·
            show Act.put _ (some 5) _ = _
            simp only [Act.put, List.setIfInBounds_toArray, List.set_cons_zero, List.set_cons_succ, i64_w, i32_w]
            rfl
           refine pS_ 3 8 (fa 9 47) HT_ ?_
           exact norm_ nm_ (hJ0_2 (.slice (some ado12) y438.length co12, ado12) _ ⟨(kR HO440), ⟨_, rfl⟩, (bk BK437), (bl1 HB GE437)⟩)
          ·
           skip
           refine goes_ Try.func74 (by kernel_rfl) rfl #[.slice A1 l1.length c1] (by rfl) rfl rfl gm_ ?_
           with_reducible refine (chancellaw5_id.calls k _ _ l1 t443 _ ?side1 ?side2 A6.out).mono ?_
           (case side1 => exact kC (Kd.C_below HR1.out HB.out))
           (case side2 => exact HC1.out)
           rintro e w10 ⟨rfl, hb⟩
           refine ⟨_, rfl, ?_⟩
           replace BK437 := aZ_ (blk_below (g := gb437) (o := .cells #[.string (⟨#[]⟩ : ByteArray), .string (⟨#[]⟩ : ByteArray)] 28 (0, 0)) (bk BK437) hb)
           replace HB := aZ_ (below_step (bl1 HB GE437) hb)
           (try clear hb)
           (try clear hb2)
           (try clear hk)
           (try clear hi)
           refine hK.out _ _ trivial (fun hHeld => ?_)
           clear hK K
           refine norm_ (a' := ?_) ?_ ?_
           rotate_left
           ·
            show Act.put _ (some 11) _ = _
            simp only [Act.put, List.setIfInBounds_toArray, List.set_cons_zero, List.set_cons_succ, i64_w, i32_w]
            rfl
           exact norm_ nm_ (hJ2_6 () _ ⟨(bk BK437), (bl1 HB GE437)⟩)
        ·
         skip
         rintro ⟨v439, adz_v439⟩ w12 ⟨h0_, h1_, h2_, h3_⟩
         have n0_ : Aside0 (Kd.R Kd.string 9 w12 w.heap.size (fun _ => True) v439 y438) := ⟨h0_⟩
         have n1_ : Aside0 (∃ c_, (v439 : Value) = .slice (some adz_v439) y438.length c_) := ⟨h1_⟩
         have n2_ : Aside0 (w12.heap[gb437]? = some (.cells #[.string (⟨#[]⟩ : ByteArray), .string (⟨#[]⟩ : ByteArray)] 28 (0, 0))) := ⟨h2_⟩
         have n3_ : Aside0 (Below w.heap.size w w12) := ⟨h3_⟩
         clear BK437
         clear HB
         clear h0_ h1_ h2_ h3_
         have HO440 := n0_
         have HA_HO440 := n1_
         have BK437 := n2_
         have HB := n3_
         clear n0_ n1_ n2_ n3_
         have hHeld := trivial
         obtain ⟨co13, eo13⟩ := HA_HO440.out
         clear HA_HO440
         subst eo13
         refine norm_ (a' := ?_) ?_ ?_
         rotate_left
         ·
          simp only [putAll, Act.put, List.setIfInBounds_toArray, List.set_cons_zero, List.set_cons_succ]
          rfl
         refine one_ (i := 2) (N := some 7) #[true, true, true, false, false, true, false, false, false] rfl rfl (one_of HT_.out (by kernel_rfl)) (by decide) (fun K hK => ?_)
         refine goes_ Try.func56 (by kernel_rfl) rfl #[.int .i64 a0, .int .i64 5] (by rfl) rfl rfl gm_ ?_
         with_reducible refine (chancellaw5_within.calls a0 5 t441 _ A3.out).mono ?_
         rintro e w' ⟨rfl, ⟨nd, rfl⟩⟩
         refine ⟨_, rfl, ?_⟩
         refine hK.out _ _ trivial (fun hHeld => ?_)
         clear hK K
         refine norm_ (a' := ?_) ?_ ?_
         rotate_left
         ·
          show Act.put _ (some 7) _ = _
          simp only [Act.put, List.setIfInBounds_toArray, List.set_cons_zero, List.set_cons_succ, i64_w, i32_w]
          rfl
         refine pS_ 3 8 (fa 9 47) HT_ ?_
         exact norm_ nm_ (hJ0_2 (.slice (some adz_v439) y438.length co13, adz_v439) _ ⟨(kR HO440), ⟨_, rfl⟩, (bk BK437), (bl1 HB GE437)⟩)
       ·
        skip
        rintro _ w10 ⟨h0_, h1_⟩
        have n0_ : Aside0 (w10.heap[gb437]? = some (.cells #[.string (⟨#[]⟩ : ByteArray), .string (⟨#[]⟩ : ByteArray)] 28 (0, 0))) := ⟨h0_⟩
        have n1_ : Aside0 (Below w.heap.size w w10) := ⟨h1_⟩
        clear BK437
        clear HB
        clear h0_ h1_
        have BK437 := n0_
        have HB := n1_
        clear n0_ n1_
        have hHeld := trivial
        refine norm_ (a' := ?_) ?_ ?_
        rotate_left
        ·
         simp only [putAll, Act.put, List.setIfInBounds_toArray, List.set_cons_zero, List.set_cons_succ]
         rfl
        refine one_ (i := 0) (N := some 5) #[true, true, true, false, false, true, true, false, false] rfl rfl (one_of HT_.out (by kernel_rfl)) (by decide) (fun K hK => ?_)
        refine Kd.R_lit_step Kd.string _ 9 ?hg (N := 5) ?hd (xs := ([(⟨#[85, 115, 101, 114]⟩ : ByteArray), (⟨#[71, 114, 111, 117, 112]⟩ : ByteArray), (⟨#[68, 111, 99]⟩ : ByteArray), (⟨#[65, 99, 116, 105, 111, 110]⟩ : ByteArray), (⟨#[105, 102]⟩ : ByteArray)] : List ByteArray)) (inner := [.string (⟨#[85, 115, 101, 114]⟩ : ByteArray), .string (⟨#[71, 114, 111, 117, 112]⟩ : ByteArray), .string (⟨#[68, 111, 99]⟩ : ByteArray), .string (⟨#[65, 99, 116, 105, 111, 110]⟩ : ByteArray), .string (⟨#[105, 102]⟩ : ByteArray)]) (ok := fun _ => True) (okp := fun _ => True) ?hr ?hp (fun _ hk => hk) trivial (Below.refl _ _) (Nat.le_refl _) (by simp) ?_; (case hd => rfl); (case hg => rfl); (case hr => first | (go_simp; done) | (go_simp; rfl)); (case hp => exact (Reps.one (show Kd.M Kd.string _ _ _ (⟨#[85, 115, 101, 114]⟩ : ByteArray) [.string (⟨#[85, 115, 101, 114]⟩ : ByteArray)] from rfl) (Reps.one (show Kd.M Kd.string _ _ _ (⟨#[71, 114, 111, 117, 112]⟩ : ByteArray) [.string (⟨#[71, 114, 111, 117, 112]⟩ : ByteArray)] from rfl) (Reps.one (show Kd.M Kd.string _ _ _ (⟨#[68, 111, 99]⟩ : ByteArray) [.string (⟨#[68, 111, 99]⟩ : ByteArray)] from rfl) (Reps.one (show Kd.M Kd.string _ _ _ (⟨#[65, 99, 116, 105, 111, 110]⟩ : ByteArray) [.string (⟨#[65, 99, 116, 105, 111, 110]⟩ : ByteArray)] from rfl) (Reps.one (show Kd.M Kd.string _ _ _ (⟨#[105, 102]⟩ : ByteArray) [.string (⟨#[105, 102]⟩ : ByteArray)] from rfl) (Reps.none _ _)))))))
        intro v439 w11 ho12 hb hg_ hnew_
        clear hg_ hnew_
        (first | rw [← Ny438.out] at ho12 | (simp only [Int.reduceToNat] at ho12; rw [← Ny438.out] at ho12))
        have HO440 := aZ_ (Kd.R_lower ho12 (below_size (bl1 HB GE437)))
        replace BK437 := aZ_ (blk_below (g := gb437) (o := .cells #[.string (⟨#[]⟩ : ByteArray), .string (⟨#[]⟩ : ByteArray)] 28 (0, 0)) (bk BK437) hb)
        replace HB := aZ_ (below_step (bl1 HB GE437) hb)
        clear hb ho12
        obtain ⟨Ao13, co13, eo13⟩ := Kd.R_slice HO440.out
        subst eo13
        obtain ⟨ado13, fo13, _⟩ := Kd.at_string (Kd.R_reads' HO440.out).2.2 0 (by decide) (by rw [Ny438.out]; simp)
        cases fo13
        refine hK.out _ _ trivial (fun hHeld => ?_)
        clear hK K
        refine norm_ (a' := ?_) ?_ ?_
        rotate_left
        ·
         show Act.put _ (some 5) _ = _
         simp only [Act.put, List.setIfInBounds_toArray, List.set_cons_zero, List.set_cons_succ, i64_w, i32_w]
         rfl
        refine pS_ 3 8 (fa 9 111) HT_ ?_
        exact norm_ nm_ (hJ0_2_6 (.slice (some ado13) y438.length co13, ado13) _ ⟨(kR HO440), ⟨_, rfl⟩, (bk BK437), (bl1 HB GE437)⟩)
      ·
       skip
       rintro ⟨v439, adz_v439⟩ w12 ⟨h0_, h1_, h2_, h3_⟩
       have n0_ : Aside0 (Kd.R Kd.string 9 w12 w.heap.size (fun _ => True) v439 y438) := ⟨h0_⟩
       have n1_ : Aside0 (∃ c_, (v439 : Value) = .slice (some adz_v439) y438.length c_) := ⟨h1_⟩
       have n2_ : Aside0 (w12.heap[gb437]? = some (.cells #[.string (⟨#[]⟩ : ByteArray), .string (⟨#[]⟩ : ByteArray)] 28 (0, 0))) := ⟨h2_⟩
       have n3_ : Aside0 (Below w.heap.size w w12) := ⟨h3_⟩
       clear BK437
       clear HB
       clear h0_ h1_ h2_ h3_
       have HO440 := n0_
       have HA_HO440 := n1_
       have BK437 := n2_
       have HB := n3_
       clear n0_ n1_ n2_ n3_
       have hHeld := trivial
       obtain ⟨co13, eo13⟩ := HA_HO440.out
       clear HA_HO440
       subst eo13
       refine norm_ (a' := ?_) ?_ ?_
       rotate_left
       ·
        simp only [putAll, Act.put, List.setIfInBounds_toArray, List.set_cons_zero, List.set_cons_succ]
        rfl
       refine two_ (i := 4) (j := 6) (Ni := some 9) (Nj := some 11) #[true, true, true, true, true, true, false, false, false] #[true, true, true, true, false, true, true, false, false] rfl rfl rfl rfl (two_of HT_.out (by kernel_rfl)) (by decide) (by decide) (fun K hK => ?_) (fun K hK => ?_)
       ·
        skip
        (have p442 : 0 ≤ (t441 : Int) := of_decide_eq_true asm_; have q442 : t441 < (y438.length : Int) := of_decide_eq_true asm_; obtain ⟨ad442, e442, hx442_0⟩ := Kd.at_string (Kd.R_reads' HO440.out).2.2 t441 p442 q442; obtain rfl : adz_v439 = ad442 := (by injection e442))
        refine value_ (w1 := ?_) (v := ?_) (by rfl) rfl ?_ ?_
        rotate_left 2
        ·
         go_simp
         constructor
         ·
          rfl
         ·
          rfl
        clear hx442_0
        refine hK.out _ _ trivial (fun hHeld => ?_)
        clear hK K
        refine norm_ (a' := ?_) ?_ ?_
        rotate_left
        ·
         show Act.put _ (some 9) _ = _
         simp only [Act.put, List.setIfInBounds_toArray, List.set_cons_zero, List.set_cons_succ, i64_w, i32_w]
         rfl
        exact norm_ nm_ (hJ0_2_4 (.slice (some adz_v439) y438.length co13, adz_v439) _ ⟨(kR HO440), ⟨_, rfl⟩, (bk BK437), (bl1 HB GE437)⟩)
       ·
        skip
        refine goes_ Try.func74 (by kernel_rfl) rfl #[.slice A1 l1.length c1] (by rfl) rfl rfl gm_ ?_
        with_reducible refine (chancellaw5_id.calls k _ _ l1 t443 _ ?side1 ?side2 A6.out).mono ?_
        (case side1 => exact kC (Kd.C_below HR1.out HB.out))
        (case side2 => exact HC1.out)
        rintro e w14 ⟨rfl, hb⟩
        refine ⟨_, rfl, ?_⟩
        replace HO440 := aZ_ (Kd.R_below (kR HO440) hb)
        replace BK437 := aZ_ (blk_below (g := gb437) (o := .cells #[.string (⟨#[]⟩ : ByteArray), .string (⟨#[]⟩ : ByteArray)] 28 (0, 0)) (bk BK437) hb)
        replace HB := aZ_ (below_step (bl1 HB GE437) hb)
        (try clear hb)
        (try clear hb2)
        (try clear hk)
        (try clear hi)
        refine hK.out _ _ trivial (fun hHeld => ?_)
        clear hK K
        refine norm_ (a' := ?_) ?_ ?_
        rotate_left
        ·
         show Act.put _ (some 11) _ = _
         simp only [Act.put, List.setIfInBounds_toArray, List.set_cons_zero, List.set_cons_succ, i64_w, i32_w]
         rfl
        exact norm_ nm_ (hJ0_2_6 (.slice (some adz_v439) y438.length co13, adz_v439) _ ⟨(kR HO440), ⟨_, rfl⟩, (bk BK437), (bl1 HB GE437)⟩)
     ·
      skip
      rintro ⟨v439, adz_v439⟩ w13 ⟨h0_, h1_, h2_, h3_⟩
      have n0_ : Aside0 (Kd.R Kd.string 9 w13 w.heap.size (fun _ => True) v439 y438) := ⟨h0_⟩
      have n1_ : Aside0 (∃ c_, (v439 : Value) = .slice (some adz_v439) y438.length c_) := ⟨h1_⟩
      have n2_ : Aside0 (w13.heap[gb437]? = some (.cells #[.string (⟨#[]⟩ : ByteArray), .string (⟨#[]⟩ : ByteArray)] 28 (0, 0))) := ⟨h2_⟩
      have n3_ : Aside0 (Below w.heap.size w w13) := ⟨h3_⟩
      clear BK437
      clear HB
      clear h0_ h1_ h2_ h3_
      have HO440 := n0_
      have HA_HO440 := n1_
      have BK437 := n2_
      have HB := n3_
      clear n0_ n1_ n2_ n3_
      have hHeld := trivial
      obtain ⟨co14, eo14⟩ := HA_HO440.out
      clear HA_HO440
      subst eo14
      refine norm_ (a' := ?_) ?_ ?_
      rotate_left
      ·
       simp only [putAll, Act.put, List.setIfInBounds_toArray, List.set_cons_zero, List.set_cons_succ]
       rfl
      refine one_ (i := 4) (N := some 9) #[true, true, true, true, true, true, true, false, false] rfl rfl (one_of HT_.out (by kernel_rfl)) (by decide) (fun K hK => ?_)
      (have p442 : 0 ≤ (t441 : Int) := of_decide_eq_true asm_; have q442 : t441 < (y438.length : Int) := of_decide_eq_true asm_; obtain ⟨ad442, e442, hx442_0⟩ := Kd.at_string (Kd.R_reads' HO440.out).2.2 t441 p442 q442; obtain rfl : adz_v439 = ad442 := (by injection e442))
      refine value_ (w1 := ?_) (v := ?_) (by rfl) rfl ?_ ?_
      rotate_left 2
      ·
       go_simp
       constructor
       ·
        rfl
       ·
        rfl
      clear hx442_0
      refine hK.out _ _ trivial (fun hHeld => ?_)
      clear hK K
      refine norm_ (a' := ?_) ?_ ?_
      rotate_left
      ·
       show Act.put _ (some 9) _ = _
       simp only [Act.put, List.setIfInBounds_toArray, List.set_cons_zero, List.set_cons_succ, i64_w, i32_w]
       rfl
      exact norm_ nm_ (hJ0_2_4_6 (.slice (some adz_v439) y438.length co14, adz_v439) _ ⟨(kR HO440), ⟨_, rfl⟩, (bk BK437), (bl1 HB GE437)⟩)
    ·
     skip
     rintro ⟨v439, adz_v439⟩ w12 ⟨h0_, h1_, h2_, h3_⟩
     have n0_ : Aside0 (Kd.R Kd.string 9 w12 w.heap.size (fun _ => True) v439 y438) := ⟨h0_⟩
     have n1_ : Aside0 (∃ c_, (v439 : Value) = .slice (some adz_v439) y438.length c_) := ⟨h1_⟩
     have n2_ : Aside0 (w12.heap[gb437]? = some (.cells #[.string (⟨#[]⟩ : ByteArray), .string (⟨#[]⟩ : ByteArray)] 28 (0, 0))) := ⟨h2_⟩
     have n3_ : Aside0 (Below w.heap.size w w12) := ⟨h3_⟩
     clear BK437
     clear HB
     clear h0_ h1_ h2_ h3_
     have HO440 := n0_
     have HA_HO440 := n1_
     have BK437 := n2_
     have HB := n3_
     clear n0_ n1_ n2_ n3_
     have hHeld := trivial
     obtain ⟨co13, eo13⟩ := HA_HO440.out
     clear HA_HO440
     subst eo13
     refine norm_ (a' := ?_) ?_ ?_
     rotate_left
     ·
      simp only [putAll, Act.put, List.setIfInBounds_toArray, List.set_cons_zero, List.set_cons_succ]
      rfl
     refine one_ (i := 6) (N := some 11) #[true, true, true, true, true, true, true, false, false] rfl rfl (one_of HT_.out (by kernel_rfl)) (by decide) (fun K hK => ?_)
     refine goes_ Try.func74 (by kernel_rfl) rfl #[.slice A1 l1.length c1] (by rfl) rfl rfl gm_ ?_
     with_reducible refine (chancellaw5_id.calls k _ _ l1 t443 _ ?side1 ?side2 A6.out).mono ?_
     (case side1 => exact kC (Kd.C_below HR1.out HB.out))
     (case side2 => exact HC1.out)
     rintro e w14 ⟨rfl, hb⟩
     refine ⟨_, rfl, ?_⟩
     replace HO440 := aZ_ (Kd.R_below (kR HO440) hb)
     replace BK437 := aZ_ (blk_below (g := gb437) (o := .cells #[.string (⟨#[]⟩ : ByteArray), .string (⟨#[]⟩ : ByteArray)] 28 (0, 0)) (bk BK437) hb)
     replace HB := aZ_ (below_step (bl1 HB GE437) hb)
     (try clear hb)
     (try clear hb2)
     (try clear hk)
     (try clear hi)
     refine hK.out _ _ trivial (fun hHeld => ?_)
     clear hK K
     refine norm_ (a' := ?_) ?_ ?_
     rotate_left
     ·
      show Act.put _ (some 11) _ = _
      simp only [Act.put, List.setIfInBounds_toArray, List.set_cons_zero, List.set_cons_succ, i64_w, i32_w]
      rfl
     exact norm_ nm_ (hJ0_2_4_6 (.slice (some adz_v439) y438.length co13, adz_v439) _ ⟨(kR HO440), ⟨_, rfl⟩, (bk BK437), (bl1 HB GE437)⟩)
   rintro ⟨v439, adz_v439⟩ w13 ⟨h0_, h1_, h2_, h3_⟩
   have n0_ : Aside0 (Kd.R Kd.string 9 w13 w.heap.size (fun _ => True) v439 y438) := ⟨h0_⟩
   have n1_ : Aside0 (∃ c_, (v439 : Value) = .slice (some adz_v439) y438.length c_) := ⟨h1_⟩
   have n2_ : Aside0 (w13.heap[gb437]? = some (.cells #[.string (⟨#[]⟩ : ByteArray), .string (⟨#[]⟩ : ByteArray)] 28 (0, 0))) := ⟨h2_⟩
   have n3_ : Aside0 (Below w.heap.size w w13) := ⟨h3_⟩
   clear BK437
   clear HB
   clear h0_ h1_ h2_ h3_
   have HO440 := n0_
   have HA_HO440 := n1_
   have BK437 := n2_
   have HB := n3_
   clear n0_ n1_ n2_ n3_
   have hHeld := trivial
   obtain ⟨co14, eo14⟩ := HA_HO440.out
   clear HA_HO440
   subst eo14
   refine norm_ (a' := ?_) ?_ ?_
   rotate_left
   ·
    simp only [putAll, Act.put, List.setIfInBounds_toArray, List.set_cons_zero, List.set_cons_succ]
    rfl
   refine pS_ 7 12 (fa 9 255) HT_ ?_
   refine one_ (i := 8) (N := none) #[true, true, true, true, true, true, true, true, true] rfl rfl (one_of HT_.out (by kernel_rfl)) (by decide) (fun K hK => ?_)
   have hs15 : w13.cell? ⟨gb437, 0, none⟩ = some (.string (⟨#[]⟩ : ByteArray)) := (blk_cell BK437.out 0).trans rfl
   have hfs15 := blk_frozen BK437.out 0
   have hs16 : w13.cell? ⟨gb437, 1, none⟩ = some (.string (⟨#[]⟩ : ByteArray)) := (blk_cell BK437.out 1).trans rfl
   have hfs16 := blk_frozen BK437.out 1
   refine skip_ (w1 := ?_) (by rfl) rfl ?_ ?_
   rotate_left
   ·
    go_simp
    rfl
   refine hK.out _ _ trivial (fun hHeld => ?_)
   clear hK K
   refine done_ (done_of HT_.out (by kernel_rfl)) ?_
   try go_wp2
   refine bodyPost_ret (results_cell_row rfl _ _ gb437 28 #[.string (rdOf ByteArray.empty y438 t441), .string t443] (0, 0) _ rfl (by (with_reducible repeat (first | refine blk_drewN ?_ _ | refine blk_drew ?_ | refine blk_alloc ?_ _)); refine blk_put (cs := #[.string (rdOf ByteArray.empty y438 t441), .string (⟨#[]⟩ : ByteArray)]) ?_ 1 _ rfl; (with_reducible repeat (first | refine blk_drewN ?_ _ | refine blk_drew ?_ | refine blk_alloc ?_ _)); refine blk_put (cs := #[.string (⟨#[]⟩ : ByteArray), .string (⟨#[]⟩ : ByteArray)]) ?_ 0 _ rfl; (with_reducible repeat (first | refine blk_drewN ?_ _ | refine blk_drew ?_ | refine blk_alloc ?_ _)); exact BK437.out) Try.underlying28 rfl (by kernel_rfl)) rfl ?_
   exact ⟨by first | rfl | (simp [errW_none, errW_some] <;> rfl) | (simp [*, errW_none, errW_some] <;> rfl), bl1 HB GE437⟩
  ·
   rw [if_neg c5] at H
   exact absurd H (by simp)
 ·
  rw [if_neg c4] at H
  exact absurd H (by simp)

end Go.Proofs.Ytelibndkkokadaa.GB
namespace Go.Proofs.Ytelibndkkokadaa.GB
open Go.RowKit Go.Proofs.YtelibndkkokadaaW.PrintWords Go.Proofs.YtelibndkkokadaaW.PrintLast Go.Proofs.Ytelibndkkokadaa.HandV Go.Proofs.YtelibndkkokadaaW.PrintMore
attribute [local go_sem] max2_int min2_int max_two min_two max_three min_three max_four min_four   -- for this text's walks alone
set_option linter.unusedVariables false
set_option linter.unusedSimpArgs false

/-! ### chancellaw9_pick: function 15 -/
def chancellaw9_pick.j0 : Nat → List (S38) → Int → Bool → Option (ByteArray × ByteArray)
 | 0, _, _, _ => none
 | k + 1, x0, x1, x13 => if x13 = true then ((chancellaw5_Uid.f k x1 ([] : List Int)).bind fun bt445 => (some (bt445.1, bt445.2))) else ((chancellaw9_within.f (wrap64 (Int.tdiv x1 7)) (x0.length : Int)).bind fun t447 => (if 0 ≤ t447 then (if t447 < (x0.length : Int) then (if (Int.tmod x1 3) = 0 then (if (((rd_T38 x0 t447).f1).length : Int) > 0 then ((chancellaw9_within.f (wrap64 (Int.tdiv x1 21)) (((rd_T38 x0 t447).f1).length : Int)).bind fun t450 => (if 0 ≤ t450 then (if t450 < (((rd_T38 x0 t447).f1).length : Int) then (some ((rd_T28 ((rd_T38 x0 t447).f1) t450).f0, (rd_T28 ((rd_T38 x0 t447).f1) t450).f1)) else (none)) else (none))) else (some ((rd_T38 x0 t447).f0.f0, (rd_T38 x0 t447).f0.f1))) else (some ((rd_T38 x0 t447).f0.f0, (rd_T38 x0 t447).f0.f1))) else (none)) else (none)))
def chancellaw9_pick.f (k : Nat) (l0 : List (S38)) (a1 : Int) : Option (ByteArray × ByteArray) := if (l0.length : Int) = 0 then (chancellaw9_pick.j0 k l0 a1 true) else (chancellaw9_pick.j0 k l0 a1 ((Int.tmod a1 7) == 6))
theorem chancellaw9_pick.mono_l : ∀ k, (∀ y0 y1 y2, LeO (chancellaw9_pick.j0 k y0 y1 y2) (chancellaw9_pick.j0 (k + 1) y0 y1 y2))
 | 0 => fun _ _ _ r h => by simp [chancellaw9_pick.j0] at h
 | k + 1 => by
  have ih0 := chancellaw9_pick.mono_l k
  ·
   intro y0 y1 y2
   unfold chancellaw9_pick.j0
   repeat' first
   | (with_reducible exact ih0 _ _ _)
   | (with_reducible exact chancellaw5_Uid.mono _ _ _)
   | (with_reducible exact LeO.refl _)
   | (with_reducible exact LeO.none _)
   | (with_reducible refine LeO.ite ?_ ?_)
   | (with_reducible refine LeO.bind ?_ (fun _ => ?_))
   | exact ih0 _ _ _
   | exact chancellaw5_Uid.mono _ _ _
   | exact LeO.none _
   | refine LeO.ite ?_ ?_
   | refine LeO.bind ?_ (fun _ => ?_)
theorem chancellaw9_pick.mono : ∀ a0 a1 k, LeO (chancellaw9_pick.f k a0 a1) (chancellaw9_pick.f (k + 1) a0 a1) := by
 intro a0 a1 k
 have ih0 := chancellaw9_pick.mono_l k
 unfold chancellaw9_pick.f
 repeat' first
   | (with_reducible exact ih0 _ _ _)
   | (with_reducible exact chancellaw5_Uid.mono _ _ _)
   | (with_reducible exact LeO.refl _)
   | (with_reducible exact LeO.none _)
   | (with_reducible refine LeO.ite ?_ ?_)
   | (with_reducible refine LeO.bind ?_ (fun _ => ?_))
   | exact ih0 _ _ _
   | exact chancellaw5_Uid.mono _ _ _
   | exact LeO.none _
   | refine LeO.ite ?_ ?_
   | refine LeO.bind ?_ (fun _ => ?_)
def chancellaw9_pick.T5 : Bool × List (List Nat × List Nat) := (true, [([], []), ([0], [0]), ([], []), ([2], [2]), ([], []), ([4], [4]), ([5], [5]), ([3, 6], [3, 6]), ([1, 7], [1, 7]), ([8], [8]), ([9, 7, 0, 1, 2, 3, 4, 5, 6, 7, 8, 9], [9])])
def chancellaw9_pick.B5 : List Nat := [0, 1, 0, 4, 0, 16, 48, 124, 255, 511, 1023]
theorem chancellaw9_pick.tab5 : rtab .any (opsOf Try.f15 5) = chancellaw9_pick.T5 := by kernel_rfl
theorem chancellaw9_pick.bits5 : waitsOk chancellaw9_pick.T5.2 chancellaw9_pick.B5 = true := by kernel_rfl
set_option maxHeartbeats 8000000 in
set_option maxRecDepth 100000 in
theorem chancellaw9_pick.calls (k : Nat) (A0 : Option Addr) (c0 : Nat) (l0 : List (S38)) (a1 : Int) (r1 : ByteArray) (r2 : ByteArray) (w : World) (hr0 : Kd.C k38 w A0 l0.length l0) (hc0 : l0.length ≤ c0) (h : chancellaw9_pick.f k l0 a1 = some (r1, r2)) :
  Calls Try.prog 15 #[.slice A0 l0.length c0, .int .i64 a1] w fun e w' => e = .returned (.agg #[.string r1, .string r2]) ∧ Below w.heap.size w w' := by
 have hu28 := Try.underlying28
 have hu38 := Try.underlying38
 have HR0 := aZ_ hr0
 have HC0 := aZ_ hc0
 clear hr0 hc0
 have HB := aZ_ (Below.refl w.heap.size w)
 have H : (if (l0.length : Int) = 0 then (chancellaw9_pick.j0 k l0 a1 true) else (chancellaw9_pick.j0 k l0 a1 ((Int.tmod a1 7) == 6))) = some (r1, r2) := h
 clear h
 have HC3 := aZ_ H
 clear H
 go_enter Try.func15, Try.ntmps15
 go_upto_region 1 with (first | ((with_reducible refine gate_dst (N := 4) rfl ?_); (try (refine gate_guard (by rfl) ?_; dsimp only)); refine bxE 4 #[.string (⟨#[]⟩ : ByteArray), .string (⟨#[]⟩ : ByteArray)] 28 ?_; intro gb444 hg w4 hbox hb; have BK444 := aZ_ (hbox); have GW444 := aZ_ ((by rw [hg]; exact (below_size (bl HB)) : w.heap.size ≤ gb444)); have GE444 := aZ_ ((by rw [hg]; exact (below_size (bl HB)) : w.heap.size ≤ gb444)); replace HB := aZ_ (below_step (bl HB) hb); clear hb hbox hg))
 (try simp only [Act.put, List.setIfInBounds_toArray, List.set_cons_zero, List.set_cons_succ])
 go_cut [13] (fun v13 wc => ∃ (kq : Nat) (x13_2 : Bool), v13 = .bool x13_2 ∧ Aside0 (chancellaw9_pick.j0 kq l0 a1 x13_2 = some (r1, r2)) ∧ Aside0 (kq ≤ k) ∧ Aside0 (wc.heap[gb444]? = some (.cells #[.string (⟨#[]⟩ : ByteArray), .string (⟨#[]⟩ : ByteArray)] 28 (0, 0))) ∧ Aside0 (Below w.heap.size w wc))
 case first =>
  have H := HC3.out
  clear HC3
  by_cases c5 : (l0.length : Int) = 0
  ·
   rw [if_pos c5] at H
   have c5b0 : ((l0.length : Int) == 0) = true := beq_iff_eq.mpr c5
   have c5b1 : ((l0.length : Int) != 0) = false := bne_eq_false_iff_eq.mpr c5
   clear c5
   (first | rw [c5b0] | (simp only [i64_w, i32_w]; rw [c5b0]) | skip)
   have H' := aZ_ H
   clear H
   go_wp2
   go_meet
   case rel => exact ⟨_, (true), rf_, H', ⟨by first | omega | exact Nat.le_refl _⟩, ⟨bk BK444⟩, ⟨bl1 HB GE444⟩⟩
  ·
   rw [if_neg c5] at H
   have c5b0 : ((l0.length : Int) == 0) = false := beq_eq_false_iff_ne.mpr c5
   have c5b1 : ((l0.length : Int) != 0) = true := bne_iff_ne.mpr c5
   have c5b2 : ¬ (l0 = []) := fun h_ => c5 (by rw [h_]; rfl)
   (first | rw [c5b0] | (simp only [i64_w, i32_w]; rw [c5b0]) | skip)
   have H' := aZ_ H
   clear H
   go_wp2
   go_meet
   case rel => exact ⟨_, (((Int.tmod a1 7) == 6)), rf_, H', ⟨by first | omega | exact Nat.le_refl _⟩, ⟨bk BK444⟩, ⟨bl1 HB GE444⟩⟩
 case rest =>
  clear HC3
  try clear c1
  try clear p2
  try clear c5
  try clear c5b0
  try clear c5b1
  try clear c5b2
  obtain ⟨kq, x13_2, rfl, HA, HJ2, BK444, HB⟩ := hcut
  cases kq with
  | zero => exact absurd HA.out (by simp [chancellaw9_pick.j0])
  | succ kj2 =>
   have H := HA.out
   clear HA
   simp only [chancellaw9_pick.j0] at H
   by_cases c6 : x13_2 = true
   ·
    subst c6
    have H1 : ((chancellaw5_Uid.f kj2 a1 ([] : List Int)).bind fun bt445 => (some (bt445.1, bt445.2))) = some (r1, r2) := by rw [if_pos rfl] at H; exact H
    clear H
    have H := H1
    clear H1
    replace H := Option.bind_eq_some_iff.mp H
    obtain ⟨⟨t445, t446⟩, A70, H⟩ := H
    replace H : (some (t445, t446)) = some (r1, r2) := H
    have A7 := aZ_ A70
    clear A70
    simp only [Option.some.injEq, Prod.mk.injEq] at H
    obtain ⟨rfl, rfl⟩ := H
    go_wp2_with (first | ((with_reducible refine gate_callee (f := 46) rfl ?_); refine goesL_ (some 15) rfl rfl Try.func46 (by kernel_rfl) rfl #[.int .i64 a1, .slice none 0 0] rfl gm_ ?_; (refine (chancellaw5_Uid.calls kj2 a1 _ _ ([] : List Int) t445 t446 _ ?side1 ?side2 A7.out).mono ?_); (case side1 => exact Kd.C_nil _ _); (case side2 => exact Nat.le_refl _); rintro e w8 ⟨rfl, hb⟩; refine ⟨_, rfl, ?_⟩; replace BK444 := aZ_ (blk_below (g := gb444) (o := .cells #[.string (⟨#[]⟩ : ByteArray), .string (⟨#[]⟩ : ByteArray)] 28 (0, 0)) (bk BK444) hb); replace HB := aZ_ (below_step (bl1 HB GE444) hb); (try clear hb); (try clear hb2); (try clear hk); (try clear hi); obtain ⟨hcz9_0, hcz9_1, hfz9_0, hfz9_1⟩ := bc2 BK444))
    refine bodyPost_ret (results_cell_row rfl _ _ gb444 28 #[.string t445, .string t446] (0, 0) _ rfl (by (with_reducible repeat (first | refine blk_drewN ?_ _ | refine blk_drew ?_ | refine blk_alloc ?_ _)); refine blk_put (cs := #[.string t445, .string (⟨#[]⟩ : ByteArray)]) ?_ 1 _ rfl; (with_reducible repeat (first | refine blk_drewN ?_ _ | refine blk_drew ?_ | refine blk_alloc ?_ _)); refine blk_put (cs := #[.string (⟨#[]⟩ : ByteArray), .string (⟨#[]⟩ : ByteArray)]) ?_ 0 _ rfl; (with_reducible repeat (first | refine blk_drewN ?_ _ | refine blk_drew ?_ | refine blk_alloc ?_ _)); exact BK444.out) Try.underlying28 rfl (by kernel_rfl)) rfl ?_
    exact ⟨by first | rfl | (simp [errW_none, errW_some] <;> rfl) | (simp [*, errW_none, errW_some] <;> rfl), bl1 HB GE444⟩
   ·
    replace c6 := Bool.eq_false_iff.mpr c6
    subst c6
    have H1 : ((chancellaw9_within.f (wrap64 (Int.tdiv a1 7)) (l0.length : Int)).bind fun t447 => (if 0 ≤ t447 then (if t447 < (l0.length : Int) then (if (Int.tmod a1 3) = 0 then (if (((rd_T38 l0 t447).f1).length : Int) > 0 then ((chancellaw9_within.f (wrap64 (Int.tdiv a1 21)) (((rd_T38 l0 t447).f1).length : Int)).bind fun t450 => (if 0 ≤ t450 then (if t450 < (((rd_T38 l0 t447).f1).length : Int) then (some ((rd_T28 ((rd_T38 l0 t447).f1) t450).f0, (rd_T28 ((rd_T38 l0 t447).f1) t450).f1)) else (none)) else (none))) else (some ((rd_T38 l0 t447).f0.f0, (rd_T38 l0 t447).f0.f1))) else (some ((rd_T38 l0 t447).f0.f0, (rd_T38 l0 t447).f0.f1))) else (none)) else (none))) = some (r1, r2) := by rw [if_neg (show ¬ (false = true) by decide)] at H; exact H
    clear H
    have H := H1
    clear H1
    replace H := Option.bind_eq_some_iff.mp H
    obtain ⟨t447, A100, H⟩ := H
    replace H : (if 0 ≤ t447 then (if t447 < (l0.length : Int) then (if (Int.tmod a1 3) = 0 then (if (((rd_T38 l0 t447).f1).length : Int) > 0 then ((chancellaw9_within.f (wrap64 (Int.tdiv a1 21)) (((rd_T38 l0 t447).f1).length : Int)).bind fun t450 => (if 0 ≤ t450 then (if t450 < (((rd_T38 l0 t447).f1).length : Int) then (some ((rd_T28 ((rd_T38 l0 t447).f1) t450).f0, (rd_T28 ((rd_T38 l0 t447).f1) t450).f1)) else (none)) else (none))) else (some ((rd_T38 l0 t447).f0.f0, (rd_T38 l0 t447).f0.f1))) else (some ((rd_T38 l0 t447).f0.f0, (rd_T38 l0 t447).f0.f1))) else (none)) else (none)) = some (r1, r2) := H
    have A10 := aZ_ A100
    clear A100
    by_cases c11 : 0 ≤ t447
    ·
     rw [if_pos c11] at H
     have c11b0 : decide (0 ≤ t447) = true := decide_eq_true c11
     clear c11
     by_cases c12 : t447 < (l0.length : Int)
     ·
      rw [if_pos c12] at H
      have c12b0 : decide (t447 < (l0.length : Int)) = true := decide_eq_true c12
      clear c12
      by_cases c13 : (Int.tmod a1 3) = 0
      ·
       rw [if_pos c13] at H
       have c13b0 : ((Int.tmod a1 3) == 0) = true := beq_iff_eq.mpr c13
       have c13b1 : ((Int.tmod a1 3) != 0) = false := bne_eq_false_iff_eq.mpr c13
       clear c13
       by_cases c14 : (((rd_T38 l0 t447).f1).length : Int) > 0
       ·
        rw [if_pos c14] at H
        have c14b0 : decide (0 < (((rd_T38 l0 t447).f1).length : Int)) = true := decide_eq_true c14
        have c14b1 : decide (0 < ((rd_T38 l0 t447).f1).length) = true := decide_eq_true (by omega)
        clear c14
        replace H := Option.bind_eq_some_iff.mp H
        obtain ⟨t450, A150, H⟩ := H
        replace H : (if 0 ≤ t450 then (if t450 < (((rd_T38 l0 t447).f1).length : Int) then (some ((rd_T28 ((rd_T38 l0 t447).f1) t450).f0, (rd_T28 ((rd_T38 l0 t447).f1) t450).f1)) else (none)) else (none)) = some (r1, r2) := H
        have A15 := aZ_ A150
        clear A150
        by_cases c16 : 0 ≤ t450
        ·
         rw [if_pos c16] at H
         have c16b0 : decide (0 ≤ t450) = true := decide_eq_true c16
         clear c16
         by_cases c17 : t450 < (((rd_T38 l0 t447).f1).length : Int)
         ·
          rw [if_pos c17] at H
          have c17b0 : decide (t450 < (((rd_T38 l0 t447).f1).length : Int)) = true := decide_eq_true c17
          clear c17
          simp only [Option.some.injEq, Prod.mk.injEq] at H
          obtain ⟨rfl, rfl⟩ := H
          try go_wp2_with (first | ((with_reducible refine gate_callee (f := 25) rfl ?_); refine goesL_ (some 21) rfl rfl Try.func25 (by kernel_rfl) rfl #[.int .i64 (wrap64 (Int.tdiv a1 7)), .int .i64 (l0.length : Int)] rfl gm_ ?_; (with_reducible refine (chancellaw9_within.calls (wrap64 (Int.tdiv a1 7)) (l0.length : Int) t447 _ A10.out).mono ?_); rintro e w' ⟨rfl, ⟨nd, rfl⟩⟩; refine ⟨_, rfl, ?_⟩; (try (rw [drewN_self wc]; generalize hq_ : World.drewN wc _ = wc; have n0_ : Aside0 (wc.heap[gb444]? = some (.cells #[.string (⟨#[]⟩ : ByteArray), .string (⟨#[]⟩ : ByteArray)] 28 (0, 0))) := ⟨by rw [← hq_]; exact (bk BK444)⟩; have n1_ : Aside0 (Below w.heap.size w wc) := ⟨by rw [← hq_]; exact (bl1 HB GE444)⟩; clear BK444 HB hq_; have BK444 := n0_; have HB := n1_; clear n0_ n1_; (try (have hqz444_0 : wc.cell? ⟨gb444, 0, none⟩ = some (.string (⟨#[]⟩ : ByteArray)) := (blk_cell BK444.out 0).trans rfl; have hqf444_0 := blk_frozen BK444.out 0; have hqz444_1 : wc.cell? ⟨gb444, 1, none⟩ = some (.string (⟨#[]⟩ : ByteArray)) := (blk_cell BK444.out 1).trans rfl; have hqf444_1 := blk_frozen BK444.out 1)))); have p448 : 0 ≤ (t447 : Int) := of_decide_eq_true asm_; have q448 : t447 < (l0.length : Int) := of_decide_eq_true asm_; obtain ⟨ad448, A448_2, c448_2, A448_3, c448_3, e448, hx448_0, hx448_1, hx448_2, hx448_3, hl448_2, hi448_2, hl448_3, hi448_3⟩ := at_T38 HR0.out t447 p448 q448; cases e448; replace hx448_0 := (hbc HB.out hx448_0 :); replace hx448_1 := (hbc HB.out hx448_1 :); replace hx448_2 := (hbc HB.out hx448_2 :); replace hx448_3 := (hbc HB.out hx448_3 :); have HR448_2 := aZ_ hi448_2; have HC448_2 := aZ_ hl448_2; clear hi448_2 hl448_2; have HR448_3 := aZ_ hi448_3; have HC448_3 := aZ_ hl448_3; clear hi448_3 hl448_3; replace p448 := eq_true p448; replace q448 := eq_true q448) | ((with_reducible refine gate_dst (N := 5) rfl ?_); (try (refine gate_guard (by rfl) ?_; dsimp only)); refine bxE 5 #[.string (⟨#[]⟩ : ByteArray), .string (⟨#[]⟩ : ByteArray), .slice none 0 0, .slice none 0 0] 38 ?_; intro gb449 hg w18 hbox hb; have BK449 := aZ_ (hbox); have GW449 := aZ_ ((by rw [hg]; exact (below_size (bl1 HB GE444)) : w.heap.size ≤ gb449)); have GE449 := aZ_ ((by rw [hg]; exact (below_size (bl1 HB GE444)) : w.heap.size ≤ gb449)); replace HB := aZ_ (below_step (bl1 HB GE444) hb); have NB444_449 := aZ_ ((by rw [hg]; exact Nat.ne_of_lt (blk_lt (g := gb444) (o := .cells #[.string (⟨#[]⟩ : ByteArray), .string (⟨#[]⟩ : ByteArray)] 28 (0, 0)) (bk BK444)) : gb444 ≠ gb449)); have NB449_444 := aZ_ ((by rw [hg]; exact Nat.ne_of_gt (blk_lt (g := gb444) (o := .cells #[.string (⟨#[]⟩ : ByteArray), .string (⟨#[]⟩ : ByteArray)] 28 (0, 0)) (bk BK444)) : gb449 ≠ gb444)); replace BK444 := aZ_ (blk_below (g := gb444) (o := .cells #[.string (⟨#[]⟩ : ByteArray), .string (⟨#[]⟩ : ByteArray)] 28 (0, 0)) (bk BK444) hb); clear hb hbox hg; have hnb19 := NB449_444.out; have hnc19 := NB444_449.out; obtain ⟨hcz20_0, hcz20_1, hcz20_2, hcz20_3, hfz20_0, hfz20_1, hfz20_2, hfz20_3⟩ := bc4 BK449))
          have n0_ : Aside0 (((((w18.setCell ⟨gb449, 0, none⟩ (.string ((rd_T38 l0 t447).f0.f0))).setCell ⟨gb449, 1, none⟩ (.string ((rd_T38 l0 t447).f0.f1))).setCell ⟨gb449, 2, none⟩ (.slice A448_2 ((rd_T38 l0 t447).f1).length c448_2)).setCell ⟨gb449, 3, none⟩ (.slice A448_3 ((rd_T38 l0 t447).f2).length c448_3)).heap[gb444]? = some (.cells #[.string (⟨#[]⟩ : ByteArray), .string (⟨#[]⟩ : ByteArray)] 28 (0, 0))) := ⟨by (with_reducible repeat (first | refine blk_drewN ?_ _ | refine blk_drew ?_ | refine blk_alloc ?_ _)); refine blk_far ?_ NB444_449.out _; (with_reducible repeat (first | refine blk_drewN ?_ _ | refine blk_drew ?_ | refine blk_alloc ?_ _)); refine blk_far ?_ NB444_449.out _; (with_reducible repeat (first | refine blk_drewN ?_ _ | refine blk_drew ?_ | refine blk_alloc ?_ _)); refine blk_far ?_ NB444_449.out _; (with_reducible repeat (first | refine blk_drewN ?_ _ | refine blk_drew ?_ | refine blk_alloc ?_ _)); refine blk_far ?_ NB444_449.out _; (with_reducible repeat (first | refine blk_drewN ?_ _ | refine blk_drew ?_ | refine blk_alloc ?_ _)); exact BK444.out⟩
          have n1_ : Aside0 (((((w18.setCell ⟨gb449, 0, none⟩ (.string ((rd_T38 l0 t447).f0.f0))).setCell ⟨gb449, 1, none⟩ (.string ((rd_T38 l0 t447).f0.f1))).setCell ⟨gb449, 2, none⟩ (.slice A448_2 ((rd_T38 l0 t447).f1).length c448_2)).setCell ⟨gb449, 3, none⟩ (.slice A448_3 ((rd_T38 l0 t447).f2).length c448_3)).heap[gb449]? = some (.cells #[.string ((rd_T38 l0 t447).f0.f0), .string ((rd_T38 l0 t447).f0.f1), .slice A448_2 ((rd_T38 l0 t447).f1).length c448_2, .slice A448_3 ((rd_T38 l0 t447).f2).length c448_3] 38 (0, 0))) := ⟨by (with_reducible repeat (first | refine blk_drewN ?_ _ | refine blk_drew ?_ | refine blk_alloc ?_ _)); refine blk_put (cs := #[.string ((rd_T38 l0 t447).f0.f0), .string ((rd_T38 l0 t447).f0.f1), .slice A448_2 ((rd_T38 l0 t447).f1).length c448_2, .slice none 0 0]) ?_ 3 _ rfl; (with_reducible repeat (first | refine blk_drewN ?_ _ | refine blk_drew ?_ | refine blk_alloc ?_ _)); refine blk_put (cs := #[.string ((rd_T38 l0 t447).f0.f0), .string ((rd_T38 l0 t447).f0.f1), .slice none 0 0, .slice none 0 0]) ?_ 2 _ rfl; (with_reducible repeat (first | refine blk_drewN ?_ _ | refine blk_drew ?_ | refine blk_alloc ?_ _)); refine blk_put (cs := #[.string ((rd_T38 l0 t447).f0.f0), .string (⟨#[]⟩ : ByteArray), .slice none 0 0, .slice none 0 0]) ?_ 1 _ rfl; (with_reducible repeat (first | refine blk_drewN ?_ _ | refine blk_drew ?_ | refine blk_alloc ?_ _)); refine blk_put (cs := #[.string (⟨#[]⟩ : ByteArray), .string (⟨#[]⟩ : ByteArray), .slice none 0 0, .slice none 0 0]) ?_ 0 _ rfl; (with_reducible repeat (first | refine blk_drewN ?_ _ | refine blk_drew ?_ | refine blk_alloc ?_ _)); exact BK449.out⟩
          have n2_ : Aside0 (Below w.heap.size w ((((w18.setCell ⟨gb449, 0, none⟩ (.string ((rd_T38 l0 t447).f0.f0))).setCell ⟨gb449, 1, none⟩ (.string ((rd_T38 l0 t447).f0.f1))).setCell ⟨gb449, 2, none⟩ (.slice A448_2 ((rd_T38 l0 t447).f1).length c448_2)).setCell ⟨gb449, 3, none⟩ (.slice A448_3 ((rd_T38 l0 t447).f2).length c448_3))) := ⟨bl2 HB GE444 GE449⟩
          (try clear BK444)
          (try clear BK449)
          (try clear HB)
          generalize ((((w18.setCell ⟨gb449, 0, none⟩ (.string ((rd_T38 l0 t447).f0.f0))).setCell ⟨gb449, 1, none⟩ (.string ((rd_T38 l0 t447).f0.f1))).setCell ⟨gb449, 2, none⟩ (.slice A448_2 ((rd_T38 l0 t447).f1).length c448_2)).setCell ⟨gb449, 3, none⟩ (.slice A448_3 ((rd_T38 l0 t447).f2).length c448_3)) = w21 at n0_ n1_ n2_ ⊢
          have BK444 := n0_
          have BK449 := n1_
          have HB := n2_
          clear n0_ n1_ n2_
          replace BK444 := aZ_ (blk_drew BK444.out)
          replace BK449 := aZ_ (blk_drew BK449.out)
          replace HB := aZ_ (below_drew1 HB.out)
          have p451 : 0 ≤ (t450 : Int) := of_decide_eq_true asm_
          have q451 : t450 < (((rd_T38 l0 t447).f1).length : Int) := of_decide_eq_true asm_
          obtain ⟨ad451, e451, hx451_0, hx451_1⟩ := at_T28 HR448_2.out t450 p451 q451
          have hw451_1 := hx451_1
          have hw451_0 := hx451_0
          cases e451
          replace hx451_0 := (hbc HB.out hx451_0 :)
          replace hx451_1 := (hbc HB.out hx451_1 :)
          replace p451 := eq_true p451
          replace q451 := eq_true q451
          refine start_ (n := 11) (S := fun w' => w'.cell? ⟨gb449, 0, none⟩ = some (.string ((rd_T38 l0 t447).f0.f0)) ∧ w'.cell? ⟨gb449, 1, none⟩ = some (.string ((rd_T38 l0 t447).f0.f1)) ∧ w'.cell? ⟨gb449, 2, none⟩ = some (.slice (some ad451) ((rd_T38 l0 t447).f1).length c448_2) ∧ w'.cell? ⟨gb449, 3, none⟩ = some (.slice A448_3 ((rd_T38 l0 t447).f2).length c448_3) ∧ w'.cell? (ad451.add ((t450).toNat * 2)) = some (.string ((rd_T28 ((rd_T38 l0 t447).f1) t450).f0)) ∧ w'.cell? ⟨(ad451.add ((t450).toNat * 2)).block, (ad451.add ((t450).toNat * 2)).off + 1, none⟩ = some (.string ((rd_T28 ((rd_T38 l0 t447).f1) t450).f1))) (ds := []) #[false, false, false, false, false, false, false, false, false, false, false] (by kernel_rfl) rfl rfl ⟨(blk_cell BK449.out 0).trans rfl, (blk_cell BK449.out 1).trans rfl, (blk_cell BK449.out 2).trans rfl, (blk_cell BK449.out 3).trans rfl, ((hbc HB.out hw451_0 :)), ((hbc HB.out hw451_1 :))⟩ (fun hHeld => ?_); refine with_tabW chancellaw9_pick.tab5 chancellaw9_pick.bits5 (fun HT_ HW_ => ?_)
          generalize w21.drew = w22 at BK444 BK449 HB hx451_0 hx451_1 hHeld ⊢
          refine pS_ 0 33 (fa 11 1) HT_ ?_
          refine pS_ 2 35 (fa 11 5) HT_ ?_
          refine pS_ 3 36 (fa 11 13) HT_ ?_
          refine pS_ 4 37 (fa 11 29) HT_ ?_
          refine tS_ 1 34 (fa 11 31) HT_ HW_ hHeld ?_
          refine tS_ 5 38 (fa 11 63) HT_ HW_ hHeld ?_
          refine pS_ 6 39 (fa 11 127) HT_ ?_
          refine one_ (i := 7) (N := some 40) #[true, true, true, true, true, true, true, true, false, false, false] rfl rfl (one_of HT_.out (by kernel_rfl)) (by decide) (fun K hK => ?_)
          refine goes_ Try.func25 (by kernel_rfl) rfl #[.int .i64 (wrap64 (Int.tdiv a1 21)), .int .i64 (((rd_T38 l0 t447).f1).length : Int)] (by rfl) rfl rfl gm_ ?_
          with_reducible refine (chancellaw9_within.calls (wrap64 (Int.tdiv a1 21)) (((rd_T38 l0 t447).f1).length : Int) t450 _ A15.out).mono ?_
          rintro e w' ⟨rfl, ⟨nd, rfl⟩⟩
          refine ⟨_, rfl, ?_⟩
          refine hK.out _ _ ⟨(blk_cell BK449.out 0).trans rfl, (blk_cell BK449.out 1).trans rfl, (blk_cell BK449.out 2).trans rfl, (blk_cell BK449.out 3).trans rfl, ((hbc HB.out hw451_0 :)), ((hbc HB.out hw451_1 :))⟩ (fun hHeld => ?_)
          clear hK K
          refine norm_ (a' := ?_) ?_ ?_
          rotate_left
          ·
           show Act.put _ (some 40) _ = _
           simp only [Act.put, List.setIfInBounds_toArray, List.set_cons_zero, List.set_cons_succ, i64_w, i32_w]
           rfl
          refine pS_ 8 41 (fa 11 511) HT_ ?_
          refine tS_ 9 42 (fa 11 1023) HT_ HW_ hHeld ?_
          refine one_ (i := 10) (N := none) #[true, true, true, true, true, true, true, true, true, true, true] rfl rfl (one_of HT_.out (by kernel_rfl)) (by decide) (fun K hK => ?_)
          have hs23 : w22.cell? ⟨gb444, 0, none⟩ = some (.string (⟨#[]⟩ : ByteArray)) := (blk_cell BK444.out 0).trans rfl
          have hfs23 := blk_frozen BK444.out 0
          have hns23_1 := NB449_444.out
          have hms23_1 := NB444_449.out
          have hs24 : w22.cell? ⟨gb444, 1, none⟩ = some (.string (⟨#[]⟩ : ByteArray)) := (blk_cell BK444.out 1).trans rfl
          have hfs24 := blk_frozen BK444.out 1
          have hns24_1 := NB449_444.out
          have hms24_1 := NB444_449.out
          refine skip_ (w1 := ?_) (by rfl) rfl ?_ ?_
          rotate_left
          ·
           go_simp
           rfl
          refine hK.out _ _ ⟨((cell_far (p := ⟨gb444, _, none⟩) NB449_444.out _).trans (((cell_far (p := ⟨gb444, _, none⟩) NB449_444.out _).trans (hHeld.1)))), ((cell_far (p := ⟨gb444, _, none⟩) NB449_444.out _).trans (((cell_far (p := ⟨gb444, _, none⟩) NB449_444.out _).trans (hHeld.2.1)))), ((cell_far (p := ⟨gb444, _, none⟩) NB449_444.out _).trans (((cell_far (p := ⟨gb444, _, none⟩) NB449_444.out _).trans (hHeld.2.2.1)))), ((cell_far (p := ⟨gb444, _, none⟩) NB449_444.out _).trans (((cell_far (p := ⟨gb444, _, none⟩) NB449_444.out _).trans (hHeld.2.2.2.1)))), ((cell_far (p := ⟨gb444, _, none⟩) (by first | exact Nat.ne_of_lt (Nat.lt_of_lt_of_le (by have := World.block_lt_of_cell? _ _ hw451_0; first | rwa [add_block] at this | exact this) GW444.out) | (rw [add_block]; exact Nat.ne_of_lt (Nat.lt_of_lt_of_le (by have := World.block_lt_of_cell? _ _ hw451_0; first | rwa [add_block] at this | exact this) GW444.out)) | (show (Addr.add _ _).block ≠ _; rw [add_block]; exact Nat.ne_of_lt (Nat.lt_of_lt_of_le (by have := World.block_lt_of_cell? _ _ hw451_0; first | rwa [add_block] at this | exact this) GW444.out)) | (dsimp only; exact Nat.ne_of_lt (Nat.lt_of_lt_of_le (by have := World.block_lt_of_cell? _ _ hw451_0; first | rwa [add_block] at this | exact this) GW444.out))) _).trans (((cell_far (p := ⟨gb444, _, none⟩) (by first | exact Nat.ne_of_lt (Nat.lt_of_lt_of_le (by have := World.block_lt_of_cell? _ _ hw451_0; first | rwa [add_block] at this | exact this) GW444.out) | (rw [add_block]; exact Nat.ne_of_lt (Nat.lt_of_lt_of_le (by have := World.block_lt_of_cell? _ _ hw451_0; first | rwa [add_block] at this | exact this) GW444.out)) | (show (Addr.add _ _).block ≠ _; rw [add_block]; exact Nat.ne_of_lt (Nat.lt_of_lt_of_le (by have := World.block_lt_of_cell? _ _ hw451_0; first | rwa [add_block] at this | exact this) GW444.out)) | (dsimp only; exact Nat.ne_of_lt (Nat.lt_of_lt_of_le (by have := World.block_lt_of_cell? _ _ hw451_0; first | rwa [add_block] at this | exact this) GW444.out))) _).trans (hHeld.2.2.2.2.1)))), ((cell_far (p := ⟨gb444, _, none⟩) (by first | exact Nat.ne_of_lt (Nat.lt_of_lt_of_le (by have := World.block_lt_of_cell? _ _ hw451_1; first | rwa [add_block] at this | exact this) GW444.out) | (rw [add_block]; exact Nat.ne_of_lt (Nat.lt_of_lt_of_le (by have := World.block_lt_of_cell? _ _ hw451_1; first | rwa [add_block] at this | exact this) GW444.out)) | (show (Addr.add _ _).block ≠ _; rw [add_block]; exact Nat.ne_of_lt (Nat.lt_of_lt_of_le (by have := World.block_lt_of_cell? _ _ hw451_1; first | rwa [add_block] at this | exact this) GW444.out)) | (dsimp only; exact Nat.ne_of_lt (Nat.lt_of_lt_of_le (by have := World.block_lt_of_cell? _ _ hw451_1; first | rwa [add_block] at this | exact this) GW444.out))) _).trans (((cell_far (p := ⟨gb444, _, none⟩) (by first | exact Nat.ne_of_lt (Nat.lt_of_lt_of_le (by have := World.block_lt_of_cell? _ _ hw451_1; first | rwa [add_block] at this | exact this) GW444.out) | (rw [add_block]; exact Nat.ne_of_lt (Nat.lt_of_lt_of_le (by have := World.block_lt_of_cell? _ _ hw451_1; first | rwa [add_block] at this | exact this) GW444.out)) | (show (Addr.add _ _).block ≠ _; rw [add_block]; exact Nat.ne_of_lt (Nat.lt_of_lt_of_le (by have := World.block_lt_of_cell? _ _ hw451_1; first | rwa [add_block] at this | exact this) GW444.out)) | (dsimp only; exact Nat.ne_of_lt (Nat.lt_of_lt_of_le (by have := World.block_lt_of_cell? _ _ hw451_1; first | rwa [add_block] at this | exact this) GW444.out))) _).trans (hHeld.2.2.2.2.2))))⟩ (fun hHeld => ?_)
          clear hK K
          refine done_ (done_of HT_.out (by kernel_rfl)) ?_
          try go_wp2
          refine bodyPost_ret (results_cell_row rfl _ _ gb444 28 #[.string ((rd_T28 ((rd_T38 l0 t447).f1) t450).f0), .string ((rd_T28 ((rd_T38 l0 t447).f1) t450).f1)] (0, 0) _ rfl (by (with_reducible repeat (first | refine blk_drewN ?_ _ | refine blk_drew ?_ | refine blk_alloc ?_ _)); refine blk_put (cs := #[.string ((rd_T28 ((rd_T38 l0 t447).f1) t450).f0), .string (⟨#[]⟩ : ByteArray)]) ?_ 1 _ rfl; (with_reducible repeat (first | refine blk_drewN ?_ _ | refine blk_drew ?_ | refine blk_alloc ?_ _)); refine blk_put (cs := #[.string (⟨#[]⟩ : ByteArray), .string (⟨#[]⟩ : ByteArray)]) ?_ 0 _ rfl; (with_reducible repeat (first | refine blk_drewN ?_ _ | refine blk_drew ?_ | refine blk_alloc ?_ _)); exact BK444.out) Try.underlying28 rfl (by kernel_rfl)) rfl ?_
          exact ⟨by first | rfl | (simp [errW_none, errW_some] <;> rfl) | (simp [*, errW_none, errW_some] <;> rfl), bl2 HB GE444 GE449⟩
         ·
          rw [if_neg c17] at H
          exact absurd H (by simp)
        ·
         rw [if_neg c16] at H
         exact absurd H (by simp)
       ·
        rw [if_neg c14] at H
        have c14b0 : decide (0 < (((rd_T38 l0 t447).f1).length : Int)) = false := decide_eq_false c14
        have c14b1 : decide (0 < ((rd_T38 l0 t447).f1).length) = false := decide_eq_false (by omega)
        clear c14
        simp only [Option.some.injEq, Prod.mk.injEq] at H
        obtain ⟨rfl, rfl⟩ := H
        go_wp2_with (first | ((with_reducible refine gate_callee (f := 25) rfl ?_); refine goesL_ (some 21) rfl rfl Try.func25 (by kernel_rfl) rfl #[.int .i64 (wrap64 (Int.tdiv a1 7)), .int .i64 (l0.length : Int)] rfl gm_ ?_; (with_reducible refine (chancellaw9_within.calls (wrap64 (Int.tdiv a1 7)) (l0.length : Int) t447 _ A10.out).mono ?_); rintro e w' ⟨rfl, ⟨nd, rfl⟩⟩; refine ⟨_, rfl, ?_⟩; (try (rw [drewN_self wc]; generalize hq_ : World.drewN wc _ = wc; have n0_ : Aside0 (wc.heap[gb444]? = some (.cells #[.string (⟨#[]⟩ : ByteArray), .string (⟨#[]⟩ : ByteArray)] 28 (0, 0))) := ⟨by rw [← hq_]; exact (bk BK444)⟩; have n1_ : Aside0 (Below w.heap.size w wc) := ⟨by rw [← hq_]; exact (bl1 HB GE444)⟩; clear BK444 HB hq_; have BK444 := n0_; have HB := n1_; clear n0_ n1_; (try (have hqz444_0 : wc.cell? ⟨gb444, 0, none⟩ = some (.string (⟨#[]⟩ : ByteArray)) := (blk_cell BK444.out 0).trans rfl; have hqf444_0 := blk_frozen BK444.out 0; have hqz444_1 : wc.cell? ⟨gb444, 1, none⟩ = some (.string (⟨#[]⟩ : ByteArray)) := (blk_cell BK444.out 1).trans rfl; have hqf444_1 := blk_frozen BK444.out 1)))); have p448 : 0 ≤ (t447 : Int) := of_decide_eq_true asm_; have q448 : t447 < (l0.length : Int) := of_decide_eq_true asm_; obtain ⟨ad448, A448_2, c448_2, A448_3, c448_3, e448, hx448_0, hx448_1, hx448_2, hx448_3, hl448_2, hi448_2, hl448_3, hi448_3⟩ := at_T38 HR0.out t447 p448 q448; cases e448; replace hx448_0 := (hbc HB.out hx448_0 :); replace hx448_1 := (hbc HB.out hx448_1 :); replace hx448_2 := (hbc HB.out hx448_2 :); replace hx448_3 := (hbc HB.out hx448_3 :); have HR448_2 := aZ_ hi448_2; have HC448_2 := aZ_ hl448_2; clear hi448_2 hl448_2; have HR448_3 := aZ_ hi448_3; have HC448_3 := aZ_ hl448_3; clear hi448_3 hl448_3; replace p448 := eq_true p448; replace q448 := eq_true q448) | ((with_reducible refine gate_dst (N := 5) rfl ?_); (try (refine gate_guard (by rfl) ?_; dsimp only)); refine bxE 5 #[.string (⟨#[]⟩ : ByteArray), .string (⟨#[]⟩ : ByteArray), .slice none 0 0, .slice none 0 0] 38 ?_; intro gb449 hg w25 hbox hb; have BK449 := aZ_ (hbox); have GW449 := aZ_ ((by rw [hg]; exact (below_size (bl1 HB GE444)) : w.heap.size ≤ gb449)); have GE449 := aZ_ ((by rw [hg]; exact (below_size (bl1 HB GE444)) : w.heap.size ≤ gb449)); replace HB := aZ_ (below_step (bl1 HB GE444) hb); have NB444_449 := aZ_ ((by rw [hg]; exact Nat.ne_of_lt (blk_lt (g := gb444) (o := .cells #[.string (⟨#[]⟩ : ByteArray), .string (⟨#[]⟩ : ByteArray)] 28 (0, 0)) (bk BK444)) : gb444 ≠ gb449)); have NB449_444 := aZ_ ((by rw [hg]; exact Nat.ne_of_gt (blk_lt (g := gb444) (o := .cells #[.string (⟨#[]⟩ : ByteArray), .string (⟨#[]⟩ : ByteArray)] 28 (0, 0)) (bk BK444)) : gb449 ≠ gb444)); replace BK444 := aZ_ (blk_below (g := gb444) (o := .cells #[.string (⟨#[]⟩ : ByteArray), .string (⟨#[]⟩ : ByteArray)] 28 (0, 0)) (bk BK444) hb); clear hb hbox hg; have hnb26 := NB449_444.out; have hnc26 := NB444_449.out; obtain ⟨hcz27_0, hcz27_1, hcz27_2, hcz27_3, hfz27_0, hfz27_1, hfz27_2, hfz27_3⟩ := bc4 BK449; obtain ⟨hcz28_0, hcz28_1, hfz28_0, hfz28_1⟩ := bc2 BK444))
        refine bodyPost_ret (results_cell_row rfl _ _ gb444 28 #[.string ((rd_T38 l0 t447).f0.f0), .string ((rd_T38 l0 t447).f0.f1)] (0, 0) _ rfl (by (with_reducible repeat (first | refine blk_drewN ?_ _ | refine blk_drew ?_ | refine blk_alloc ?_ _)); refine blk_put (cs := #[.string ((rd_T38 l0 t447).f0.f0), .string (⟨#[]⟩ : ByteArray)]) ?_ 1 _ rfl; (with_reducible repeat (first | refine blk_drewN ?_ _ | refine blk_drew ?_ | refine blk_alloc ?_ _)); refine blk_put (cs := #[.string (⟨#[]⟩ : ByteArray), .string (⟨#[]⟩ : ByteArray)]) ?_ 0 _ rfl; (with_reducible repeat (first | refine blk_drewN ?_ _ | refine blk_drew ?_ | refine blk_alloc ?_ _)); refine blk_far ?_ NB444_449.out _; (with_reducible repeat (first | refine blk_drewN ?_ _ | refine blk_drew ?_ | refine blk_alloc ?_ _)); refine blk_far ?_ NB444_449.out _; (with_reducible repeat (first | refine blk_drewN ?_ _ | refine blk_drew ?_ | refine blk_alloc ?_ _)); refine blk_far ?_ NB444_449.out _; (with_reducible repeat (first | refine blk_drewN ?_ _ | refine blk_drew ?_ | refine blk_alloc ?_ _)); refine blk_far ?_ NB444_449.out _; (with_reducible repeat (first | refine blk_drewN ?_ _ | refine blk_drew ?_ | refine blk_alloc ?_ _)); exact BK444.out) Try.underlying28 rfl (by kernel_rfl)) rfl ?_
        exact ⟨by first | rfl | (simp [errW_none, errW_some] <;> rfl) | (simp [*, errW_none, errW_some] <;> rfl), bl2 HB GE444 GE449⟩
      ·
       rw [if_neg c13] at H
       have c13b0 : ((Int.tmod a1 3) == 0) = false := beq_eq_false_iff_ne.mpr c13
       have c13b1 : ((Int.tmod a1 3) != 0) = true := bne_iff_ne.mpr c13
       simp only [Option.some.injEq, Prod.mk.injEq] at H
       obtain ⟨rfl, rfl⟩ := H
       go_wp2_with (first | ((with_reducible refine gate_callee (f := 25) rfl ?_); refine goesL_ (some 21) rfl rfl Try.func25 (by kernel_rfl) rfl #[.int .i64 (wrap64 (Int.tdiv a1 7)), .int .i64 (l0.length : Int)] rfl gm_ ?_; (with_reducible refine (chancellaw9_within.calls (wrap64 (Int.tdiv a1 7)) (l0.length : Int) t447 _ A10.out).mono ?_); rintro e w' ⟨rfl, ⟨nd, rfl⟩⟩; refine ⟨_, rfl, ?_⟩; (try (rw [drewN_self wc]; generalize hq_ : World.drewN wc _ = wc; have n0_ : Aside0 (wc.heap[gb444]? = some (.cells #[.string (⟨#[]⟩ : ByteArray), .string (⟨#[]⟩ : ByteArray)] 28 (0, 0))) := ⟨by rw [← hq_]; exact (bk BK444)⟩; have n1_ : Aside0 (Below w.heap.size w wc) := ⟨by rw [← hq_]; exact (bl1 HB GE444)⟩; clear BK444 HB hq_; have BK444 := n0_; have HB := n1_; clear n0_ n1_; (try (have hqz444_0 : wc.cell? ⟨gb444, 0, none⟩ = some (.string (⟨#[]⟩ : ByteArray)) := (blk_cell BK444.out 0).trans rfl; have hqf444_0 := blk_frozen BK444.out 0; have hqz444_1 : wc.cell? ⟨gb444, 1, none⟩ = some (.string (⟨#[]⟩ : ByteArray)) := (blk_cell BK444.out 1).trans rfl; have hqf444_1 := blk_frozen BK444.out 1)))); have p448 : 0 ≤ (t447 : Int) := of_decide_eq_true asm_; have q448 : t447 < (l0.length : Int) := of_decide_eq_true asm_; obtain ⟨ad448, A448_2, c448_2, A448_3, c448_3, e448, hx448_0, hx448_1, hx448_2, hx448_3, hl448_2, hi448_2, hl448_3, hi448_3⟩ := at_T38 HR0.out t447 p448 q448; cases e448; replace hx448_0 := (hbc HB.out hx448_0 :); replace hx448_1 := (hbc HB.out hx448_1 :); replace hx448_2 := (hbc HB.out hx448_2 :); replace hx448_3 := (hbc HB.out hx448_3 :); have HR448_2 := aZ_ hi448_2; have HC448_2 := aZ_ hl448_2; clear hi448_2 hl448_2; have HR448_3 := aZ_ hi448_3; have HC448_3 := aZ_ hl448_3; clear hi448_3 hl448_3; replace p448 := eq_true p448; replace q448 := eq_true q448) | ((with_reducible refine gate_dst (N := 5) rfl ?_); (try (refine gate_guard (by rfl) ?_; dsimp only)); refine bxE 5 #[.string (⟨#[]⟩ : ByteArray), .string (⟨#[]⟩ : ByteArray), .slice none 0 0, .slice none 0 0] 38 ?_; intro gb449 hg w29 hbox hb; have BK449 := aZ_ (hbox); have GW449 := aZ_ ((by rw [hg]; exact (below_size (bl1 HB GE444)) : w.heap.size ≤ gb449)); have GE449 := aZ_ ((by rw [hg]; exact (below_size (bl1 HB GE444)) : w.heap.size ≤ gb449)); replace HB := aZ_ (below_step (bl1 HB GE444) hb); have NB444_449 := aZ_ ((by rw [hg]; exact Nat.ne_of_lt (blk_lt (g := gb444) (o := .cells #[.string (⟨#[]⟩ : ByteArray), .string (⟨#[]⟩ : ByteArray)] 28 (0, 0)) (bk BK444)) : gb444 ≠ gb449)); have NB449_444 := aZ_ ((by rw [hg]; exact Nat.ne_of_gt (blk_lt (g := gb444) (o := .cells #[.string (⟨#[]⟩ : ByteArray), .string (⟨#[]⟩ : ByteArray)] 28 (0, 0)) (bk BK444)) : gb449 ≠ gb444)); replace BK444 := aZ_ (blk_below (g := gb444) (o := .cells #[.string (⟨#[]⟩ : ByteArray), .string (⟨#[]⟩ : ByteArray)] 28 (0, 0)) (bk BK444) hb); clear hb hbox hg; have hnb30 := NB449_444.out; have hnc30 := NB444_449.out; obtain ⟨hcz31_0, hcz31_1, hcz31_2, hcz31_3, hfz31_0, hfz31_1, hfz31_2, hfz31_3⟩ := bc4 BK449; obtain ⟨hcz32_0, hcz32_1, hfz32_0, hfz32_1⟩ := bc2 BK444))
       refine bodyPost_ret (results_cell_row rfl _ _ gb444 28 #[.string ((rd_T38 l0 t447).f0.f0), .string ((rd_T38 l0 t447).f0.f1)] (0, 0) _ rfl (by (with_reducible repeat (first | refine blk_drewN ?_ _ | refine blk_drew ?_ | refine blk_alloc ?_ _)); refine blk_put (cs := #[.string ((rd_T38 l0 t447).f0.f0), .string (⟨#[]⟩ : ByteArray)]) ?_ 1 _ rfl; (with_reducible repeat (first | refine blk_drewN ?_ _ | refine blk_drew ?_ | refine blk_alloc ?_ _)); refine blk_put (cs := #[.string (⟨#[]⟩ : ByteArray), .string (⟨#[]⟩ : ByteArray)]) ?_ 0 _ rfl; (with_reducible repeat (first | refine blk_drewN ?_ _ | refine blk_drew ?_ | refine blk_alloc ?_ _)); refine blk_far ?_ NB444_449.out _; (with_reducible repeat (first | refine blk_drewN ?_ _ | refine blk_drew ?_ | refine blk_alloc ?_ _)); refine blk_far ?_ NB444_449.out _; (with_reducible repeat (first | refine blk_drewN ?_ _ | refine blk_drew ?_ | refine blk_alloc ?_ _)); refine blk_far ?_ NB444_449.out _; (with_reducible repeat (first | refine blk_drewN ?_ _ | refine blk_drew ?_ | refine blk_alloc ?_ _)); refine blk_far ?_ NB444_449.out _; (with_reducible repeat (first | refine blk_drewN ?_ _ | refine blk_drew ?_ | refine blk_alloc ?_ _)); exact BK444.out) Try.underlying28 rfl (by kernel_rfl)) rfl ?_
       exact ⟨by first | rfl | (simp [errW_none, errW_some] <;> rfl) | (simp [*, errW_none, errW_some] <;> rfl), bl2 HB GE444 GE449⟩
     ·
      rw [if_neg c12] at H
      exact absurd H (by simp)
    ·
     rw [if_neg c11] at H
     exact absurd H (by simp)

end Go.Proofs.Ytelibndkkokadaa.GB
