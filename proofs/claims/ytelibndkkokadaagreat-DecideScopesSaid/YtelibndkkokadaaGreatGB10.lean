-- Written by wip/tools/gprint.py over the kit's printer.
import Derived.Test.YtelibndkkokadaaGreatGB0
import Derived.Test.YtelibndkkokadaaGreatJz
import Derived.Test.YtelibndkkokadaaGreatGB9
import Derived.Test.YtelibndkkokadaaGreatSqz
namespace Go.Proofs.YtelibndkkokadaaGreat.GB
open Go.RowKit Go.Proofs.YtelibndkkokadaaGreatW.PrintWords Go.Proofs.YtelibndkkokadaaGreatW.PrintLast Go.Proofs.YtelibndkkokadaaGreat.HandV Go.Proofs.YtelibndkkokadaaGreatW.PrintMore
attribute [local go_sem] max2_int min2_int max_two min_two max_three min_three max_four min_four   -- for this text's walks alone
set_option linter.unusedVariables false
set_option linter.unusedSimpArgs false

/-! ### chancellaw5_Uid: function 13 -/
def chancellaw5_Uid.f (k : Nat) (a0 : Int) (l1 : List Int) : Option (ByteArray × ByteArray) := (some (([(⟨#[85, 115, 101, 114]⟩ : ByteArray), (⟨#[71, 114, 111, 117, 112]⟩ : ByteArray), (⟨#[68, 111, 99]⟩ : ByteArray), (⟨#[65, 99, 116, 105, 111, 110]⟩ : ByteArray), (⟨#[105, 102]⟩ : ByteArray)] : List ByteArray) : List ByteArray)).bind fun y347 => ((chancellaw5_within.f a0 5).bind fun t350 => (if 0 ≤ t350 then (if t350 < (y347.length : Int) then ((chancellaw5_id.f k l1).bind fun t352 => (some (rdOf ByteArray.empty y347 t350, t352))) else (none)) else (none)))
theorem chancellaw5_Uid.mono : ∀ a0 a1 k, LeO (chancellaw5_Uid.f k a0 a1) (chancellaw5_Uid.f (k + 1) a0 a1) := by
 intro a0 a1 k
 unfold chancellaw5_Uid.f
 repeat' first
   | (with_reducible exact chancellaw5_id.mono _ _)
   | (with_reducible exact LeO.refl _)
   | (with_reducible exact LeO.none _)
   | (with_reducible refine LeO.ite ?_ ?_)
   | (with_reducible refine LeO.bind ?_ (fun _ => ?_))
   | exact chancellaw5_id.mono _ _
   | exact LeO.none _
   | refine LeO.ite ?_ ?_
   | refine LeO.bind ?_ (fun _ => ?_)
def chancellaw5_Uid.T1 : Bool × List (List Nat × List Nat) := (true, [([], []), ([], []), ([1], [1]), ([0, 2], [0, 2]), ([3], [3]), ([], []), ([5, 2], [5]), ([4, 6], [4, 6]), ([7, 6, 0, 1, 2, 3, 4, 5, 6, 7], [7])])
def chancellaw5_Uid.B1 : List Nat := [0, 0, 2, 7, 15, 0, 38, 127, 255]
theorem chancellaw5_Uid.tab1 : rtab .any (opsOf Tryz.f13 1) = chancellaw5_Uid.T1 := by kernel_rfl
theorem chancellaw5_Uid.bits1 : waitsOk chancellaw5_Uid.T1.2 chancellaw5_Uid.B1 = true := by kernel_rfl
set_option maxHeartbeats 8000000 in
set_option maxRecDepth 100000 in
theorem chancellaw5_Uid.calls (k : Nat) (a0 : Int) (A1 : Option Addr) (c1 : Nat) (l1 : List Int) (r1 : ByteArray) (r2 : ByteArray) (w : World) (hr1 : Kd.C (Kd.int .i64) w A1 l1.length l1) (hc1 : l1.length ≤ c1) (h : chancellaw5_Uid.f k a0 l1 = some (r1, r2)) :
  Calls Tryz.prog 13 #[.int .i64 a0, .slice A1 l1.length c1] w fun e w' => e = .returned (.agg #[.string r1, .string r2]) ∧ Below w.heap.size w w' := by
 have hu28 := Tryz.underlying28
 have HR1 := aZ_ hr1
 have HC1 := aZ_ hc1
 clear hr1 hc1
 have HB := aZ_ (Below.refl w.heap.size w)
 have H : ((some (([(⟨#[85, 115, 101, 114]⟩ : ByteArray), (⟨#[71, 114, 111, 117, 112]⟩ : ByteArray), (⟨#[68, 111, 99]⟩ : ByteArray), (⟨#[65, 99, 116, 105, 111, 110]⟩ : ByteArray), (⟨#[105, 102]⟩ : ByteArray)] : List ByteArray) : List ByteArray)).bind fun y347 => ((chancellaw5_within.f a0 5).bind fun t350 => (if 0 ≤ t350 then (if t350 < (y347.length : Int) then ((chancellaw5_id.f k l1).bind fun t352 => (some (rdOf ByteArray.empty y347 t350, t352))) else (none)) else (none)))) = some (r1, r2) := h
 clear h
 obtain ⟨y347, hy347⟩ : ∃ y_ : List ByteArray, y_ = (([(⟨#[85, 115, 101, 114]⟩ : ByteArray), (⟨#[71, 114, 111, 117, 112]⟩ : ByteArray), (⟨#[68, 111, 99]⟩ : ByteArray), (⟨#[65, 99, 116, 105, 111, 110]⟩ : ByteArray), (⟨#[105, 102]⟩ : ByteArray)] : List ByteArray)) := ⟨_, rfl⟩
 replace H : ((chancellaw5_within.f a0 5).bind fun t350 => (if 0 ≤ t350 then (if t350 < (y347.length : Int) then ((chancellaw5_id.f k l1).bind fun t352 => (some (rdOf ByteArray.empty y347 t350, t352))) else (none)) else (none))) = some (r1, r2) := by first | (rw [hy347]; with_reducible exact H) | (have H2_ := (Option.bind_some _ _).symm.trans H; rw [hy347]; with_reducible exact H2_) | (have H2_ := (Option.bind_some _ _).symm.trans H; with_reducible exact H2_) | with_reducible exact H | (rw [hy347]; exact H) | exact H
 have Ny347 := aZ_ hy347
 clear hy347
 replace H := Option.bind_eq_some_iff.mp H
 obtain ⟨t350, A30, H⟩ := H
 replace H : (if 0 ≤ t350 then (if t350 < (y347.length : Int) then ((chancellaw5_id.f k l1).bind fun t352 => (some (rdOf ByteArray.empty y347 t350, t352))) else (none)) else (none)) = some (r1, r2) := H
 have A3 := aZ_ A30
 clear A30
 by_cases c4 : 0 ≤ t350
 ·
  rw [if_pos c4] at H
  have c4b0 : decide (0 ≤ t350) = true := decide_eq_true c4
  clear c4
  by_cases c5 : t350 < (y347.length : Int)
  ·
   rw [if_pos c5] at H
   have c5b0 : decide (t350 < (y347.length : Int)) = true := decide_eq_true c5
   clear c5
   replace H := Option.bind_eq_some_iff.mp H
   obtain ⟨t352, A60, H⟩ := H
   replace H : (some (rdOf ByteArray.empty y347 t350, t352)) = some (r1, r2) := H
   have A6 := aZ_ A60
   clear A60
   simp only [Option.some.injEq, Prod.mk.injEq] at H
   obtain ⟨rfl, rfl⟩ := H
   go_enter Tryz.func13, Tryz.ntmps13
   try go_wp2_with (first | ((with_reducible refine gate_dst (N := 4) rfl ?_); refine bxE 4 #[.string (⟨#[]⟩ : ByteArray), .string (⟨#[]⟩ : ByteArray)] 28 ?_; intro gb346 hg w7 hbox hb; have BK346 := aZ_ (hbox); have GW346 := aZ_ ((by rw [hg]; exact (below_size (bl HB)) : w.heap.size ≤ gb346)); have GE346 := aZ_ ((by rw [hg]; exact (below_size (bl HB)) : w.heap.size ≤ gb346)); replace HB := aZ_ (below_step (bl HB) hb); clear hb hbox hg))
   have pi351 : (0 ≤ (t350 : Int)) = True := eq_true (of_decide_eq_true asm_)
   have qi351 : (t350 < (y347.length : Int)) = True := eq_true (of_decide_eq_true asm_)
   replace BK346 := aZ_ (blk_drew BK346.out)
   replace HB := aZ_ (below_drew1 HB.out)
   refine start_ (n := 9) (S := fun w' => True) (ds := []) #[false, false, false, false, false, false, false, false, false] (by kernel_rfl) rfl rfl trivial (fun hHeld => ?_); refine with_tabW chancellaw5_Uid.tab1 chancellaw5_Uid.bits1 (fun HT_ HW_ => ?_)
   generalize w7.drew = w8 at BK346 HB hHeld ⊢
   refine pS_ 1 6 (fa 9 2) HT_ ?_
   refine pS_ 5 10 (fa 9 34) HT_ ?_
   refine join_ (σ := Value × Addr) 2 #[true, true, true, true, true, true, true, false, false] (fun s_ => [(5, s_.1), (7, .int .i64 t350), (9, .string (rdOf ByteArray.empty y347 t350)), (11, .string t352), (8, .pointer (some (s_.2.add (t350).toNat)))]) (fun s_ w' => (Kd.R Kd.string 9 w' w.heap.size (fun _ => True) s_.1 y347) ∧ (∃ c_, (s_.1 : Value) = .slice (some s_.2) y347.length c_) ∧ (w'.heap[gb346]? = some (.cells #[.string (⟨#[]⟩ : ByteArray), .string (⟨#[]⟩ : ByteArray)] 28 (0, 0))) ∧ (Below w.heap.size w w')) ?_ ?_
   rotate_left
   ·
    intro hJ0_2_4_6
    refine join_ (σ := Value × Addr) 3 #[true, true, true, true, true, true, false, false, false] (fun s_ => [(5, s_.1), (7, .int .i64 t350), (9, .string (rdOf ByteArray.empty y347 t350)), (8, .pointer (some (s_.2.add (t350).toNat)))]) (fun s_ w' => (Kd.R Kd.string 9 w' w.heap.size (fun _ => True) s_.1 y347) ∧ (∃ c_, (s_.1 : Value) = .slice (some s_.2) y347.length c_) ∧ (w'.heap[gb346]? = some (.cells #[.string (⟨#[]⟩ : ByteArray), .string (⟨#[]⟩ : ByteArray)] 28 (0, 0))) ∧ (Below w.heap.size w w')) ?_ ?_
    rotate_left
    ·
     intro hJ0_2_4
     refine join_ (σ := Value × Addr) 3 #[true, true, true, true, false, true, true, false, false] (fun s_ => [(5, s_.1), (7, .int .i64 t350), (11, .string t352), (8, .pointer (some (s_.2.add (t350).toNat)))]) (fun s_ w' => (Kd.R Kd.string 9 w' w.heap.size (fun _ => True) s_.1 y347) ∧ (∃ c_, (s_.1 : Value) = .slice (some s_.2) y347.length c_) ∧ (w'.heap[gb346]? = some (.cells #[.string (⟨#[]⟩ : ByteArray), .string (⟨#[]⟩ : ByteArray)] 28 (0, 0))) ∧ (Below w.heap.size w w')) ?_ ?_
     rotate_left
     ·
      intro hJ0_2_6
      refine join_ (σ := Value × Addr) 4 #[true, true, true, true, false, true, false, false, false] (fun s_ => [(5, s_.1), (7, .int .i64 t350), (8, .pointer (some (s_.2.add (t350).toNat)))]) (fun s_ w' => (Kd.R Kd.string 9 w' w.heap.size (fun _ => True) s_.1 y347) ∧ (∃ c_, (s_.1 : Value) = .slice (some s_.2) y347.length c_) ∧ (w'.heap[gb346]? = some (.cells #[.string (⟨#[]⟩ : ByteArray), .string (⟨#[]⟩ : ByteArray)] 28 (0, 0))) ∧ (Below w.heap.size w w')) ?_ ?_
      rotate_left
      ·
       intro hJ0_2
       refine join_ (σ := Unit) 5 #[false, true, true, false, false, true, true, false, false] (fun s_ => [(7, .int .i64 t350), (11, .string t352)]) (fun s_ w' => (w'.heap[gb346]? = some (.cells #[.string (⟨#[]⟩ : ByteArray), .string (⟨#[]⟩ : ByteArray)] 28 (0, 0))) ∧ (Below w.heap.size w w')) ?_ ?_
       rotate_left
       ·
        intro hJ2_6
        refine join_ (σ := Value × Addr) 6 #[true, true, false, false, false, true, false, false, false] (fun s_ => [(5, s_.1)]) (fun s_ w' => (Kd.R Kd.string 9 w' w.heap.size (fun _ => True) s_.1 y347) ∧ (∃ c_, (s_.1 : Value) = .slice (some s_.2) y347.length c_) ∧ (w'.heap[gb346]? = some (.cells #[.string (⟨#[]⟩ : ByteArray), .string (⟨#[]⟩ : ByteArray)] 28 (0, 0))) ∧ (Below w.heap.size w w')) ?_ ?_
        rotate_left
        ·
         intro hJ0
         refine join_ (σ := Unit) 6 #[false, true, true, false, false, true, false, false, false] (fun s_ => [(7, .int .i64 t350)]) (fun s_ w' => (w'.heap[gb346]? = some (.cells #[.string (⟨#[]⟩ : ByteArray), .string (⟨#[]⟩ : ByteArray)] 28 (0, 0))) ∧ (Below w.heap.size w w')) ?_ ?_
         rotate_left
         ·
          intro hJ2
          refine two_ (i := 0) (j := 2) (Ni := some 5) (Nj := some 7) #[true, true, false, false, false, true, false, false, false] #[false, true, true, false, false, true, false, false, false] rfl rfl rfl rfl (two_of HT_.out (by kernel_rfl)) (by decide) (by decide) (fun K hK => ?_) (fun K hK => ?_)
          ·
           skip
           refine Kd.R_lit_step Kd.string _ 9 ?hg (N := 5) ?hd (xs := ([(⟨#[85, 115, 101, 114]⟩ : ByteArray), (⟨#[71, 114, 111, 117, 112]⟩ : ByteArray), (⟨#[68, 111, 99]⟩ : ByteArray), (⟨#[65, 99, 116, 105, 111, 110]⟩ : ByteArray), (⟨#[105, 102]⟩ : ByteArray)] : List ByteArray)) (inner := [.string (⟨#[85, 115, 101, 114]⟩ : ByteArray), .string (⟨#[71, 114, 111, 117, 112]⟩ : ByteArray), .string (⟨#[68, 111, 99]⟩ : ByteArray), .string (⟨#[65, 99, 116, 105, 111, 110]⟩ : ByteArray), .string (⟨#[105, 102]⟩ : ByteArray)]) (ok := fun _ => True) (okp := fun _ => True) ?hr ?hp (fun _ hk => hk) trivial (Below.refl _ _) (Nat.le_refl _) (by simp) ?_; (case hd => rfl); (case hg => rfl); (case hr => first | (go_simp; done) | (go_simp; rfl)); (case hp => exact (Reps.one (show Kd.M Kd.string _ _ _ (⟨#[85, 115, 101, 114]⟩ : ByteArray) [.string (⟨#[85, 115, 101, 114]⟩ : ByteArray)] from rfl) (Reps.one (show Kd.M Kd.string _ _ _ (⟨#[71, 114, 111, 117, 112]⟩ : ByteArray) [.string (⟨#[71, 114, 111, 117, 112]⟩ : ByteArray)] from rfl) (Reps.one (show Kd.M Kd.string _ _ _ (⟨#[68, 111, 99]⟩ : ByteArray) [.string (⟨#[68, 111, 99]⟩ : ByteArray)] from rfl) (Reps.one (show Kd.M Kd.string _ _ _ (⟨#[65, 99, 116, 105, 111, 110]⟩ : ByteArray) [.string (⟨#[65, 99, 116, 105, 111, 110]⟩ : ByteArray)] from rfl) (Reps.one (show Kd.M Kd.string _ _ _ (⟨#[105, 102]⟩ : ByteArray) [.string (⟨#[105, 102]⟩ : ByteArray)] from rfl) (Reps.none _ _)))))))
           intro v348 w9 ho10 hb hg_ hnew_
           clear hg_ hnew_
           (first | rw [← Ny347.out] at ho10 | (simp only [Int.reduceToNat] at ho10; rw [← Ny347.out] at ho10))
           have HO349 := aZ_ (Kd.R_lower ho10 (below_size (bl1 HB GE346)))
           replace BK346 := aZ_ (blk_below (g := gb346) (o := .cells #[.string (⟨#[]⟩ : ByteArray), .string (⟨#[]⟩ : ByteArray)] 28 (0, 0)) (bk BK346) hb)
           replace HB := aZ_ (below_step (bl1 HB GE346) hb)
           clear hb ho10
           obtain ⟨Ao11, co11, eo11⟩ := Kd.R_slice HO349.out
           subst eo11
           obtain ⟨ado11, fo11, _⟩ := Kd.at_string (Kd.R_reads' HO349.out).2.2 0 (by decide) (by rw [Ny347.out]; simp)
           cases fo11
           refine hK.out _ _ trivial (fun hHeld => ?_)
           clear hK K
           refine norm_ (a' := ?_) ?_ ?_
           rotate_left
           ·
            show Act.put _ (some 5) _ = _
            simp only [Act.put, List.setIfInBounds_toArray, List.set_cons_zero, List.set_cons_succ, i64_w, i32_w]
            rfl
           exact norm_ nm_ (hJ0 (.slice (some ado11) y347.length co11, ado11) _ ⟨(kR HO349), ⟨_, rfl⟩, (bk BK346), (bl1 HB GE346)⟩)
          ·
           skip
           refine goes_ Tryz.func24 (by kernel_rfl) rfl #[.int .i64 a0, .int .i64 5] (by rfl) rfl rfl gm_ ?_
           with_reducible refine (chancellaw5_within.calls a0 5 t350 _ A3.out).mono ?_
           rintro e w' ⟨rfl, ⟨nd, rfl⟩⟩
           refine ⟨_, rfl, ?_⟩
           refine hK.out _ _ trivial (fun hHeld => ?_)
           clear hK K
           refine norm_ (a' := ?_) ?_ ?_
           rotate_left
           ·
            show Act.put _ (some 7) _ = _
            simp only [Act.put, List.setIfInBounds_toArray, List.set_cons_zero, List.set_cons_succ, i64_w, i32_w]
            rfl
           exact norm_ nm_ (hJ2 () _ ⟨(bk BK346), (bl1 HB GE346)⟩)
         ·
          skip
          rintro _ w9 ⟨h0_, h1_⟩
          have n0_ : Aside0 (w9.heap[gb346]? = some (.cells #[.string (⟨#[]⟩ : ByteArray), .string (⟨#[]⟩ : ByteArray)] 28 (0, 0))) := ⟨h0_⟩
          have n1_ : Aside0 (Below w.heap.size w w9) := ⟨h1_⟩
          clear BK346
          clear HB
          clear h0_ h1_
          have BK346 := n0_
          have HB := n1_
          clear n0_ n1_
          have hHeld := trivial
          refine norm_ (a' := ?_) ?_ ?_
          rotate_left
          ·
           simp only [putAll, Act.put, List.setIfInBounds_toArray, List.set_cons_zero, List.set_cons_succ]
           rfl
          refine two_ (i := 0) (j := 6) (Ni := some 5) (Nj := some 11) #[true, true, true, false, false, true, false, false, false] #[false, true, true, false, false, true, true, false, false] rfl rfl rfl rfl (two_of HT_.out (by kernel_rfl)) (by decide) (by decide) (fun K hK => ?_) (fun K hK => ?_)
          ·
           skip
           refine Kd.R_lit_step Kd.string _ 9 ?hg (N := 5) ?hd (xs := ([(⟨#[85, 115, 101, 114]⟩ : ByteArray), (⟨#[71, 114, 111, 117, 112]⟩ : ByteArray), (⟨#[68, 111, 99]⟩ : ByteArray), (⟨#[65, 99, 116, 105, 111, 110]⟩ : ByteArray), (⟨#[105, 102]⟩ : ByteArray)] : List ByteArray)) (inner := [.string (⟨#[85, 115, 101, 114]⟩ : ByteArray), .string (⟨#[71, 114, 111, 117, 112]⟩ : ByteArray), .string (⟨#[68, 111, 99]⟩ : ByteArray), .string (⟨#[65, 99, 116, 105, 111, 110]⟩ : ByteArray), .string (⟨#[105, 102]⟩ : ByteArray)]) (ok := fun _ => True) (okp := fun _ => True) ?hr ?hp (fun _ hk => hk) trivial (Below.refl _ _) (Nat.le_refl _) (by simp) ?_; (case hd => rfl); (case hg => rfl); (case hr => first | (go_simp; done) | (go_simp; rfl)); (case hp => exact (Reps.one (show Kd.M Kd.string _ _ _ (⟨#[85, 115, 101, 114]⟩ : ByteArray) [.string (⟨#[85, 115, 101, 114]⟩ : ByteArray)] from rfl) (Reps.one (show Kd.M Kd.string _ _ _ (⟨#[71, 114, 111, 117, 112]⟩ : ByteArray) [.string (⟨#[71, 114, 111, 117, 112]⟩ : ByteArray)] from rfl) (Reps.one (show Kd.M Kd.string _ _ _ (⟨#[68, 111, 99]⟩ : ByteArray) [.string (⟨#[68, 111, 99]⟩ : ByteArray)] from rfl) (Reps.one (show Kd.M Kd.string _ _ _ (⟨#[65, 99, 116, 105, 111, 110]⟩ : ByteArray) [.string (⟨#[65, 99, 116, 105, 111, 110]⟩ : ByteArray)] from rfl) (Reps.one (show Kd.M Kd.string _ _ _ (⟨#[105, 102]⟩ : ByteArray) [.string (⟨#[105, 102]⟩ : ByteArray)] from rfl) (Reps.none _ _)))))))
           intro v348 w10 ho11 hb hg_ hnew_
           clear hg_ hnew_
           (first | rw [← Ny347.out] at ho11 | (simp only [Int.reduceToNat] at ho11; rw [← Ny347.out] at ho11))
           have HO349 := aZ_ (Kd.R_lower ho11 (below_size (bl1 HB GE346)))
           replace BK346 := aZ_ (blk_below (g := gb346) (o := .cells #[.string (⟨#[]⟩ : ByteArray), .string (⟨#[]⟩ : ByteArray)] 28 (0, 0)) (bk BK346) hb)
           replace HB := aZ_ (below_step (bl1 HB GE346) hb)
           clear hb ho11
           obtain ⟨Ao12, co12, eo12⟩ := Kd.R_slice HO349.out
           subst eo12
           obtain ⟨ado12, fo12, _⟩ := Kd.at_string (Kd.R_reads' HO349.out).2.2 0 (by decide) (by rw [Ny347.out]; simp)
           cases fo12
           refine hK.out _ _ trivial (fun hHeld => ?_)
           clear hK K
           refine norm_ (a' := ?_) ?_ ?_
           rotate_left
           ·
            show Act.put _ (some 5) _ = _
            simp only [Act.put, List.setIfInBounds_toArray, List.set_cons_zero, List.set_cons_succ, i64_w, i32_w]
            rfl
           refine pS_ 3 8 (fa 9 47) HT_ ?_
           exact norm_ nm_ (hJ0_2 (.slice (some ado12) y347.length co12, ado12) _ ⟨(kR HO349), ⟨_, rfl⟩, (bk BK346), (bl1 HB GE346)⟩)
          ·
           skip
           refine goes_ Tryz.func25 (by kernel_rfl) rfl #[.slice A1 l1.length c1] (by rfl) rfl rfl gm_ ?_
           with_reducible refine (chancellaw5_id.calls k _ _ l1 t352 _ ?side1 ?side2 A6.out).mono ?_
           (case side1 => exact kC (Kd.C_below HR1.out HB.out))
           (case side2 => exact HC1.out)
           rintro e w10 ⟨rfl, hb⟩
           refine ⟨_, rfl, ?_⟩
           replace BK346 := aZ_ (blk_below (g := gb346) (o := .cells #[.string (⟨#[]⟩ : ByteArray), .string (⟨#[]⟩ : ByteArray)] 28 (0, 0)) (bk BK346) hb)
           replace HB := aZ_ (below_step (bl1 HB GE346) hb)
           (try clear hb)
           (try clear hb2)
           (try clear hk)
           (try clear hi)
           refine hK.out _ _ trivial (fun hHeld => ?_)
           clear hK K
           refine norm_ (a' := ?_) ?_ ?_
           rotate_left
           ·
            show Act.put _ (some 11) _ = _
            simp only [Act.put, List.setIfInBounds_toArray, List.set_cons_zero, List.set_cons_succ, i64_w, i32_w]
            rfl
           exact norm_ nm_ (hJ2_6 () _ ⟨(bk BK346), (bl1 HB GE346)⟩)
        ·
         skip
         rintro ⟨v348, adz_v348⟩ w12 ⟨h0_, h1_, h2_, h3_⟩
         have n0_ : Aside0 (Kd.R Kd.string 9 w12 w.heap.size (fun _ => True) v348 y347) := ⟨h0_⟩
         have n1_ : Aside0 (∃ c_, (v348 : Value) = .slice (some adz_v348) y347.length c_) := ⟨h1_⟩
         have n2_ : Aside0 (w12.heap[gb346]? = some (.cells #[.string (⟨#[]⟩ : ByteArray), .string (⟨#[]⟩ : ByteArray)] 28 (0, 0))) := ⟨h2_⟩
         have n3_ : Aside0 (Below w.heap.size w w12) := ⟨h3_⟩
         clear BK346
         clear HB
         clear h0_ h1_ h2_ h3_
         have HO349 := n0_
         have HA_HO349 := n1_
         have BK346 := n2_
         have HB := n3_
         clear n0_ n1_ n2_ n3_
         have hHeld := trivial
         obtain ⟨co13, eo13⟩ := HA_HO349.out
         clear HA_HO349
         subst eo13
         refine norm_ (a' := ?_) ?_ ?_
         rotate_left
         ·
          simp only [putAll, Act.put, List.setIfInBounds_toArray, List.set_cons_zero, List.set_cons_succ]
          rfl
         refine one_ (i := 2) (N := some 7) #[true, true, true, false, false, true, false, false, false] rfl rfl (one_of HT_.out (by kernel_rfl)) (by decide) (fun K hK => ?_)
         refine goes_ Tryz.func24 (by kernel_rfl) rfl #[.int .i64 a0, .int .i64 5] (by rfl) rfl rfl gm_ ?_
         with_reducible refine (chancellaw5_within.calls a0 5 t350 _ A3.out).mono ?_
         rintro e w' ⟨rfl, ⟨nd, rfl⟩⟩
         refine ⟨_, rfl, ?_⟩
         refine hK.out _ _ trivial (fun hHeld => ?_)
         clear hK K
         refine norm_ (a' := ?_) ?_ ?_
         rotate_left
         ·
          show Act.put _ (some 7) _ = _
          simp only [Act.put, List.setIfInBounds_toArray, List.set_cons_zero, List.set_cons_succ, i64_w, i32_w]
          rfl
         refine pS_ 3 8 (fa 9 47) HT_ ?_
         exact norm_ nm_ (hJ0_2 (.slice (some adz_v348) y347.length co13, adz_v348) _ ⟨(kR HO349), ⟨_, rfl⟩, (bk BK346), (bl1 HB GE346)⟩)
       ·
        skip
        rintro _ w10 ⟨h0_, h1_⟩
        have n0_ : Aside0 (w10.heap[gb346]? = some (.cells #[.string (⟨#[]⟩ : ByteArray), .string (⟨#[]⟩ : ByteArray)] 28 (0, 0))) := ⟨h0_⟩
        have n1_ : Aside0 (Below w.heap.size w w10) := ⟨h1_⟩
        clear BK346
        clear HB
        clear h0_ h1_
        have BK346 := n0_
        have HB := n1_
        clear n0_ n1_
        have hHeld := trivial
        refine norm_ (a' := ?_) ?_ ?_
        rotate_left
        ·
         simp only [putAll, Act.put, List.setIfInBounds_toArray, List.set_cons_zero, List.set_cons_succ]
         rfl
        refine one_ (i := 0) (N := some 5) #[true, true, true, false, false, true, true, false, false] rfl rfl (one_of HT_.out (by kernel_rfl)) (by decide) (fun K hK => ?_)
        refine Kd.R_lit_step Kd.string _ 9 ?hg (N := 5) ?hd (xs := ([(⟨#[85, 115, 101, 114]⟩ : ByteArray), (⟨#[71, 114, 111, 117, 112]⟩ : ByteArray), (⟨#[68, 111, 99]⟩ : ByteArray), (⟨#[65, 99, 116, 105, 111, 110]⟩ : ByteArray), (⟨#[105, 102]⟩ : ByteArray)] : List ByteArray)) (inner := [.string (⟨#[85, 115, 101, 114]⟩ : ByteArray), .string (⟨#[71, 114, 111, 117, 112]⟩ : ByteArray), .string (⟨#[68, 111, 99]⟩ : ByteArray), .string (⟨#[65, 99, 116, 105, 111, 110]⟩ : ByteArray), .string (⟨#[105, 102]⟩ : ByteArray)]) (ok := fun _ => True) (okp := fun _ => True) ?hr ?hp (fun _ hk => hk) trivial (Below.refl _ _) (Nat.le_refl _) (by simp) ?_; (case hd => rfl); (case hg => rfl); (case hr => first | (go_simp; done) | (go_simp; rfl)); (case hp => exact (Reps.one (show Kd.M Kd.string _ _ _ (⟨#[85, 115, 101, 114]⟩ : ByteArray) [.string (⟨#[85, 115, 101, 114]⟩ : ByteArray)] from rfl) (Reps.one (show Kd.M Kd.string _ _ _ (⟨#[71, 114, 111, 117, 112]⟩ : ByteArray) [.string (⟨#[71, 114, 111, 117, 112]⟩ : ByteArray)] from rfl) (Reps.one (show Kd.M Kd.string _ _ _ (⟨#[68, 111, 99]⟩ : ByteArray) [.string (⟨#[68, 111, 99]⟩ : ByteArray)] from rfl) (Reps.one (show Kd.M Kd.string _ _ _ (⟨#[65, 99, 116, 105, 111, 110]⟩ : ByteArray) [.string (⟨#[65, 99, 116, 105, 111, 110]⟩ : ByteArray)] from rfl) (Reps.one (show Kd.M Kd.string _ _ _ (⟨#[105, 102]⟩ : ByteArray) [.string (⟨#[105, 102]⟩ : ByteArray)] from rfl) (Reps.none _ _)))))))
        intro v348 w11 ho12 hb hg_ hnew_
        clear hg_ hnew_
        (first | rw [← Ny347.out] at ho12 | (simp only [Int.reduceToNat] at ho12; rw [← Ny347.out] at ho12))
        have HO349 := aZ_ (Kd.R_lower ho12 (below_size (bl1 HB GE346)))
        replace BK346 := aZ_ (blk_below (g := gb346) (o := .cells #[.string (⟨#[]⟩ : ByteArray), .string (⟨#[]⟩ : ByteArray)] 28 (0, 0)) (bk BK346) hb)
        replace HB := aZ_ (below_step (bl1 HB GE346) hb)
        clear hb ho12
        obtain ⟨Ao13, co13, eo13⟩ := Kd.R_slice HO349.out
        subst eo13
        obtain ⟨ado13, fo13, _⟩ := Kd.at_string (Kd.R_reads' HO349.out).2.2 0 (by decide) (by rw [Ny347.out]; simp)
        cases fo13
        refine hK.out _ _ trivial (fun hHeld => ?_)
        clear hK K
        refine norm_ (a' := ?_) ?_ ?_
        rotate_left
        ·
         show Act.put _ (some 5) _ = _
         simp only [Act.put, List.setIfInBounds_toArray, List.set_cons_zero, List.set_cons_succ, i64_w, i32_w]
         rfl
        refine pS_ 3 8 (fa 9 111) HT_ ?_
        exact norm_ nm_ (hJ0_2_6 (.slice (some ado13) y347.length co13, ado13) _ ⟨(kR HO349), ⟨_, rfl⟩, (bk BK346), (bl1 HB GE346)⟩)
      ·
       skip
       rintro ⟨v348, adz_v348⟩ w12 ⟨h0_, h1_, h2_, h3_⟩
       have n0_ : Aside0 (Kd.R Kd.string 9 w12 w.heap.size (fun _ => True) v348 y347) := ⟨h0_⟩
       have n1_ : Aside0 (∃ c_, (v348 : Value) = .slice (some adz_v348) y347.length c_) := ⟨h1_⟩
       have n2_ : Aside0 (w12.heap[gb346]? = some (.cells #[.string (⟨#[]⟩ : ByteArray), .string (⟨#[]⟩ : ByteArray)] 28 (0, 0))) := ⟨h2_⟩
       have n3_ : Aside0 (Below w.heap.size w w12) := ⟨h3_⟩
       clear BK346
       clear HB
       clear h0_ h1_ h2_ h3_
       have HO349 := n0_
       have HA_HO349 := n1_
       have BK346 := n2_
       have HB := n3_
       clear n0_ n1_ n2_ n3_
       have hHeld := trivial
       obtain ⟨co13, eo13⟩ := HA_HO349.out
       clear HA_HO349
       subst eo13
       refine norm_ (a' := ?_) ?_ ?_
       rotate_left
       ·
        simp only [putAll, Act.put, List.setIfInBounds_toArray, List.set_cons_zero, List.set_cons_succ]
        rfl
       refine two_ (i := 4) (j := 6) (Ni := some 9) (Nj := some 11) #[true, true, true, true, true, true, false, false, false] #[true, true, true, true, false, true, true, false, false] rfl rfl rfl rfl (two_of HT_.out (by kernel_rfl)) (by decide) (by decide) (fun K hK => ?_) (fun K hK => ?_)
       ·
        skip
        (have p351 : 0 ≤ (t350 : Int) := of_decide_eq_true asm_; have q351 : t350 < (y347.length : Int) := of_decide_eq_true asm_; obtain ⟨ad351, e351, hx351_0⟩ := Kd.at_string (Kd.R_reads' HO349.out).2.2 t350 p351 q351; obtain rfl : adz_v348 = ad351 := (by injection e351))
        refine value_ (w1 := ?_) (v := ?_) (by rfl) rfl ?_ ?_
        rotate_left 2
        ·
         go_simp
         constructor
         ·
          rfl
         ·
          rfl
        clear hx351_0
        refine hK.out _ _ trivial (fun hHeld => ?_)
        clear hK K
        refine norm_ (a' := ?_) ?_ ?_
        rotate_left
        ·
         show Act.put _ (some 9) _ = _
         simp only [Act.put, List.setIfInBounds_toArray, List.set_cons_zero, List.set_cons_succ, i64_w, i32_w]
         rfl
        exact norm_ nm_ (hJ0_2_4 (.slice (some adz_v348) y347.length co13, adz_v348) _ ⟨(kR HO349), ⟨_, rfl⟩, (bk BK346), (bl1 HB GE346)⟩)
       ·
        skip
        refine goes_ Tryz.func25 (by kernel_rfl) rfl #[.slice A1 l1.length c1] (by rfl) rfl rfl gm_ ?_
        with_reducible refine (chancellaw5_id.calls k _ _ l1 t352 _ ?side1 ?side2 A6.out).mono ?_
        (case side1 => exact kC (Kd.C_below HR1.out HB.out))
        (case side2 => exact HC1.out)
        rintro e w14 ⟨rfl, hb⟩
        refine ⟨_, rfl, ?_⟩
        replace HO349 := aZ_ (Kd.R_below (kR HO349) hb)
        replace BK346 := aZ_ (blk_below (g := gb346) (o := .cells #[.string (⟨#[]⟩ : ByteArray), .string (⟨#[]⟩ : ByteArray)] 28 (0, 0)) (bk BK346) hb)
        replace HB := aZ_ (below_step (bl1 HB GE346) hb)
        (try clear hb)
        (try clear hb2)
        (try clear hk)
        (try clear hi)
        refine hK.out _ _ trivial (fun hHeld => ?_)
        clear hK K
        refine norm_ (a' := ?_) ?_ ?_
        rotate_left
        ·
         show Act.put _ (some 11) _ = _
         simp only [Act.put, List.setIfInBounds_toArray, List.set_cons_zero, List.set_cons_succ, i64_w, i32_w]
         rfl
        exact norm_ nm_ (hJ0_2_6 (.slice (some adz_v348) y347.length co13, adz_v348) _ ⟨(kR HO349), ⟨_, rfl⟩, (bk BK346), (bl1 HB GE346)⟩)
     ·
      skip
      rintro ⟨v348, adz_v348⟩ w13 ⟨h0_, h1_, h2_, h3_⟩
      have n0_ : Aside0 (Kd.R Kd.string 9 w13 w.heap.size (fun _ => True) v348 y347) := ⟨h0_⟩
      have n1_ : Aside0 (∃ c_, (v348 : Value) = .slice (some adz_v348) y347.length c_) := ⟨h1_⟩
      have n2_ : Aside0 (w13.heap[gb346]? = some (.cells #[.string (⟨#[]⟩ : ByteArray), .string (⟨#[]⟩ : ByteArray)] 28 (0, 0))) := ⟨h2_⟩
      have n3_ : Aside0 (Below w.heap.size w w13) := ⟨h3_⟩
      clear BK346
      clear HB
      clear h0_ h1_ h2_ h3_
      have HO349 := n0_
      have HA_HO349 := n1_
      have BK346 := n2_
      have HB := n3_
      clear n0_ n1_ n2_ n3_
      have hHeld := trivial
      obtain ⟨co14, eo14⟩ := HA_HO349.out
      clear HA_HO349
      subst eo14
      refine norm_ (a' := ?_) ?_ ?_
      rotate_left
      ·
       simp only [putAll, Act.put, List.setIfInBounds_toArray, List.set_cons_zero, List.set_cons_succ]
       rfl
      refine one_ (i := 4) (N := some 9) #[true, true, true, true, true, true, true, false, false] rfl rfl (one_of HT_.out (by kernel_rfl)) (by decide) (fun K hK => ?_)
      (have p351 : 0 ≤ (t350 : Int) := of_decide_eq_true asm_; have q351 : t350 < (y347.length : Int) := of_decide_eq_true asm_; obtain ⟨ad351, e351, hx351_0⟩ := Kd.at_string (Kd.R_reads' HO349.out).2.2 t350 p351 q351; obtain rfl : adz_v348 = ad351 := (by injection e351))
      refine value_ (w1 := ?_) (v := ?_) (by rfl) rfl ?_ ?_
      rotate_left 2
      ·
       go_simp
       constructor
       ·
        rfl
       ·
        rfl
      clear hx351_0
      refine hK.out _ _ trivial (fun hHeld => ?_)
      clear hK K
      refine norm_ (a' := ?_) ?_ ?_
      rotate_left
      ·
       show Act.put _ (some 9) _ = _
       simp only [Act.put, List.setIfInBounds_toArray, List.set_cons_zero, List.set_cons_succ, i64_w, i32_w]
       rfl
      exact norm_ nm_ (hJ0_2_4_6 (.slice (some adz_v348) y347.length co14, adz_v348) _ ⟨(kR HO349), ⟨_, rfl⟩, (bk BK346), (bl1 HB GE346)⟩)
    ·
     skip
     rintro ⟨v348, adz_v348⟩ w12 ⟨h0_, h1_, h2_, h3_⟩
     have n0_ : Aside0 (Kd.R Kd.string 9 w12 w.heap.size (fun _ => True) v348 y347) := ⟨h0_⟩
     have n1_ : Aside0 (∃ c_, (v348 : Value) = .slice (some adz_v348) y347.length c_) := ⟨h1_⟩
     have n2_ : Aside0 (w12.heap[gb346]? = some (.cells #[.string (⟨#[]⟩ : ByteArray), .string (⟨#[]⟩ : ByteArray)] 28 (0, 0))) := ⟨h2_⟩
     have n3_ : Aside0 (Below w.heap.size w w12) := ⟨h3_⟩
     clear BK346
     clear HB
     clear h0_ h1_ h2_ h3_
     have HO349 := n0_
     have HA_HO349 := n1_
     have BK346 := n2_
     have HB := n3_
     clear n0_ n1_ n2_ n3_
     have hHeld := trivial
     obtain ⟨co13, eo13⟩ := HA_HO349.out
     clear HA_HO349
     subst eo13
     refine norm_ (a' := ?_) ?_ ?_
     rotate_left
     ·
      simp only [putAll, Act.put, List.setIfInBounds_toArray, List.set_cons_zero, List.set_cons_succ]
      rfl
     refine one_ (i := 6) (N := some 11) #[true, true, true, true, true, true, true, false, false] rfl rfl (one_of HT_.out (by kernel_rfl)) (by decide) (fun K hK => ?_)
     refine goes_ Tryz.func25 (by kernel_rfl) rfl #[.slice A1 l1.length c1] (by rfl) rfl rfl gm_ ?_
     with_reducible refine (chancellaw5_id.calls k _ _ l1 t352 _ ?side1 ?side2 A6.out).mono ?_
     (case side1 => exact kC (Kd.C_below HR1.out HB.out))
     (case side2 => exact HC1.out)
     rintro e w14 ⟨rfl, hb⟩
     refine ⟨_, rfl, ?_⟩
     replace HO349 := aZ_ (Kd.R_below (kR HO349) hb)
     replace BK346 := aZ_ (blk_below (g := gb346) (o := .cells #[.string (⟨#[]⟩ : ByteArray), .string (⟨#[]⟩ : ByteArray)] 28 (0, 0)) (bk BK346) hb)
     replace HB := aZ_ (below_step (bl1 HB GE346) hb)
     (try clear hb)
     (try clear hb2)
     (try clear hk)
     (try clear hi)
     refine hK.out _ _ trivial (fun hHeld => ?_)
     clear hK K
     refine norm_ (a' := ?_) ?_ ?_
     rotate_left
     ·
      show Act.put _ (some 11) _ = _
      simp only [Act.put, List.setIfInBounds_toArray, List.set_cons_zero, List.set_cons_succ, i64_w, i32_w]
      rfl
     exact norm_ nm_ (hJ0_2_4_6 (.slice (some adz_v348) y347.length co13, adz_v348) _ ⟨(kR HO349), ⟨_, rfl⟩, (bk BK346), (bl1 HB GE346)⟩)
   rintro ⟨v348, adz_v348⟩ w13 ⟨h0_, h1_, h2_, h3_⟩
   have n0_ : Aside0 (Kd.R Kd.string 9 w13 w.heap.size (fun _ => True) v348 y347) := ⟨h0_⟩
   have n1_ : Aside0 (∃ c_, (v348 : Value) = .slice (some adz_v348) y347.length c_) := ⟨h1_⟩
   have n2_ : Aside0 (w13.heap[gb346]? = some (.cells #[.string (⟨#[]⟩ : ByteArray), .string (⟨#[]⟩ : ByteArray)] 28 (0, 0))) := ⟨h2_⟩
   have n3_ : Aside0 (Below w.heap.size w w13) := ⟨h3_⟩
   clear BK346
   clear HB
   clear h0_ h1_ h2_ h3_
   have HO349 := n0_
   have HA_HO349 := n1_
   have BK346 := n2_
   have HB := n3_
   clear n0_ n1_ n2_ n3_
   have hHeld := trivial
   obtain ⟨co14, eo14⟩ := HA_HO349.out
   clear HA_HO349
   subst eo14
   refine norm_ (a' := ?_) ?_ ?_
   rotate_left
   ·
    simp only [putAll, Act.put, List.setIfInBounds_toArray, List.set_cons_zero, List.set_cons_succ]
    rfl
   refine pS_ 7 12 (fa 9 255) HT_ ?_
   refine one_ (i := 8) (N := none) #[true, true, true, true, true, true, true, true, true] rfl rfl (one_of HT_.out (by kernel_rfl)) (by decide) (fun K hK => ?_)
   have hs15 : w13.cell? ⟨gb346, 0, none⟩ = some (.string (⟨#[]⟩ : ByteArray)) := (blk_cell BK346.out 0).trans rfl
   have hfs15 := blk_frozen BK346.out 0
   have hs16 : w13.cell? ⟨gb346, 1, none⟩ = some (.string (⟨#[]⟩ : ByteArray)) := (blk_cell BK346.out 1).trans rfl
   have hfs16 := blk_frozen BK346.out 1
   refine skip_ (w1 := ?_) (by rfl) rfl ?_ ?_
   rotate_left
   ·
    go_simp
    rfl
   refine hK.out _ _ trivial (fun hHeld => ?_)
   clear hK K
   refine done_ (done_of HT_.out (by kernel_rfl)) ?_
   try go_wp2
   refine bodyPost_ret (results_cell_row rfl _ _ gb346 28 #[.string (rdOf ByteArray.empty y347 t350), .string t352] (0, 0) _ rfl (by (with_reducible repeat (first | refine blk_drewN ?_ _ | refine blk_drew ?_ | refine blk_alloc ?_ _)); refine blk_put (cs := #[.string (rdOf ByteArray.empty y347 t350), .string (⟨#[]⟩ : ByteArray)]) ?_ 1 _ rfl; (with_reducible repeat (first | refine blk_drewN ?_ _ | refine blk_drew ?_ | refine blk_alloc ?_ _)); refine blk_put (cs := #[.string (⟨#[]⟩ : ByteArray), .string (⟨#[]⟩ : ByteArray)]) ?_ 0 _ rfl; (with_reducible repeat (first | refine blk_drewN ?_ _ | refine blk_drew ?_ | refine blk_alloc ?_ _)); exact BK346.out) Tryz.underlying28 rfl (by kernel_rfl)) rfl ?_
   exact ⟨by first | rfl | (simp [errW_none, errW_some] <;> rfl) | (simp [*, errW_none, errW_some] <;> rfl), bl1 HB GE346⟩
  ·
   rw [if_neg c5] at H
   exact absurd H (by simp)
 ·
  rw [if_neg c4] at H
  exact absurd H (by simp)

end Go.Proofs.YtelibndkkokadaaGreat.GB
