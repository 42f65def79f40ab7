import Derived.Test.YtelibndkkokadaaGB0
import Derived.Test.YtelibndkkokadaaJv
import Derived.Test.YtelibndkkokadaaSqz
import Derived.Deep.RegionWith
import Derived.Deep.CutRange
namespace Go.Proofs.Ytelibndkkokadaa.EV
open Go.RowKit Go.Proofs.YtelibndkkokadaaW.PrintWords Go.Proofs.YtelibndkkokadaaW.PrintLast Go.Proofs.Ytelibndkkokadaa.HandV Go.Proofs.YtelibndkkokadaaW.PrintMore
open Go.Proofs.Ytelibndkkokadaa.GB
attribute [local go_sem] max2_int min2_int max_two min_two max_three min_three max_four min_four   -- for this text's walks alone
set_option linter.unusedVariables false
set_option linter.unusedSimpArgs false
-- IMPORT .EV4
-- IMPORT .Sqz
-- IMPORT Derived.Deep.RegionWith
-- IMPORT Derived.Deep.CutRange
theorem bn4 (w : World) (o1 o2 o3 o4 : Obj) : ((((w.alloc o1).alloc o2).alloc o3).alloc o4).heap[w.heap.size + 3]? = some o4 := by
  have h := bn3 (w.alloc o1) o2 o3 o4
  have hs : (w.alloc o1).heap.size = w.heap.size + 1 := by simp
  rw [hs] at h
  exact h
set_option maxRecDepth 100000 in
set_option maxHeartbeats 16000000 in
theorem in_uids (A : Option Addr) (n c : Nat) (p0 p1 p2 p3 p4 p5 : ByteArray) (t i t2 i2 : ByteArray) (q : Bool) (w : World) (hI : ∀ W, Below w.heap.size w W → Calls Try.prog 16 #[.slice A n c, .agg #[.string t, .string i], .agg #[.string t2, .string i2]] W fun e w' => e = .returned (.bool q) ∧ Below W.heap.size W w') :
    Calls Try.prog 124 #[.agg #[.slice A n c, .string p0, .string p1, .string p2, .string p3, .string p4, .string p5], .iface 192 (.agg #[.string t, .string i]), .iface 192 (.agg #[.string t2, .string i2])] w (GivF w ⟨1, q, 0, ⟨#[]⟩, ⟨#[]⟩, ⟨#[]⟩⟩ 0) := by
  have h1 := ta_uid (.agg #[.string t, .string i])
  have h2 := ta_uid (.agg #[.string t2, .string i2])
  have HI := Aside0.mk hI
  clear hI
  unfold GivF
  go_enter Try.func124, Try.ntmps124
  go_wp2_with (first | (go_at_call 16; refine (HI.out _ ?hB).mono ?_; (case hB => repeat (first | exact Below.refl _ _ | apply below_alloc)); rintro e w1 ⟨rfl, hb⟩; have HB : Aside0 (Below w.heap.size w w1) := ⟨below_step (by repeat (first | exact Below.refl _ _ | apply below_alloc)) hb⟩; have HZ : Aside0 (w1.heap[w.heap.size + 1]? = some zO) := ⟨by refine blk_below ?_ hb; exact blk_alloc (blk_alloc (bn2 _ _ _) _) _⟩; clear hb) | (go_at_call 115; refine (back_tr _ _).mono ?_; rintro e w2 ⟨rfl, hb⟩; have HB2 := Aside0.mk (below_step HB.out hb); have HZ2 := Aside0.mk (blk_below HZ.out hb); clear hb; obtain ⟨q0, q1, q2, q3, q4, q5, q6⟩ := cells7 HZ2.out; obtain ⟨f0, f1, f2, f3, f4, f5, f6⟩ := froz7 HZ2.out))
  (try simp only [Exit.inBlock, Exit.then])
  refine bodyPost_ret (results_row_tmp rfl _ _ (w.heap.size + 1) 55 _ (0, 0) _ rfl (set7_blk HZ2.out _ _ _ _ _ _ _) Try.underlying55 rfl (by kernel_rfl)) rfl ?_
  exact ⟨rfl, set7_below HB2.out (by omega) _ _ _ _ _ _ _⟩
/-- The boxes of a call of double. -/
structure XD (w : World) (wc ca cb : Array Value) (W : World) : Prop where
  b0 : W.heap[w.heap.size]? = some (.cells wc 108 (0, 0))
  b1 : W.heap[w.heap.size + 1]? = some (.cells ca 55 (0, 0))
  b2 : W.heap[w.heap.size + 2]? = some (.cells cb 55 (0, 0))
  b3 : W.heap[w.heap.size + 3]? = some zO
  be : Below w.heap.size w W
theorem XD.step {w W W' : World} {wc ca cb : Array Value} (h : XD w wc ca cb W) (hb : Below W.heap.size W W') : XD w wc ca cb W' := ⟨blk_below h.b0 hb, blk_below h.b1 hb, blk_below h.b2 hb, blk_below h.b3 hb, below_step h.be hb⟩
theorem XD.new (w : World) (wc ca cb : Array Value) : XD w wc ca cb ((((w.alloc (.cells wc 108 (0, 0))).alloc (.cells ca 55 (0, 0))).alloc (.cells cb 55 (0, 0))).alloc zO) :=
  ⟨blk_alloc (blk_alloc (blk_alloc (blk_new _ _) _) _) _, blk_alloc (blk_alloc (bn2 _ _ _) _) _, blk_alloc (bn3 _ _ _ _) _, bn4 _ _ _ _ _, below_alloc (below_alloc (below_alloc (below_alloc (Below.refl _ _) _) _) _) _⟩
theorem XD.put {w W : World} {wc ca cb : Array Value} (h : XD w wc ca cb W) (v0 v1 v2 v3 v4 v5 v6 : Value) : (set7 W (w.heap.size + 3) v0 v1 v2 v3 v4 v5 v6).heap[w.heap.size]? = some (.cells wc 108 (0, 0)) ∧ (set7 W (w.heap.size + 3) v0 v1 v2 v3 v4 v5 v6).heap[w.heap.size + 1]? = some (.cells ca 55 (0, 0)) ∧ (set7 W (w.heap.size + 3) v0 v1 v2 v3 v4 v5 v6).heap[w.heap.size + 2]? = some (.cells cb 55 (0, 0)) :=
  ⟨set7_far h.b0 (by omega) _ _ _ _ _ _ _, set7_far h.b1 (by omega) _ _ _ _ _ _ _, set7_far h.b2 (by omega) _ _ _ _ _ _ _⟩
def rd11_T : Bool × List (List Nat × List Nat) := (true, [([], []), ([], []), ([1], [1]), ([], []), ([3, 2], [3]), ([0, 2, 4, 4], [0, 2, 4]), ([5], [5]), ([5], [5]), ([6, 5, 0, 1, 2, 3, 4, 5, 6, 7], [6]), ([7, 8, 0, 1, 2, 3, 4, 5, 6, 7, 8], [7])])
def rd11_B : List Nat := [0, 0, 2, 0, 14, 31, 63, 63, 255, 511]
theorem rd11_tab : rtab .any (opsOf Try.f96 11) = rd11_T := by kernel_rfl
theorem rd11_bits : waitsOk rd11_T.2 rd11_B = true := by kernel_rfl
def rd12_T : Bool × List (List Nat × List Nat) := (true, [([], []), ([], []), ([1], [1]), ([], []), ([3, 2], [3]), ([0, 2, 4, 4], [0, 2, 4]), ([5], [5]), ([5], [5]), ([6, 5, 0, 1, 2, 3, 4, 5, 6, 7], [6]), ([7, 8, 0, 1, 2, 3, 4, 5, 6, 7, 8], [7])])
def rd12_B : List Nat := [0, 0, 2, 0, 14, 31, 63, 63, 255, 511]
theorem rd12_tab : rtab .any (opsOf Try.f96 12) = rd12_T := by kernel_rfl
theorem rd12_bits : waitsOk rd12_T.2 rd12_B = true := by kernel_rfl
set_option maxRecDepth 100000 in
set_option maxHeartbeats 16000000 in
theorem double_in (A : Option Addr) (n c : Nat) (p0 p1 p2 p3 p4 p5 : ByteArray) (b0 : Bool) (m0 : Int) (s0 t0 i0 : ByteArray) (b1 : Bool) (m1 : Int) (s1 t1 i1 : ByteArray) (q : Bool) (W0 : World) (hI : ∀ W, Below W0.heap.size W0 W → Calls Try.prog 16 #[.slice A n c, .agg #[.string t0, .string i0], .agg #[.string t1, .string i1]] W fun e w' => e = .returned (.bool q) ∧ Below W.heap.size W w') : DSays (.agg #[.slice A n c, .string p0, .string p1, .string p2, .string p3, .string p4, .string p5]) 22 ⟨4, b0, m0, s0, t0, i0⟩ ⟨4, b1, m1, s1, t1, i1⟩ ⟨1, q, 0, ⟨#[]⟩, ⟨#[]⟩, ⟨#[]⟩⟩ 0 W0 := by
  intro w hw
  have HX : Aside0 (XD w #[.slice A n c, .string p0, .string p1, .string p2, .string p3, .string p4, .string p5] #[.int .i64 4, .bool b0, .int .i64 m0, .string s0, .string t0, .string i0, .slice none 0 0] #[.int .i64 4, .bool b1, .int .i64 m1, .string s1, .string t1, .string i1, .slice none 0 0] _) := ⟨XD.new w _ _ _⟩
  have HSP : Aside0 (∀ W : World, W.heap[w.heap.size]? = some (.cells #[.slice A n c, .string p0, .string p1, .string p2, .string p3, .string p4, .string p5] 108 (0, 0)) ∧ W.heap[w.heap.size + 1]? = some (.cells #[.int .i64 4, .bool b0, .int .i64 m0, .string s0, .string t0, .string i0, .slice none 0 0] 55 (0, 0)) ∧ W.heap[w.heap.size + 2]? = some (.cells #[.int .i64 4, .bool b1, .int .i64 m1, .string s1, .string t1, .string i1, .slice none 0 0] 55 (0, 0)) → W.cell? ⟨w.heap.size, 0, none⟩ = some (.slice A n c) ∧ W.cell? ⟨w.heap.size, 1, none⟩ = some (.string p0) ∧ W.cell? ⟨w.heap.size, 2, none⟩ = some (.string p1) ∧ W.cell? ⟨w.heap.size, 3, none⟩ = some (.string p2) ∧ W.cell? ⟨w.heap.size, 4, none⟩ = some (.string p3) ∧ W.cell? ⟨w.heap.size, 5, none⟩ = some (.string p4) ∧ W.cell? ⟨w.heap.size, 6, none⟩ = some (.string p5) ∧ W.cell? ⟨w.heap.size + 1, 0, none⟩ = some (.int .i64 4) ∧ W.cell? ⟨w.heap.size + 1, 1, none⟩ = some (.bool b0) ∧ W.cell? ⟨w.heap.size + 1, 2, none⟩ = some (.int .i64 m0) ∧ W.cell? ⟨w.heap.size + 1, 3, none⟩ = some (.string s0) ∧ W.cell? ⟨w.heap.size + 1, 4, none⟩ = some (.string t0) ∧ W.cell? ⟨w.heap.size + 1, 5, none⟩ = some (.string i0) ∧ W.cell? ⟨w.heap.size + 1, 6, none⟩ = some (.slice none 0 0) ∧ W.cell? ⟨w.heap.size + 2, 0, none⟩ = some (.int .i64 4) ∧ W.cell? ⟨w.heap.size + 2, 1, none⟩ = some (.bool b1) ∧ W.cell? ⟨w.heap.size + 2, 2, none⟩ = some (.int .i64 m1) ∧ W.cell? ⟨w.heap.size + 2, 3, none⟩ = some (.string s1) ∧ W.cell? ⟨w.heap.size + 2, 4, none⟩ = some (.string t1) ∧ W.cell? ⟨w.heap.size + 2, 5, none⟩ = some (.string i1) ∧ W.cell? ⟨w.heap.size + 2, 6, none⟩ = some (.slice none 0 0)) := ⟨fun W h => ⟨(blk_cell h.1 0).trans rfl, (blk_cell h.1 1).trans rfl, (blk_cell h.1 2).trans rfl, (blk_cell h.1 3).trans rfl, (blk_cell h.1 4).trans rfl, (blk_cell h.1 5).trans rfl, (blk_cell h.1 6).trans rfl, (blk_cell h.2.1 0).trans rfl, (blk_cell h.2.1 1).trans rfl, (blk_cell h.2.1 2).trans rfl, (blk_cell h.2.1 3).trans rfl, (blk_cell h.2.1 4).trans rfl, (blk_cell h.2.1 5).trans rfl, (blk_cell h.2.1 6).trans rfl, (blk_cell h.2.2 0).trans rfl, (blk_cell h.2.2 1).trans rfl, (blk_cell h.2.2 2).trans rfl, (blk_cell h.2.2 3).trans rfl, (blk_cell h.2.2 4).trans rfl, (blk_cell h.2.2 5).trans rfl, (blk_cell h.2.2 6).trans rfl⟩⟩
  have HSD : Aside0 (∀ W, XD w #[.slice A n c, .string p0, .string p1, .string p2, .string p3, .string p4, .string p5] #[.int .i64 4, .bool b0, .int .i64 m0, .string s0, .string t0, .string i0, .slice none 0 0] #[.int .i64 4, .bool b1, .int .i64 m1, .string s1, .string t1, .string i1, .slice none 0 0] W → W.cell? ⟨w.heap.size, 0, none⟩ = some (.slice A n c) ∧ W.cell? ⟨w.heap.size, 1, none⟩ = some (.string p0) ∧ W.cell? ⟨w.heap.size, 2, none⟩ = some (.string p1) ∧ W.cell? ⟨w.heap.size, 3, none⟩ = some (.string p2) ∧ W.cell? ⟨w.heap.size, 4, none⟩ = some (.string p3) ∧ W.cell? ⟨w.heap.size, 5, none⟩ = some (.string p4) ∧ W.cell? ⟨w.heap.size, 6, none⟩ = some (.string p5) ∧ W.cell? ⟨w.heap.size + 1, 0, none⟩ = some (.int .i64 4) ∧ W.cell? ⟨w.heap.size + 1, 1, none⟩ = some (.bool b0) ∧ W.cell? ⟨w.heap.size + 1, 2, none⟩ = some (.int .i64 m0) ∧ W.cell? ⟨w.heap.size + 1, 3, none⟩ = some (.string s0) ∧ W.cell? ⟨w.heap.size + 1, 4, none⟩ = some (.string t0) ∧ W.cell? ⟨w.heap.size + 1, 5, none⟩ = some (.string i0) ∧ W.cell? ⟨w.heap.size + 1, 6, none⟩ = some (.slice none 0 0) ∧ W.cell? ⟨w.heap.size + 2, 0, none⟩ = some (.int .i64 4) ∧ W.cell? ⟨w.heap.size + 2, 1, none⟩ = some (.bool b1) ∧ W.cell? ⟨w.heap.size + 2, 2, none⟩ = some (.int .i64 m1) ∧ W.cell? ⟨w.heap.size + 2, 3, none⟩ = some (.string s1) ∧ W.cell? ⟨w.heap.size + 2, 4, none⟩ = some (.string t1) ∧ W.cell? ⟨w.heap.size + 2, 5, none⟩ = some (.string i1) ∧ W.cell? ⟨w.heap.size + 2, 6, none⟩ = some (.slice none 0 0)) := ⟨fun W h => ⟨(blk_cell h.b0 0).trans rfl, (blk_cell h.b0 1).trans rfl, (blk_cell h.b0 2).trans rfl, (blk_cell h.b0 3).trans rfl, (blk_cell h.b0 4).trans rfl, (blk_cell h.b0 5).trans rfl, (blk_cell h.b0 6).trans rfl, (blk_cell h.b1 0).trans rfl, (blk_cell h.b1 1).trans rfl, (blk_cell h.b1 2).trans rfl, (blk_cell h.b1 3).trans rfl, (blk_cell h.b1 4).trans rfl, (blk_cell h.b1 5).trans rfl, (blk_cell h.b1 6).trans rfl, (blk_cell h.b2 0).trans rfl, (blk_cell h.b2 1).trans rfl, (blk_cell h.b2 2).trans rfl, (blk_cell h.b2 3).trans rfl, (blk_cell h.b2 4).trans rfl, (blk_cell h.b2 5).trans rfl, (blk_cell h.b2 6).trans rfl⟩⟩
  have HI := Aside0.mk (fun W (hW : Below w.heap.size w W) => hI W (below_step hw hW))
  clear hI
  clear hw
  unfold GivF
  go_enter Try.func96, Try.ntmps96
  go_upto_region 11 with (fail)
  generalize (((w.alloc (.cells #[.slice A n c, .string p0, .string p1, .string p2, .string p3, .string p4, .string p5] 108)).alloc (.cells #[.int .i64 4, .bool b0, .int .i64 m0, .string s0, .string t0, .string i0, .slice none 0 0] 55)).alloc (.cells #[.int .i64 4, .bool b1, .int .i64 m1, .string s1, .string t1, .string i1, .slice none 0 0] 55)).alloc (.cells #[.int .i64 0, .bool false, .int .i64 0, .string ⟨#[]⟩, .string ⟨#[]⟩, .string ⟨#[]⟩, .slice none 0 0] 55) = w3 at HX ⊢
  replace HX : Aside0 (XD w #[.slice A n c, .string p0, .string p1, .string p2, .string p3, .string p4, .string p5] #[.int .i64 4, .bool b0, .int .i64 m0, .string s0, .string t0, .string i0, .slice none 0 0] #[.int .i64 4, .bool b1, .int .i64 m1, .string s1, .string t1, .string i1, .slice none 0 0] w3.drew) := ⟨HX.out.step (below_drew1 (Below.refl _ _))⟩
  refine start_ (n := 10) (S := fun W => W.cell? ⟨w.heap.size, 0, none⟩ = some (.slice A n c) ∧ W.cell? ⟨w.heap.size, 1, none⟩ = some (.string p0) ∧ W.cell? ⟨w.heap.size, 2, none⟩ = some (.string p1) ∧ W.cell? ⟨w.heap.size, 3, none⟩ = some (.string p2) ∧ W.cell? ⟨w.heap.size, 4, none⟩ = some (.string p3) ∧ W.cell? ⟨w.heap.size, 5, none⟩ = some (.string p4) ∧ W.cell? ⟨w.heap.size, 6, none⟩ = some (.string p5) ∧ W.cell? ⟨w.heap.size + 1, 0, none⟩ = some (.int .i64 4) ∧ W.cell? ⟨w.heap.size + 1, 1, none⟩ = some (.bool b0) ∧ W.cell? ⟨w.heap.size + 1, 2, none⟩ = some (.int .i64 m0) ∧ W.cell? ⟨w.heap.size + 1, 3, none⟩ = some (.string s0) ∧ W.cell? ⟨w.heap.size + 1, 4, none⟩ = some (.string t0) ∧ W.cell? ⟨w.heap.size + 1, 5, none⟩ = some (.string i0) ∧ W.cell? ⟨w.heap.size + 1, 6, none⟩ = some (.slice none 0 0) ∧ W.cell? ⟨w.heap.size + 2, 0, none⟩ = some (.int .i64 4) ∧ W.cell? ⟨w.heap.size + 2, 1, none⟩ = some (.bool b1) ∧ W.cell? ⟨w.heap.size + 2, 2, none⟩ = some (.int .i64 m1) ∧ W.cell? ⟨w.heap.size + 2, 3, none⟩ = some (.string s1) ∧ W.cell? ⟨w.heap.size + 2, 4, none⟩ = some (.string t1) ∧ W.cell? ⟨w.heap.size + 2, 5, none⟩ = some (.string i1) ∧ W.cell? ⟨w.heap.size + 2, 6, none⟩ = some (.slice none 0 0)) (ds := []) #[false, false, false, false, false, false, false, false, false, false] (by kernel_rfl) rfl rfl (HSD.out _ HX.out) (fun hHeld => ?_)
  refine with_tabW rd11_tab rd11_bits (fun HT_ HW_ => ?_)
  generalize w3.drew = wd at HX hHeld ⊢
  refine tS_ 0 39 (fa 10 1) HT_ HW_ hHeld ?_
  refine tS_ 1 40 (fa 10 3) HT_ HW_ hHeld ?_
  refine tS_ 3 42 (fa 10 11) HT_ HW_ hHeld ?_
  refine one_ (i := 2) (N := some 41) #[true, true, true, true, false, false, false, false, false, false] rfl rfl (one_of HT_.out (by kernel_rfl)) (by decide) (fun K hK => ?_)
  refine goes_ Try.func117 (by kernel_rfl) rfl #[.agg #[.int .i64 4, .bool b0, .int .i64 m0, .string s0, .string t0, .string i0, .slice none 0 0]] (by rfl) rfl rfl gm_ ?_
  refine (of_4 b0 m0 s0 t0 i0 none 0 0 _).mono ?_
  rintro e w4 ⟨rfl, hb⟩
  refine ⟨_, rfl, ?_⟩
  replace HX := Aside0.mk (HX.out.step hb)
  clear hb
  refine hK.out _ _ (HSD.out _ HX.out) (fun hHeld => ?_)
  clear hK K
  refine norm_ (a' := ?_) ?_ ?_
  rotate_left
  · show Act.put _ (some 41) _ = _
    simp only [Act.put, List.setIfInBounds_toArray, List.set_cons_zero, List.set_cons_succ, i64_w, i32_w]
    rfl
  refine one_ (i := 4) (N := some 43) #[true, true, true, true, true, false, false, false, false, false] rfl rfl (one_of HT_.out (by kernel_rfl)) (by decide) (fun K hK => ?_)
  refine goes_ Try.func117 (by kernel_rfl) rfl #[.agg #[.int .i64 4, .bool b1, .int .i64 m1, .string s1, .string t1, .string i1, .slice none 0 0]] (by rfl) rfl rfl gm_ ?_
  refine (of_4 b1 m1 s1 t1 i1 none 0 0 _).mono ?_
  rintro e w5 ⟨rfl, hb⟩
  refine ⟨_, rfl, ?_⟩
  replace HX := Aside0.mk (HX.out.step hb)
  clear hb
  refine hK.out _ _ (HSD.out _ HX.out) (fun hHeld => ?_)
  clear hK K
  refine norm_ (a' := ?_) ?_ ?_
  rotate_left
  · show Act.put _ (some 43) _ = _
    simp only [Act.put, List.setIfInBounds_toArray, List.set_cons_zero, List.set_cons_succ, i64_w, i32_w]
    rfl
  refine one_ (i := 5) (N := some 44) #[true, true, true, true, true, true, false, false, false, false] rfl rfl (one_of HT_.out (by kernel_rfl)) (by decide) (fun K hK => ?_)
  refine goes_ Try.func124 (by kernel_rfl) rfl #[.agg #[.slice A n c, .string p0, .string p1, .string p2, .string p3, .string p4, .string p5], .iface 192 (.agg #[.string t0, .string i0]), .iface 192 (.agg #[.string t1, .string i1])] (by rfl) rfl rfl gm_ ?_
  refine (in_uids A n c p0 p1 p2 p3 p4 p5 t0 i0 t1 i1 q _ (fun W hW => HI.out W (below_step HX.out.be hW))).mono ?_
  rintro e w6 ⟨rfl, hb⟩
  refine ⟨_, rfl, ?_⟩
  replace HX := Aside0.mk (HX.out.step hb)
  clear hb
  refine hK.out _ _ (HSD.out _ HX.out) (fun hHeld => ?_)
  clear hK K
  refine norm_ (a' := ?_) ?_ ?_
  rotate_left
  · show Act.put _ (some 44) _ = _
    simp only [Act.put, List.setIfInBounds_toArray, List.set_cons_zero, List.set_cons_succ, i64_w, i32_w]
    rfl
  refine pS_ 6 45 (fa 10 127) HT_ ?_
  refine pS_ 7 46 (fa 10 255) HT_ ?_
  refine one_ (i := 8) (N := none) #[true, true, true, true, true, true, true, true, true, false] rfl rfl (one_of HT_.out (by kernel_rfl)) (by decide) (fun K hK => ?_)
  obtain ⟨q0, q1, q2, q3, q4, q5, q6⟩ := cells7 HX.out.b3
  obtain ⟨f0, f1, f2, f3, f4, f5, f6⟩ := froz7 HX.out.b3
  refine skip_ (w1 := ?_) (by rfl) rfl ?_ ?_
  rotate_left
  · go_simp
    rfl
  refine hK.out _ _ (HSP.out _ (HX.out.put _ _ _ _ _ _ _)) (fun hHeld => ?_)
  clear hK K
  refine pS_ 9 9 (fa 10 1023) HT_ ?_
  refine done_ (done_of HT_.out (by kernel_rfl)) ?_
  try go_wp2
  (try simp only [Exit.inBlock, Exit.then])
  refine bodyPost_ret (results_row_tmp rfl _ _ (w.heap.size + 3) 55 _ (0, 0) _ rfl (set7_blk HX.out.b3 _ _ _ _ _ _ _) Try.underlying55 rfl (by kernel_rfl)) rfl ?_
  exact ⟨rfl, set7_below HX.out.be (by omega) _ _ _ _ _ _ _⟩
set_option maxRecDepth 100000 in
set_option maxHeartbeats 16000000 in
theorem double_type (A : Option Addr) (n c : Nat) (p0 p1 p2 p3 p4 p5 : ByteArray) (b0 : Bool) (m0 : Int) (s0 t0 i0 : ByteArray) (b1 : Bool) (m1 : Int) (s1 t1 i1 : ByteArray)  (W0 : World) : DSays (.agg #[.slice A n c, .string p0, .string p1, .string p2, .string p3, .string p4, .string p5]) 14 ⟨2, b0, m0, s0, t0, i0⟩ ⟨1, b1, m1, s1, t1, i1⟩ ⟨0, false, 0, ⟨#[]⟩, ⟨#[]⟩, ⟨#[]⟩⟩ 16 W0 := by
  intro w hw
  have HX : Aside0 (XD w #[.slice A n c, .string p0, .string p1, .string p2, .string p3, .string p4, .string p5] #[.int .i64 2, .bool b0, .int .i64 m0, .string s0, .string t0, .string i0, .slice none 0 0] #[.int .i64 1, .bool b1, .int .i64 m1, .string s1, .string t1, .string i1, .slice none 0 0] _) := ⟨XD.new w _ _ _⟩
  have HSP : Aside0 (∀ W : World, W.heap[w.heap.size]? = some (.cells #[.slice A n c, .string p0, .string p1, .string p2, .string p3, .string p4, .string p5] 108 (0, 0)) ∧ W.heap[w.heap.size + 1]? = some (.cells #[.int .i64 2, .bool b0, .int .i64 m0, .string s0, .string t0, .string i0, .slice none 0 0] 55 (0, 0)) ∧ W.heap[w.heap.size + 2]? = some (.cells #[.int .i64 1, .bool b1, .int .i64 m1, .string s1, .string t1, .string i1, .slice none 0 0] 55 (0, 0)) → W.cell? ⟨w.heap.size, 0, none⟩ = some (.slice A n c) ∧ W.cell? ⟨w.heap.size, 1, none⟩ = some (.string p0) ∧ W.cell? ⟨w.heap.size, 2, none⟩ = some (.string p1) ∧ W.cell? ⟨w.heap.size, 3, none⟩ = some (.string p2) ∧ W.cell? ⟨w.heap.size, 4, none⟩ = some (.string p3) ∧ W.cell? ⟨w.heap.size, 5, none⟩ = some (.string p4) ∧ W.cell? ⟨w.heap.size, 6, none⟩ = some (.string p5) ∧ W.cell? ⟨w.heap.size + 1, 0, none⟩ = some (.int .i64 2) ∧ W.cell? ⟨w.heap.size + 1, 1, none⟩ = some (.bool b0) ∧ W.cell? ⟨w.heap.size + 1, 2, none⟩ = some (.int .i64 m0) ∧ W.cell? ⟨w.heap.size + 1, 3, none⟩ = some (.string s0) ∧ W.cell? ⟨w.heap.size + 1, 4, none⟩ = some (.string t0) ∧ W.cell? ⟨w.heap.size + 1, 5, none⟩ = some (.string i0) ∧ W.cell? ⟨w.heap.size + 1, 6, none⟩ = some (.slice none 0 0) ∧ W.cell? ⟨w.heap.size + 2, 0, none⟩ = some (.int .i64 1) ∧ W.cell? ⟨w.heap.size + 2, 1, none⟩ = some (.bool b1) ∧ W.cell? ⟨w.heap.size + 2, 2, none⟩ = some (.int .i64 m1) ∧ W.cell? ⟨w.heap.size + 2, 3, none⟩ = some (.string s1) ∧ W.cell? ⟨w.heap.size + 2, 4, none⟩ = some (.string t1) ∧ W.cell? ⟨w.heap.size + 2, 5, none⟩ = some (.string i1) ∧ W.cell? ⟨w.heap.size + 2, 6, none⟩ = some (.slice none 0 0)) := ⟨fun W h => ⟨(blk_cell h.1 0).trans rfl, (blk_cell h.1 1).trans rfl, (blk_cell h.1 2).trans rfl, (blk_cell h.1 3).trans rfl, (blk_cell h.1 4).trans rfl, (blk_cell h.1 5).trans rfl, (blk_cell h.1 6).trans rfl, (blk_cell h.2.1 0).trans rfl, (blk_cell h.2.1 1).trans rfl, (blk_cell h.2.1 2).trans rfl, (blk_cell h.2.1 3).trans rfl, (blk_cell h.2.1 4).trans rfl, (blk_cell h.2.1 5).trans rfl, (blk_cell h.2.1 6).trans rfl, (blk_cell h.2.2 0).trans rfl, (blk_cell h.2.2 1).trans rfl, (blk_cell h.2.2 2).trans rfl, (blk_cell h.2.2 3).trans rfl, (blk_cell h.2.2 4).trans rfl, (blk_cell h.2.2 5).trans rfl, (blk_cell h.2.2 6).trans rfl⟩⟩
  have HSD : Aside0 (∀ W, XD w #[.slice A n c, .string p0, .string p1, .string p2, .string p3, .string p4, .string p5] #[.int .i64 2, .bool b0, .int .i64 m0, .string s0, .string t0, .string i0, .slice none 0 0] #[.int .i64 1, .bool b1, .int .i64 m1, .string s1, .string t1, .string i1, .slice none 0 0] W → W.cell? ⟨w.heap.size, 0, none⟩ = some (.slice A n c) ∧ W.cell? ⟨w.heap.size, 1, none⟩ = some (.string p0) ∧ W.cell? ⟨w.heap.size, 2, none⟩ = some (.string p1) ∧ W.cell? ⟨w.heap.size, 3, none⟩ = some (.string p2) ∧ W.cell? ⟨w.heap.size, 4, none⟩ = some (.string p3) ∧ W.cell? ⟨w.heap.size, 5, none⟩ = some (.string p4) ∧ W.cell? ⟨w.heap.size, 6, none⟩ = some (.string p5) ∧ W.cell? ⟨w.heap.size + 1, 0, none⟩ = some (.int .i64 2) ∧ W.cell? ⟨w.heap.size + 1, 1, none⟩ = some (.bool b0) ∧ W.cell? ⟨w.heap.size + 1, 2, none⟩ = some (.int .i64 m0) ∧ W.cell? ⟨w.heap.size + 1, 3, none⟩ = some (.string s0) ∧ W.cell? ⟨w.heap.size + 1, 4, none⟩ = some (.string t0) ∧ W.cell? ⟨w.heap.size + 1, 5, none⟩ = some (.string i0) ∧ W.cell? ⟨w.heap.size + 1, 6, none⟩ = some (.slice none 0 0) ∧ W.cell? ⟨w.heap.size + 2, 0, none⟩ = some (.int .i64 1) ∧ W.cell? ⟨w.heap.size + 2, 1, none⟩ = some (.bool b1) ∧ W.cell? ⟨w.heap.size + 2, 2, none⟩ = some (.int .i64 m1) ∧ W.cell? ⟨w.heap.size + 2, 3, none⟩ = some (.string s1) ∧ W.cell? ⟨w.heap.size + 2, 4, none⟩ = some (.string t1) ∧ W.cell? ⟨w.heap.size + 2, 5, none⟩ = some (.string i1) ∧ W.cell? ⟨w.heap.size + 2, 6, none⟩ = some (.slice none 0 0)) := ⟨fun W h => ⟨(blk_cell h.b0 0).trans rfl, (blk_cell h.b0 1).trans rfl, (blk_cell h.b0 2).trans rfl, (blk_cell h.b0 3).trans rfl, (blk_cell h.b0 4).trans rfl, (blk_cell h.b0 5).trans rfl, (blk_cell h.b0 6).trans rfl, (blk_cell h.b1 0).trans rfl, (blk_cell h.b1 1).trans rfl, (blk_cell h.b1 2).trans rfl, (blk_cell h.b1 3).trans rfl, (blk_cell h.b1 4).trans rfl, (blk_cell h.b1 5).trans rfl, (blk_cell h.b1 6).trans rfl, (blk_cell h.b2 0).trans rfl, (blk_cell h.b2 1).trans rfl, (blk_cell h.b2 2).trans rfl, (blk_cell h.b2 3).trans rfl, (blk_cell h.b2 4).trans rfl, (blk_cell h.b2 5).trans rfl, (blk_cell h.b2 6).trans rfl⟩⟩
  clear hw
  unfold GivF
  go_enter Try.func96, Try.ntmps96
  go_upto_region 12 with (fail)
  generalize (((w.alloc (.cells #[.slice A n c, .string p0, .string p1, .string p2, .string p3, .string p4, .string p5] 108)).alloc (.cells #[.int .i64 2, .bool b0, .int .i64 m0, .string s0, .string t0, .string i0, .slice none 0 0] 55)).alloc (.cells #[.int .i64 1, .bool b1, .int .i64 m1, .string s1, .string t1, .string i1, .slice none 0 0] 55)).alloc (.cells #[.int .i64 0, .bool false, .int .i64 0, .string ⟨#[]⟩, .string ⟨#[]⟩, .string ⟨#[]⟩, .slice none 0 0] 55) = w3 at HX ⊢
  replace HX : Aside0 (XD w #[.slice A n c, .string p0, .string p1, .string p2, .string p3, .string p4, .string p5] #[.int .i64 2, .bool b0, .int .i64 m0, .string s0, .string t0, .string i0, .slice none 0 0] #[.int .i64 1, .bool b1, .int .i64 m1, .string s1, .string t1, .string i1, .slice none 0 0] w3.drew) := ⟨HX.out.step (below_drew1 (Below.refl _ _))⟩
  refine start_ (n := 10) (S := fun W => W.cell? ⟨w.heap.size, 0, none⟩ = some (.slice A n c) ∧ W.cell? ⟨w.heap.size, 1, none⟩ = some (.string p0) ∧ W.cell? ⟨w.heap.size, 2, none⟩ = some (.string p1) ∧ W.cell? ⟨w.heap.size, 3, none⟩ = some (.string p2) ∧ W.cell? ⟨w.heap.size, 4, none⟩ = some (.string p3) ∧ W.cell? ⟨w.heap.size, 5, none⟩ = some (.string p4) ∧ W.cell? ⟨w.heap.size, 6, none⟩ = some (.string p5) ∧ W.cell? ⟨w.heap.size + 1, 0, none⟩ = some (.int .i64 2) ∧ W.cell? ⟨w.heap.size + 1, 1, none⟩ = some (.bool b0) ∧ W.cell? ⟨w.heap.size + 1, 2, none⟩ = some (.int .i64 m0) ∧ W.cell? ⟨w.heap.size + 1, 3, none⟩ = some (.string s0) ∧ W.cell? ⟨w.heap.size + 1, 4, none⟩ = some (.string t0) ∧ W.cell? ⟨w.heap.size + 1, 5, none⟩ = some (.string i0) ∧ W.cell? ⟨w.heap.size + 1, 6, none⟩ = some (.slice none 0 0) ∧ W.cell? ⟨w.heap.size + 2, 0, none⟩ = some (.int .i64 1) ∧ W.cell? ⟨w.heap.size + 2, 1, none⟩ = some (.bool b1) ∧ W.cell? ⟨w.heap.size + 2, 2, none⟩ = some (.int .i64 m1) ∧ W.cell? ⟨w.heap.size + 2, 3, none⟩ = some (.string s1) ∧ W.cell? ⟨w.heap.size + 2, 4, none⟩ = some (.string t1) ∧ W.cell? ⟨w.heap.size + 2, 5, none⟩ = some (.string i1) ∧ W.cell? ⟨w.heap.size + 2, 6, none⟩ = some (.slice none 0 0)) (ds := []) #[false, false, false, false, false, false, false, false, false, false] (by kernel_rfl) rfl rfl (HSD.out _ HX.out) (fun hHeld => ?_)
  refine with_tabW rd12_tab rd12_bits (fun HT_ HW_ => ?_)
  generalize w3.drew = wd at HX hHeld ⊢
  refine pS_ 0 47 (fa 10 1) HT_ ?_
  refine tS_ 1 48 (fa 10 3) HT_ HW_ hHeld ?_
  refine tS_ 3 50 (fa 10 11) HT_ HW_ hHeld ?_
  refine one_ (i := 2) (N := some 49) #[true, true, true, true, false, false, false, false, false, false] rfl rfl (one_of HT_.out (by kernel_rfl)) (by decide) (fun K hK => ?_)
  refine goes_ Try.func117 (by kernel_rfl) rfl #[.agg #[.int .i64 2, .bool b0, .int .i64 m0, .string s0, .string t0, .string i0, .slice none 0 0]] (by rfl) rfl rfl gm_ ?_
  refine (of_2 b0 m0 s0 t0 i0 none 0 0 _).mono ?_
  rintro e w4 ⟨rfl, hb⟩
  refine ⟨_, rfl, ?_⟩
  replace HX := Aside0.mk (HX.out.step hb)
  clear hb
  refine hK.out _ _ (HSD.out _ HX.out) (fun hHeld => ?_)
  clear hK K
  refine norm_ (a' := ?_) ?_ ?_
  rotate_left
  · show Act.put _ (some 49) _ = _
    simp only [Act.put, List.setIfInBounds_toArray, List.set_cons_zero, List.set_cons_succ, i64_w, i32_w]
    rfl
  refine one_ (i := 4) (N := some 51) #[true, true, true, true, true, false, false, false, false, false] rfl rfl (one_of HT_.out (by kernel_rfl)) (by decide) (fun K hK => ?_)
  refine goes_ Try.func117 (by kernel_rfl) rfl #[.agg #[.int .i64 1, .bool b1, .int .i64 m1, .string s1, .string t1, .string i1, .slice none 0 0]] (by rfl) rfl rfl gm_ ?_
  refine (of_1 b1 m1 s1 t1 i1 none 0 0 _).mono ?_
  rintro e w5 ⟨rfl, hb⟩
  refine ⟨_, rfl, ?_⟩
  replace HX := Aside0.mk (HX.out.step hb)
  clear hb
  refine hK.out _ _ (HSD.out _ HX.out) (fun hHeld => ?_)
  clear hK K
  refine norm_ (a' := ?_) ?_ ?_
  rotate_left
  · show Act.put _ (some 51) _ = _
    simp only [Act.put, List.setIfInBounds_toArray, List.set_cons_zero, List.set_cons_succ, i64_w, i32_w]
    rfl
  refine one_ (i := 5) (N := some 52) #[true, true, true, true, true, true, false, false, false, false] rfl rfl (one_of HT_.out (by kernel_rfl)) (by decide) (fun K hK => ?_)
  refine goes_ Try.func125 (by kernel_rfl) rfl #[.int .i64 14, .iface 171 (.int .i64 m0), .iface 163 (.bool b1)] (by rfl) rfl rfl gm_ ?_
  refine (numbers_type_b 14 m0 (.iface 163 (.bool b1)) (fun w => ta_number_truth _ w) _).mono ?_
  rintro e w6 ⟨rfl, hb⟩
  refine ⟨_, rfl, ?_⟩
  replace HX := Aside0.mk (HX.out.step hb)
  clear hb
  refine hK.out _ _ (HSD.out _ HX.out) (fun hHeld => ?_)
  clear hK K
  refine norm_ (a' := ?_) ?_ ?_
  rotate_left
  · show Act.put _ (some 52) _ = _
    simp only [Act.put, List.setIfInBounds_toArray, List.set_cons_zero, List.set_cons_succ, i64_w, i32_w]
    rfl
  refine pS_ 6 53 (fa 10 127) HT_ ?_
  refine pS_ 7 54 (fa 10 255) HT_ ?_
  refine one_ (i := 8) (N := none) #[true, true, true, true, true, true, true, true, true, false] rfl rfl (one_of HT_.out (by kernel_rfl)) (by decide) (fun K hK => ?_)
  obtain ⟨q0, q1, q2, q3, q4, q5, q6⟩ := cells7 HX.out.b3
  obtain ⟨f0, f1, f2, f3, f4, f5, f6⟩ := froz7 HX.out.b3
  refine skip_ (w1 := ?_) (by rfl) rfl ?_ ?_
  rotate_left
  · go_simp
    rfl
  refine hK.out _ _ (HSP.out _ (HX.out.put _ _ _ _ _ _ _)) (fun hHeld => ?_)
  clear hK K
  refine pS_ 9 9 (fa 10 1023) HT_ ?_
  refine done_ (done_of HT_.out (by kernel_rfl)) ?_
  try go_wp2
  (try simp only [Exit.inBlock, Exit.then])
  refine bodyPost_ret (results_row_tmp rfl _ _ (w.heap.size + 3) 55 _ (0, 0) _ rfl (set7_blk HX.out.b3 _ _ _ _ _ _ _) Try.underlying55 rfl (by kernel_rfl)) rfl ?_
  exact ⟨rfl, set7_below HX.out.be (by omega) _ _ _ _ _ _ _⟩
end Go.Proofs.Ytelibndkkokadaa.EV
namespace Go.Proofs.Ytelibndkkokadaa.EV
open Go.RowKit Go.Proofs.YtelibndkkokadaaW.PrintWords Go.Proofs.YtelibndkkokadaaW.PrintLast Go.Proofs.Ytelibndkkokadaa.HandV Go.Proofs.YtelibndkkokadaaW.PrintMore
open Go.Proofs.Ytelibndkkokadaa.GB
attribute [local go_sem] max2_int min2_int max_two min_two max_three min_three max_four min_four   -- for this text's walks alone
set_option linter.unusedVariables false
set_option linter.unusedSimpArgs false
-- IMPORT .EV5
-- IMPORT .Sqz
-- IMPORT Derived.Deep.RegionWith
-- IMPORT Derived.Deep.CutRange
theorem ta_truth1 (x : Value) (w : World) : Sem.run Try.prog (Instr.typeAssert (.iface 163 x) 20 163 false) w = .ok x w := by simp [Instr.typeAssert, go_sem]
set_option maxRecDepth 100000 in
set_option maxHeartbeats 16000000 in
theorem asked_tr (A : Option Addr) (n c : Nat) (p0 p1 p2 p3 p4 p5 : ByteArray) (o0 : Int) (b0 : Bool) (m0 : Int) (s0 t0 i0 : ByteArray) (K0 : Value) (q : Bool) (m : Int) (s t i : ByteArray) (W0 : World) (h0 : Says (.agg #[.slice A n c, .string p0, .string p1, .string p2, .string p3, .string p4, .string p5]) (.agg #[.int .i64 o0, .bool b0, .int .i64 m0, .string s0, .string t0, .string i0, K0]) ⟨1, q, m, s, t, i⟩ 0 W0) (w : World) (hw : Below W0.heap.size W0 w) : Calls Try.prog 114 #[.agg #[.slice A n c, .string p0, .string p1, .string p2, .string p3, .string p4, .string p5], .agg #[.int .i64 o0, .bool b0, .int .i64 m0, .string s0, .string t0, .string i0, K0]] w fun e w' => e = .returned (.tuple #[.bool q, .int .i64 0]) ∧ Below w.heap.size w w' := by
  have HH : Aside0 (∀ W, Below w.heap.size w W → Calls Try.prog 71 #[.agg #[.slice A n c, .string p0, .string p1, .string p2, .string p3, .string p4, .string p5], .agg #[.int .i64 o0, .bool b0, .int .i64 m0, .string s0, .string t0, .string i0, K0]] W fun e w' => e = .returned (.tuple #[.agg #[.int .i64 1, .bool q, .int .i64 m, .string s, .string t, .string i, .slice none 0 0], .int .i64 0]) ∧ Below W.heap.size W w') := ⟨fun W hW => h0 W (below_step hw hW)⟩
  have h1 := ta_truth1 (.bool q)
  clear h0 hw
  go_enter Try.func114, Try.ntmps114
  go_wp2_with (first | (go_at_call 71; refine (HH.out _ ?hB).mono ?_; (case hB => repeat (first | exact Below.refl _ _ | apply below_alloc)); rintro e w1 ⟨rfl, hb⟩; have HB : Aside0 (Below w.heap.size w w1) := ⟨below_step (by repeat (first | exact Below.refl _ _ | apply below_alloc)) hb⟩; clear hb) | (go_at_call 117; refine (of_1 q m s t i none 0 0 _).mono ?_; rintro e w2 ⟨rfl, hb⟩; have HB2 : Aside0 (Below w.heap.size w w2) := ⟨below_step (below_alloc HB.out _) hb⟩; clear hb))
  go_ret2
  exact ⟨rfl, HB2.out⟩
def rc1_T : Bool × List (List Nat × List Nat) := (true, [([], []), ([], []), ([1], [1]), ([2], [2]), ([3], [3]), ([0, 4], [0, 4]), ([5], [5]), ([6], [6]), ([6], [6]), ([7, 5, 0, 1, 2, 3, 4, 5, 6, 7], [7]), ([8, 9, 0, 1, 2, 3, 4, 5, 6, 7, 8, 9], [8])])
def rc1_B : List Nat := [0, 0, 2, 6, 14, 31, 63, 127, 127, 255, 1023]
theorem rc1_tab : rtab .any (opsOf Try.f94 1) = rc1_T := by kernel_rfl
theorem rc1_bits : waitsOk rc1_T.2 rc1_B = true := by kernel_rfl
set_option maxRecDepth 100000 in
set_option maxHeartbeats 16000000 in
theorem choice_and (A : Option Addr) (n c : Nat) (p0 p1 p2 p3 p4 p5 : ByteArray) (b : Bool) (m : Int) (s t i : ByteArray) (g kc : Nat) (o0 : Int) (b0 : Bool) (m0 : Int) (s0 t0 i0 : ByteArray) (K0 : Value) (o1 : Int) (b1 : Bool) (m1 : Int) (s1 t1 i1 : ByteArray) (K1 : Value) (m' : Int) (s' t' i' : ByteArray) (W0 : World) (hk : W0.heap[g]? = some (.cells #[.int .i64 o0, .bool b0, .int .i64 m0, .string s0, .string t0, .string i0, K0, .int .i64 o1, .bool b1, .int .i64 m1, .string s1, .string t1, .string i1, K1] 72 (0, 0))) (h0 : Says (.agg #[.slice A n c, .string p0, .string p1, .string p2, .string p3, .string p4, .string p5]) (.agg #[.int .i64 o0, .bool b0, .int .i64 m0, .string s0, .string t0, .string i0, K0]) ⟨1, false, m', s', t', i'⟩ 0 W0) (w : World) (hw : Below W0.heap.size W0 w) : Calls Try.prog 94 #[.agg #[.slice A n c, .string p0, .string p1, .string p2, .string p3, .string p4, .string p5], .agg #[.int .i64 23, .bool b, .int .i64 m, .string s, .string t, .string i, .slice (some ⟨g, 0, none⟩) 2 kc]] w (GivF w ⟨1, false, 0, ⟨#[]⟩, ⟨#[]⟩, ⟨#[]⟩⟩ 0) := by
  have HA : Aside0 (∀ W, Below w.heap.size w W → Calls Try.prog 114 #[.agg #[.slice A n c, .string p0, .string p1, .string p2, .string p3, .string p4, .string p5], .agg #[.int .i64 o0, .bool b0, .int .i64 m0, .string s0, .string t0, .string i0, K0]] W fun e w' => e = .returned (.tuple #[.bool false, .int .i64 0]) ∧ Below W.heap.size W w') := ⟨fun W hW => asked_tr A n c p0 p1 p2 p3 p4 p5 o0 b0 m0 s0 t0 i0 K0 false m' s' t' i' W0 h0 W (below_step hw hW)⟩
  have HX : Aside0 (XK w #[.slice A n c, .string p0, .string p1, .string p2, .string p3, .string p4, .string p5] #[.int .i64 23, .bool b, .int .i64 m, .string s, .string t, .string i, .slice (some ⟨g, 0, none⟩) 2 kc] g #[.int .i64 o0, .bool b0, .int .i64 m0, .string s0, .string t0, .string i0, K0, .int .i64 o1, .bool b1, .int .i64 m1, .string s1, .string t1, .string i1, K1] _) := ⟨XK.new w _ _ _ g (blk_below hk hw)⟩
  have HS0 : Aside0 (∀ W, XK w #[.slice A n c, .string p0, .string p1, .string p2, .string p3, .string p4, .string p5] #[.int .i64 23, .bool b, .int .i64 m, .string s, .string t, .string i, .slice (some ⟨g, 0, none⟩) 2 kc] g #[.int .i64 o0, .bool b0, .int .i64 m0, .string s0, .string t0, .string i0, K0, .int .i64 o1, .bool b1, .int .i64 m1, .string s1, .string t1, .string i1, K1] W → W.cell? ⟨w.heap.size, 0, none⟩ = some (.slice A n c) ∧ W.cell? ⟨w.heap.size, 1, none⟩ = some (.string p0) ∧ W.cell? ⟨w.heap.size, 2, none⟩ = some (.string p1) ∧ W.cell? ⟨w.heap.size, 3, none⟩ = some (.string p2) ∧ W.cell? ⟨w.heap.size, 4, none⟩ = some (.string p3) ∧ W.cell? ⟨w.heap.size, 5, none⟩ = some (.string p4) ∧ W.cell? ⟨w.heap.size, 6, none⟩ = some (.string p5) ∧ W.cell? ⟨w.heap.size + 1, 6, none⟩ = some (.slice (some ⟨g, 0, none⟩) 2 kc) ∧ W.cell? ⟨g, 0, none⟩ = some (.int .i64 o0) ∧ W.cell? ⟨g, 1, none⟩ = some (.bool b0) ∧ W.cell? ⟨g, 2, none⟩ = some (.int .i64 m0) ∧ W.cell? ⟨g, 3, none⟩ = some (.string s0) ∧ W.cell? ⟨g, 4, none⟩ = some (.string t0) ∧ W.cell? ⟨g, 5, none⟩ = some (.string i0) ∧ W.cell? ⟨g, 6, none⟩ = some (K0)) := ⟨fun W h => ⟨(blk_cell h.b0 0).trans rfl, (blk_cell h.b0 1).trans rfl, (blk_cell h.b0 2).trans rfl, (blk_cell h.b0 3).trans rfl, (blk_cell h.b0 4).trans rfl, (blk_cell h.b0 5).trans rfl, (blk_cell h.b0 6).trans rfl, (blk_cell h.b1 6).trans rfl, (blk_cell h.bk 0).trans rfl, (blk_cell h.bk 1).trans rfl, (blk_cell h.bk 2).trans rfl, (blk_cell h.bk 3).trans rfl, (blk_cell h.bk 4).trans rfl, (blk_cell h.bk 5).trans rfl, (blk_cell h.bk 6).trans rfl⟩⟩
  clear h0 hw hk
  unfold GivF
  go_enter Try.func94, Try.ntmps94
  go_upto_region 1 with (fail)
  generalize ((w.alloc (.cells #[.slice A n c, .string p0, .string p1, .string p2, .string p3, .string p4, .string p5] 108)).alloc (.cells #[.int .i64 23, .bool b, .int .i64 m, .string s, .string t, .string i, .slice (some ⟨g, 0, none⟩) 2 kc] 72)).alloc (.cells #[.int .i64 0, .bool false, .int .i64 0, .string ⟨#[]⟩, .string ⟨#[]⟩, .string ⟨#[]⟩, .slice none 0 0] 55) = w3 at HX ⊢
  replace HX : Aside0 (XK w #[.slice A n c, .string p0, .string p1, .string p2, .string p3, .string p4, .string p5] #[.int .i64 23, .bool b, .int .i64 m, .string s, .string t, .string i, .slice (some ⟨g, 0, none⟩) 2 kc] g #[.int .i64 o0, .bool b0, .int .i64 m0, .string s0, .string t0, .string i0, K0, .int .i64 o1, .bool b1, .int .i64 m1, .string s1, .string t1, .string i1, K1] w3.drew) := ⟨HX.out.step (below_drew1 (Below.refl _ _))⟩
  refine start_ (n := 11) (S := fun W => W.cell? ⟨w.heap.size, 0, none⟩ = some (.slice A n c) ∧ W.cell? ⟨w.heap.size, 1, none⟩ = some (.string p0) ∧ W.cell? ⟨w.heap.size, 2, none⟩ = some (.string p1) ∧ W.cell? ⟨w.heap.size, 3, none⟩ = some (.string p2) ∧ W.cell? ⟨w.heap.size, 4, none⟩ = some (.string p3) ∧ W.cell? ⟨w.heap.size, 5, none⟩ = some (.string p4) ∧ W.cell? ⟨w.heap.size, 6, none⟩ = some (.string p5) ∧ W.cell? ⟨w.heap.size + 1, 6, none⟩ = some (.slice (some ⟨g, 0, none⟩) 2 kc) ∧ W.cell? ⟨g, 0, none⟩ = some (.int .i64 o0) ∧ W.cell? ⟨g, 1, none⟩ = some (.bool b0) ∧ W.cell? ⟨g, 2, none⟩ = some (.int .i64 m0) ∧ W.cell? ⟨g, 3, none⟩ = some (.string s0) ∧ W.cell? ⟨g, 4, none⟩ = some (.string t0) ∧ W.cell? ⟨g, 5, none⟩ = some (.string i0) ∧ W.cell? ⟨g, 6, none⟩ = some (K0)) (ds := []) #[false, false, false, false, false, false, false, false, false, false, false] (by kernel_rfl) rfl rfl (HS0.out _ HX.out) (fun hHeld => ?_)
  refine with_tabW rc1_tab rc1_bits (fun HT_ HW_ => ?_)
  generalize w3.drew = wd at HX hHeld ⊢
  refine pS_ 1 11 (fa 11 2) HT_ ?_
  refine tS_ 0 10 (fa 11 3) HT_ HW_ hHeld ?_
  refine tS_ 2 12 (fa 11 7) HT_ HW_ hHeld ?_
  refine pS_ 3 13 (fa 11 15) HT_ ?_
  refine tS_ 4 14 (fa 11 31) HT_ HW_ hHeld ?_
  refine one_ (i := 5) (N := some 15) #[true, true, true, true, true, true, false, false, false, false, false] rfl rfl (one_of HT_.out (by kernel_rfl)) (by decide) (fun K hK => ?_)
  refine goes_ Try.func114 (by kernel_rfl) rfl #[.agg #[.slice A n c, .string p0, .string p1, .string p2, .string p3, .string p4, .string p5], .agg #[.int .i64 o0, .bool b0, .int .i64 m0, .string s0, .string t0, .string i0, K0]] (by rfl) rfl rfl gm_ ?_
  refine (HA.out _ HX.out.be).mono ?_
  rintro e w4 ⟨rfl, hb⟩
  refine ⟨_, rfl, ?_⟩
  replace HX := Aside0.mk (HX.out.step hb)
  clear hb
  refine hK.out _ _ (HS0.out _ HX.out) (fun hHeld => ?_)
  clear hK K
  refine norm_ (a' := ?_) ?_ ?_
  rotate_left
  · show Act.put _ (some 15) _ = _
    simp only [Act.put, List.setIfInBounds_toArray, List.set_cons_zero, List.set_cons_succ, i64_w, i32_w]
    rfl
  refine pS_ 6 9 (fa 11 127) HT_ ?_
  refine pS_ 7 16 (fa 11 255) HT_ ?_
  refine pS_ 8 17 (fa 11 511) HT_ ?_
  refine pS_ 9 6 (fa 11 1023) HT_ ?_
  refine pS_ 10 7 (fa 11 2047) HT_ ?_
  refine done_ (done_of HT_.out (by kernel_rfl)) ?_
  have y0 : w4.cell? ⟨w.heap.size + 1, 0, none⟩ = some (.int .i64 23) := (blk_cell HX.out.b1 0).trans rfl
  go_wp2_with (go_at_call 115; refine (back_tr _ _).mono ?_; rintro e w5 ⟨rfl, hb⟩; replace HX := Aside0.mk (HX.out.step hb); clear hb; obtain ⟨q0, q1, q2, q3, q4, q5, q6⟩ := cells7 HX.out.b2; obtain ⟨f0, f1, f2, f3, f4, f5, f6⟩ := froz7 HX.out.b2)
  (try simp only [Exit.inBlock, Exit.then])
  refine bodyPost_ret (results_row_tmp rfl _ _ (w.heap.size + 2) 55 _ (0, 0) _ rfl (set7_blk HX.out.b2 _ _ _ _ _ _ _) Try.underlying55 rfl (by kernel_rfl)) rfl ?_
  exact ⟨rfl, set7_below HX.out.be (by omega) _ _ _ _ _ _ _⟩
set_option maxRecDepth 100000 in
set_option maxHeartbeats 16000000 in
theorem expr_and (A : Option Addr) (n c : Nat) (p0 p1 p2 p3 p4 p5 : ByteArray) (b : Bool) (m : Int) (s t i : ByteArray) (g kc : Nat) (o0 : Int) (b0 : Bool) (m0 : Int) (s0 t0 i0 : ByteArray) (K0 : Value) (o1 : Int) (b1 : Bool) (m1 : Int) (s1 t1 i1 : ByteArray) (K1 : Value) (m' : Int) (s' t' i' : ByteArray) (W0 : World) (hk : W0.heap[g]? = some (.cells #[.int .i64 o0, .bool b0, .int .i64 m0, .string s0, .string t0, .string i0, K0, .int .i64 o1, .bool b1, .int .i64 m1, .string s1, .string t1, .string i1, K1] 72 (0, 0))) (h0 : Says (.agg #[.slice A n c, .string p0, .string p1, .string p2, .string p3, .string p4, .string p5]) (.agg #[.int .i64 o0, .bool b0, .int .i64 m0, .string s0, .string t0, .string i0, K0]) ⟨1, false, m', s', t', i'⟩ 0 W0) : Says (.agg #[.slice A n c, .string p0, .string p1, .string p2, .string p3, .string p4, .string p5]) (.agg #[.int .i64 23, .bool b, .int .i64 m, .string s, .string t, .string i, .slice (some ⟨g, 0, none⟩) 2 kc]) ⟨1, false, 0, ⟨#[]⟩, ⟨#[]⟩, ⟨#[]⟩⟩ 0 W0 := by
  intro w hw
  have HC : Aside0 (∀ W, Below w.heap.size w W → Calls Try.prog 94 #[.agg #[.slice A n c, .string p0, .string p1, .string p2, .string p3, .string p4, .string p5], .agg #[.int .i64 23, .bool b, .int .i64 m, .string s, .string t, .string i, .slice (some ⟨g, 0, none⟩) 2 kc]] W fun e w' => e = .returned (.tuple #[.agg #[.int .i64 1, .bool false, .int .i64 0, .string ⟨#[]⟩, .string ⟨#[]⟩, .string ⟨#[]⟩, .slice none 0 0], .int .i64 0]) ∧ Below W.heap.size W w') := ⟨fun W hW => choice_and A n c p0 p1 p2 p3 p4 p5 b m s t i g kc o0 b0 m0 s0 t0 i0 K0 o1 b1 m1 s1 t1 i1 K1 m' s' t' i' W0 hk h0 W (below_step hw hW)⟩
  have HX := Aside0.mk (XB.new w #[.slice A n c, .string p0, .string p1, .string p2, .string p3, .string p4, .string p5] #[.int .i64 23, .bool b, .int .i64 m, .string s, .string t, .string i, .slice (some ⟨g, 0, none⟩) 2 kc])
  clear h0 hk hw
  unfold GivF
  go_enter Try.func71, Try.ntmps71
  go_wp2_with (go_at_call 94; refine (HC.out _ HX.out.be).mono ?_; rintro e w1 ⟨rfl, hb⟩; have HX1 := Aside0.mk (HX.out.step hb); clear hb; obtain ⟨q0, q1, q2, q3, q4, q5, q6⟩ := cells7 HX1.out.b2; obtain ⟨f0, f1, f2, f3, f4, f5, f6⟩ := froz7 HX1.out.b2)
  (try simp only [Exit.inBlock, Exit.then])
  refine bodyPost_ret (results_row_tmp rfl _ _ (w.heap.size + 2) 55 _ (0, 0) _ rfl (set7_blk HX1.out.b2 _ _ _ _ _ _ _) Try.underlying55 rfl (by kernel_rfl)) rfl ?_
  exact ⟨rfl, set7_below HX1.out.be (by omega) _ _ _ _ _ _ _⟩
set_option maxRecDepth 100000 in
set_option maxHeartbeats 16000000 in
theorem Expr_calls (A : Option Addr) (n c : Nat) (p0 p1 p2 p3 p4 p5 : ByteArray) (o : Int) (b : Bool) (m : Int) (s t i : ByteArray) (K : Value) (r : Fl) (er : Int) (w : World) (h0 : Says (.agg #[.slice A n c, .string p0, .string p1, .string p2, .string p3, .string p4, .string p5]) (.agg #[.int .i64 o, .bool b, .int .i64 m, .string s, .string t, .string i, K]) r er w) : Calls Try.prog 43 #[.slice A n c, .agg #[.string p0, .string p1, .string p2, .string p3, .string p4, .string p5], .agg #[.int .i64 o, .bool b, .int .i64 m, .string s, .string t, .string i, K]] w (GivF w r er) := by
  have HC : Aside0 (∀ W, Below w.heap.size w W → Calls Try.prog 71 #[.agg #[.slice A n c, .string p0, .string p1, .string p2, .string p3, .string p4, .string p5], .agg #[.int .i64 o, .bool b, .int .i64 m, .string s, .string t, .string i, K]] W (GivF W r er)) := ⟨h0⟩
  clear h0
  unfold GivF
  go_enter Try.func43, Try.ntmps43
  go_wp2_with (go_at_call 71; refine (HC.out _ ?hB).mono ?_; (case hB => repeat (first | exact Below.refl _ _ | apply below_alloc)); rintro e w1 ⟨rfl, hb⟩; have HB : Aside0 (Below w.heap.size w w1) := ⟨below_step (by repeat (first | exact Below.refl _ _ | apply below_alloc)) hb⟩; have HZ : Aside0 (w1.heap[w.heap.size + 2]? = some zO) := ⟨by refine blk_below ?_ hb; exact bn3 _ _ _ _⟩; clear hb; obtain ⟨q0, q1, q2, q3, q4, q5, q6⟩ := cells7 HZ.out; obtain ⟨f0, f1, f2, f3, f4, f5, f6⟩ := froz7 HZ.out)
  (try simp only [Exit.inBlock, Exit.then])
  refine bodyPost_ret (results_row_tmp rfl _ _ (w.heap.size + 2) 55 _ (0, 0) _ rfl (set7_blk HZ.out _ _ _ _ _ _ _) Try.underlying55 rfl (by kernel_rfl)) rfl ?_
  exact ⟨rfl, set7_below HB.out (by omega) _ _ _ _ _ _ _⟩
end Go.Proofs.Ytelibndkkokadaa.EV
namespace Go.Proofs.Ytelibndkkokadaa.EV
open Go.RowKit Go.Proofs.YtelibndkkokadaaW.PrintWords Go.Proofs.YtelibndkkokadaaW.PrintLast Go.Proofs.Ytelibndkkokadaa.HandV Go.Proofs.YtelibndkkokadaaW.PrintMore
open Go.Proofs.Ytelibndkkokadaa.GB
attribute [local go_sem] max2_int min2_int max_two min_two max_three min_three max_four min_four   -- for this text's walks alone
set_option linter.unusedVariables false
set_option linter.unusedSimpArgs false
-- IMPORT .EV6
-- IMPORT .Sqz
-- IMPORT Derived.Deep.RegionWith
-- IMPORT Derived.Deep.CutRange
/-- The boxes of known. -/
structure KS (w W : World) : Prop where
  b1 : W.heap[w.heap.size]? = some (.cells #[.int .i64 1, .bool false, .int .i64 0, .string ⟨#[]⟩, .string ⟨#[]⟩, .string ⟨#[]⟩, .slice none 0 0] 72 (0, 0))
  bk : W.heap[w.heap.size + 1]? = some (.cells #[.int .i64 2, .bool false, .int .i64 1, .string ⟨#[]⟩, .string ⟨#[]⟩, .string ⟨#[]⟩, .slice none 0 0, .int .i64 1, .bool true, .int .i64 0, .string ⟨#[]⟩, .string ⟨#[]⟩, .string ⟨#[]⟩, .slice none 0 0] 72 (0, 0))
  b2 : W.heap[w.heap.size + 2]? = some (.cells #[.int .i64 14, .bool false, .int .i64 0, .string ⟨#[]⟩, .string ⟨#[]⟩, .string ⟨#[]⟩, .slice (some ⟨w.heap.size + 1, 0, none⟩) 2 2] 72 (0, 0))
  be : Below w.heap.size w W
theorem KS.step {w W W' : World} (h : KS w W) (hb : Below W.heap.size W W') : KS w W' := ⟨blk_below h.b1 hb, blk_below h.bk hb, blk_below h.b2 hb, below_step h.be hb⟩
theorem KS.alloc {w W : World} (h : KS w W) (o : Obj) : KS w (W.alloc o) := h.step (below_alloc (Below.refl _ _) o)
theorem says_bad {w W : World} (h : KS w W) : Says (.agg #[.slice none 0 0, .string ⟨#[]⟩, .string ⟨#[]⟩, .string ⟨#[]⟩, .string ⟨#[]⟩, .string ⟨#[]⟩, .string ⟨#[]⟩]) (.agg #[.int .i64 14, .bool false, .int .i64 0, .string ⟨#[]⟩, .string ⟨#[]⟩, .string ⟨#[]⟩, .slice (some ⟨w.heap.size + 1, 0, none⟩) 2 2]) ⟨0, false, 0, ⟨#[]⟩, ⟨#[]⟩, ⟨#[]⟩⟩ 16 W :=
  expr_two none 0 0 ⟨#[]⟩ ⟨#[]⟩ ⟨#[]⟩ ⟨#[]⟩ ⟨#[]⟩ ⟨#[]⟩ 14 false 0 ⟨#[]⟩ ⟨#[]⟩ ⟨#[]⟩ (w.heap.size + 1) 2 2 false 1 ⟨#[]⟩ ⟨#[]⟩ ⟨#[]⟩ (.slice none 0 0) 1 true 0 ⟨#[]⟩ ⟨#[]⟩ ⟨#[]⟩ (.slice none 0 0) ⟨2, false, 1, ⟨#[]⟩, ⟨#[]⟩, ⟨#[]⟩⟩ ⟨1, true, 0, ⟨#[]⟩, ⟨#[]⟩, ⟨#[]⟩⟩ ⟨0, false, 0, ⟨#[]⟩, ⟨#[]⟩, ⟨#[]⟩⟩ 16 (by decide) (by decide) W h.bk
    (expr_leaf none 0 0 ⟨#[]⟩ ⟨#[]⟩ ⟨#[]⟩ ⟨#[]⟩ ⟨#[]⟩ ⟨#[]⟩ 2 false 1 ⟨#[]⟩ ⟨#[]⟩ ⟨#[]⟩ (.slice none 0 0) ⟨2, false, 1, ⟨#[]⟩, ⟨#[]⟩, ⟨#[]⟩⟩ (by decide) (fun W => leaf_long none 0 0 ⟨#[]⟩ ⟨#[]⟩ ⟨#[]⟩ ⟨#[]⟩ ⟨#[]⟩ ⟨#[]⟩ false 1 ⟨#[]⟩ ⟨#[]⟩ ⟨#[]⟩ (.slice none 0 0) W) _)
    (expr_leaf none 0 0 ⟨#[]⟩ ⟨#[]⟩ ⟨#[]⟩ ⟨#[]⟩ ⟨#[]⟩ ⟨#[]⟩ 1 true 0 ⟨#[]⟩ ⟨#[]⟩ ⟨#[]⟩ (.slice none 0 0) ⟨1, true, 0, ⟨#[]⟩, ⟨#[]⟩, ⟨#[]⟩⟩ (by decide) (fun W => leaf_bool none 0 0 ⟨#[]⟩ ⟨#[]⟩ ⟨#[]⟩ ⟨#[]⟩ ⟨#[]⟩ ⟨#[]⟩ true 0 ⟨#[]⟩ ⟨#[]⟩ ⟨#[]⟩ (.slice none 0 0) W) _)
    (double_type none 0 0 ⟨#[]⟩ ⟨#[]⟩ ⟨#[]⟩ ⟨#[]⟩ ⟨#[]⟩ ⟨#[]⟩ false 1 ⟨#[]⟩ ⟨#[]⟩ ⟨#[]⟩ true 0 ⟨#[]⟩ ⟨#[]⟩ ⟨#[]⟩ W)
set_option maxRecDepth 100000 in
set_option maxHeartbeats 16000000 in
theorem known13_calls (w : World) : Calls Try.prog 41 #[] w fun e w' => e = .returned (.bool true) ∧ Below w.heap.size w w' := by
  have HX : Aside0 (KS w (((w.alloc (.cells #[.int .i64 1, .bool false, .int .i64 0, .string ⟨#[]⟩, .string ⟨#[]⟩, .string ⟨#[]⟩, .slice none 0 0] 72)).alloc (.cells #[.int .i64 2, .bool false, .int .i64 1, .string ⟨#[]⟩, .string ⟨#[]⟩, .string ⟨#[]⟩, .slice none 0 0, .int .i64 1, .bool true, .int .i64 0, .string ⟨#[]⟩, .string ⟨#[]⟩, .string ⟨#[]⟩, .slice none 0 0] 72)).alloc (.cells #[.int .i64 14, .bool false, .int .i64 0, .string ⟨#[]⟩, .string ⟨#[]⟩, .string ⟨#[]⟩, .slice (some ⟨w.heap.size + 1, 0, none⟩) 2 2] 72))) := ⟨⟨blk_alloc (blk_alloc (blk_new _ _) _) _, blk_alloc (bn2 _ _ _) _, bn3 _ _ _ _, below_alloc (below_alloc (below_alloc (Below.refl _ _) _) _) _⟩⟩
  go_enter Try.func41, Try.ntmps41
  go_upto_region 3 with (fail)
  generalize ((w.alloc (.cells #[.int .i64 1, .bool false, .int .i64 0, .string ⟨#[]⟩, .string ⟨#[]⟩, .string ⟨#[]⟩, .slice none 0 0] 72)).alloc (.cells #[.int .i64 2, .bool false, .int .i64 1, .string ⟨#[]⟩, .string ⟨#[]⟩, .string ⟨#[]⟩, .slice none 0 0, .int .i64 1, .bool true, .int .i64 0, .string ⟨#[]⟩, .string ⟨#[]⟩, .string ⟨#[]⟩, .slice none 0 0] 72)).alloc (.cells #[.int .i64 14, .bool false, .int .i64 0, .string ⟨#[]⟩, .string ⟨#[]⟩, .string ⟨#[]⟩, .slice (some ⟨w.heap.size + 1, 0, none⟩) 2 2] 72) = w3 at HX ⊢
  obtain ⟨q0, q1, q2, q3, q4, q5, q6⟩ := cells7 HX.out.b1
  obtain ⟨r0, r1, r2, r3, r4, r5, r6⟩ := cells7 HX.out.b2
  have HC1 : Aside0 (∀ W g, W.heap[g]? = some (.cells #[.int .i64 1, .bool false, .int .i64 0, .string ⟨#[]⟩, .string ⟨#[]⟩, .string ⟨#[]⟩, .slice none 0 0, .int .i64 14, .bool false, .int .i64 0, .string ⟨#[]⟩, .string ⟨#[]⟩, .string ⟨#[]⟩, .slice (some ⟨w.heap.size + 1, 0, none⟩) 2 2] 72 (0, 0)) → Calls Try.prog 43 #[.slice none 0 0, .agg #[.string ⟨#[]⟩, .string ⟨#[]⟩, .string ⟨#[]⟩, .string ⟨#[]⟩, .string ⟨#[]⟩, .string ⟨#[]⟩], .agg #[.int .i64 23, .bool false, .int .i64 0, .string ⟨#[]⟩, .string ⟨#[]⟩, .string ⟨#[]⟩, .slice (some ⟨g, 0, none⟩) 2 2]] W fun e w' => e = .returned (.tuple #[.agg #[.int .i64 1, .bool false, .int .i64 0, .string ⟨#[]⟩, .string ⟨#[]⟩, .string ⟨#[]⟩, .slice none 0 0], .int .i64 0]) ∧ Below W.heap.size W w') := ⟨fun W g hk => Expr_calls none 0 0 ⟨#[]⟩ ⟨#[]⟩ ⟨#[]⟩ ⟨#[]⟩ ⟨#[]⟩ ⟨#[]⟩ 23 false 0 ⟨#[]⟩ ⟨#[]⟩ ⟨#[]⟩ (.slice (some ⟨g, 0, none⟩) 2 2) ⟨1, false, 0, ⟨#[]⟩, ⟨#[]⟩, ⟨#[]⟩⟩ 0 W (expr_and none 0 0 ⟨#[]⟩ ⟨#[]⟩ ⟨#[]⟩ ⟨#[]⟩ ⟨#[]⟩ ⟨#[]⟩ false 0 ⟨#[]⟩ ⟨#[]⟩ ⟨#[]⟩ g 2 1 false 0 ⟨#[]⟩ ⟨#[]⟩ ⟨#[]⟩ (.slice none 0 0) 14 false 0 ⟨#[]⟩ ⟨#[]⟩ ⟨#[]⟩ (.slice (some ⟨w.heap.size + 1, 0, none⟩) 2 2) 0 ⟨#[]⟩ ⟨#[]⟩ ⟨#[]⟩ W hk (expr_leaf none 0 0 ⟨#[]⟩ ⟨#[]⟩ ⟨#[]⟩ ⟨#[]⟩ ⟨#[]⟩ ⟨#[]⟩ 1 false 0 ⟨#[]⟩ ⟨#[]⟩ ⟨#[]⟩ (.slice none 0 0) ⟨1, false, 0, ⟨#[]⟩, ⟨#[]⟩, ⟨#[]⟩⟩ (by decide) (fun W => leaf_bool none 0 0 ⟨#[]⟩ ⟨#[]⟩ ⟨#[]⟩ ⟨#[]⟩ ⟨#[]⟩ ⟨#[]⟩ false 0 ⟨#[]⟩ ⟨#[]⟩ ⟨#[]⟩ (.slice none 0 0) W) _))⟩
  have HC2 : Aside0 (∀ W, KS w W → Calls Try.prog 43 #[.slice none 0 0, .agg #[.string ⟨#[]⟩, .string ⟨#[]⟩, .string ⟨#[]⟩, .string ⟨#[]⟩, .string ⟨#[]⟩, .string ⟨#[]⟩], .agg #[.int .i64 14, .bool false, .int .i64 0, .string ⟨#[]⟩, .string ⟨#[]⟩, .string ⟨#[]⟩, .slice (some ⟨w.heap.size + 1, 0, none⟩) 2 2]] W fun e w' => e = .returned (.tuple #[.agg #[.int .i64 0, .bool false, .int .i64 0, .string ⟨#[]⟩, .string ⟨#[]⟩, .string ⟨#[]⟩, .slice none 0 0], .int .i64 16]) ∧ Below W.heap.size W w') := ⟨fun W h => Expr_calls none 0 0 ⟨#[]⟩ ⟨#[]⟩ ⟨#[]⟩ ⟨#[]⟩ ⟨#[]⟩ ⟨#[]⟩ 14 false 0 ⟨#[]⟩ ⟨#[]⟩ ⟨#[]⟩ (.slice (some ⟨w.heap.size + 1, 0, none⟩) 2 2) ⟨0, false, 0, ⟨#[]⟩, ⟨#[]⟩, ⟨#[]⟩⟩ 16 W (says_bad h)⟩
  go_upto_region 4 with (go_at_call 43; refine (HC1.out _ _ (blk_new _ _)).mono ?_; rintro e w4 ⟨rfl, hb⟩; have HX4 := Aside0.mk ((HX.out.alloc _).step hb); clear hb q0 q1 q2 q3 q4 q5 q6 r0 r1 r2 r3 r4 r5 r6)
  have HX5 : Aside0 (KS w (w4.alloc (.cells #[.int .i64 1, .bool false, .int .i64 0, .string ⟨#[]⟩, .string ⟨#[]⟩, .string ⟨#[]⟩, .slice none 0 0] 55))) := ⟨HX4.out.alloc _⟩
  have H3 : Aside0 ((w4.alloc (.cells #[.int .i64 1, .bool false, .int .i64 0, .string ⟨#[]⟩, .string ⟨#[]⟩, .string ⟨#[]⟩, .slice none 0 0] 55)).heap[w4.heap.size]? = some (.cells #[.int .i64 1, .bool false, .int .i64 0, .string ⟨#[]⟩, .string ⟨#[]⟩, .string ⟨#[]⟩, .slice none 0 0] 55 (0, 0))) := ⟨blk_new _ _⟩
  generalize w4.alloc (.cells #[.int .i64 1, .bool false, .int .i64 0, .string ⟨#[]⟩, .string ⟨#[]⟩, .string ⟨#[]⟩, .slice none 0 0] 55) = w5 at HX5 H3 ⊢
  generalize w4.heap.size = g3 at H3 ⊢
  clear HX4 HX HC1
  obtain ⟨r0, r1, r2, r3, r4, r5, r6⟩ := cells7 HX5.out.b2
  go_wp2_with (go_at_call 43; refine (HC2.out _ HX5.out).mono ?_; rintro e w6 ⟨rfl, hb⟩; have HB6 : Aside0 (Below w.heap.size w w6) := ⟨below_step HX5.out.be hb⟩; have H36 := blk_below H3.out hb; have y0 : ∀ o, (w6.alloc o).cell? ⟨g3, 0, none⟩ = some (.int .i64 1) := fun o => (blk_cell (blk_alloc H36 o) 0).trans rfl; have y1 : ∀ o, (w6.alloc o).cell? ⟨g3, 1, none⟩ = some (.bool false) := fun o => (blk_cell (blk_alloc H36 o) 1).trans rfl; clear hb H36 r0 r1 r2 r3 r4 r5 r6)
  go_ret
  exact ⟨rfl, below_alloc HB6.out _⟩
end Go.Proofs.Ytelibndkkokadaa.EV
