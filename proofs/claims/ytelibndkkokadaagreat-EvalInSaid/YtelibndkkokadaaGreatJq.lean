import Derived.Test.YtelibndkkokadaaGreatGB0
import Derived.Test.YtelibndkkokadaaGreatJn
import Derived.Test.YtelibndkkokadaaGreatSqz
import Derived.Deep.RegionWith
import Derived.Deep.CutRange
namespace Go.Proofs.YtelibndkkokadaaGreat.EV
open Go.RowKit Go.Proofs.YtelibndkkokadaaGreatW.PrintWords Go.Proofs.YtelibndkkokadaaGreatW.PrintLast Go.Proofs.YtelibndkkokadaaGreat.HandV Go.Proofs.YtelibndkkokadaaGreatW.PrintMore
open Go.Proofs.YtelibndkkokadaaGreat.GB
attribute [local go_sem] max2_int min2_int max_two min_two max_three min_three max_four min_four   -- for this text's walks alone
set_option linter.unusedVariables false
set_option linter.unusedSimpArgs false
-- IMPORT .EV7
-- IMPORT .Sqz
abbrev Vl := S39
/-- A row behind the store into another block. -/
theorem V_fin {α : Type} {d : Kd α} {e : Nat} {W : World} {n g base : Nat} {v : Value} {xs : List α} (h : Kd.V d e W n (fun q => n ≤ q) v xs) (hg : g < n) (hb : base ≤ n) (v0 v1 v2 v3 v4 v5 v6 : Value) : Kd.V d e (set7 W g v0 v1 v2 v3 v4 v5 v6) base (fun q => base ≤ q) v xs := by
  have hne : ∀ k, n ≤ k → k ≠ g := fun k hk => by omega
  exact Kd.V_lower (Kd.V_mono (Kd.V_far (p := ⟨g, 6, none⟩) (Kd.V_far (p := ⟨g, 5, none⟩) (Kd.V_far (p := ⟨g, 4, none⟩) (Kd.V_far (p := ⟨g, 3, none⟩) (Kd.V_far (p := ⟨g, 2, none⟩) (Kd.V_far (p := ⟨g, 1, none⟩) (Kd.V_far (p := ⟨g, 0, none⟩) h hne v0) hne v1) hne v2) hne v3) hne v4) hne v5) hne v6) (fun k hk => Nat.le_trans hb hk)) hb
/-- A value and an error came back, the value's row in memory of its own. -/
def Gv (W : World) (x : Vl) (er : Int) (e : Ending) (w' : World) : Prop := ∃ K : Value, e = .returned (.tuple #[.agg #[.int .i64 x.f0, .bool x.f1, .int .i64 x.f2, .string x.f3, .string x.f4.f0, .string x.f4.f1, K], .int .i64 er]) ∧ Kd.V k39 39 w' W.heap.size (fun q => W.heap.size ≤ q) K x.f5 ∧ Below W.heap.size W w'
abbrev zVl : Vl := ⟨0, false, 0, ⟨#[]⟩, ⟨⟨#[]⟩, ⟨#[]⟩⟩, []⟩
abbrev trVl (b : Bool) : Vl := ⟨1, b, 0, ⟨#[]⟩, ⟨⟨#[]⟩, ⟨#[]⟩⟩, []⟩
theorem Gv.flat {W w' : World} {x : Vl} {er : Int} (h5 : x.f5 = []) (hb : Below W.heap.size W w') : Gv W x er (.returned (.tuple #[.agg #[.int .i64 x.f0, .bool x.f1, .int .i64 x.f2, .string x.f3, .string x.f4.f0, .string x.f4.f1, .slice none 0 0], .int .i64 er])) w' := ⟨_, rfl, by rw [h5]; exact Kd.V_nil _ _ _ _ _, hb⟩
theorem b_al (w : World) (o : Obj) : Below w.heap.size w (w.alloc o) := below_alloc (Below.refl _ _) o
theorem lt_set {W : World} {g : Nat} {p : Addr} {v : Value} (h : g < W.heap.size) : g < (W.setCell p v).heap.size := by simpa [World.setCell] using h
set_option maxRecDepth 100000 in
set_option maxHeartbeats 16000000 in
theorem Expr_g (A : Option Addr) (n c : Nat) (p0 p1 p2 p3 p4 p5 : ByteArray) (o : Int) (b : Bool) (m : Int) (s t i : ByteArray) (A0 : Option Addr) (n0 c0 : Nat) (r : Vl) (er : Int) (w : World) (h0 : ∀ W, Below w.heap.size w W → Calls Tryz.prog 18 #[.agg #[.slice A n c, .string p0, .string p1, .string p2, .string p3, .string p4, .string p5], .agg #[.int .i64 o, .bool b, .int .i64 m, .string s, .string t, .string i, .slice A0 n0 c0]] W (Gv W r er)) : Calls Tryz.prog 8 #[.slice A n c, .agg #[.string p0, .string p1, .string p2, .string p3, .string p4, .string p5], .agg #[.int .i64 o, .bool b, .int .i64 m, .string s, .string t, .string i, .slice A0 n0 c0]] w (Gv w r er) := by
  have HC := Aside0.mk h0
  clear h0
  go_enter Tryz.func8, Tryz.ntmps8
  go_wp2_with (go_at_call 18; refine (HC.out _ ?hB).mono ?_; (case hB => repeat (first | exact Below.refl _ _ | apply below_alloc)); rintro e w1 ⟨K, rfl, hV, hb⟩; have HV := Aside0.mk hV; obtain ⟨A8, c8, rfl⟩ := Kd.V_slice hV; have HB : Aside0 (Below w.heap.size w w1) := ⟨below_step (by repeat (first | exact Below.refl _ _ | apply below_alloc)) hb⟩; have HZ : Aside0 (w1.heap[w.heap.size + 2]? = some zO) := ⟨by refine blk_below ?_ hb; exact bn3 _ _ _ _⟩; clear hV hb; obtain ⟨q0, q1, q2, q3, q4, q5, q6⟩ := cells7 HZ.out; obtain ⟨f0, f1, f2, f3, f4, f5, f6⟩ := froz7 HZ.out)
  (try simp only [Exit.inBlock, Exit.then])
  refine bodyPost_ret (results_row_tmp rfl _ _ (w.heap.size + 2) 39 _ (0, 0) _ rfl (set7_blk HZ.out _ _ _ _ _ _ _) Tryz.underlying39 rfl (by kernel_rfl)) rfl ?_
  exact ⟨_, rfl, V_fin HV.out (by simp) (by simp; omega) _ _ _ _ _ _ _, set7_below HB.out (by omega) _ _ _ _ _ _ _⟩
end Go.Proofs.YtelibndkkokadaaGreat.EV
namespace Go.Proofs.YtelibndkkokadaaGreat.EV
open Go.RowKit Go.Proofs.YtelibndkkokadaaGreatW.PrintWords Go.Proofs.YtelibndkkokadaaGreatW.PrintLast Go.Proofs.YtelibndkkokadaaGreat.HandV Go.Proofs.YtelibndkkokadaaGreatW.PrintMore
open Go.Proofs.YtelibndkkokadaaGreat.GB
attribute [local go_sem] max2_int min2_int max_two min_two max_three min_three max_four min_four   -- for this text's walks alone
set_option linter.unusedVariables false
set_option linter.unusedSimpArgs false
-- IMPORT .EI0
-- IMPORT .Sqz
-- IMPORT Derived.Deep.RegionWith
-- IMPORT Derived.Deep.CutRange

/-- What a tree comes to, in every later world. -/
def SaysG (wv x : Value) (r : Vl) (er : Int) (W : World) : Prop := ∀ W', Below W.heap.size W W' → Calls Tryz.prog 18 #[wv, x] W' (Gv W' r er)
theorem SaysG.step {wv x : Value} {r : Vl} {er : Int} {W W' : World} (h : SaysG wv x r er W) (hb : Below W.heap.size W W') : SaysG wv x r er W' := fun W2 h2 => h W2 (below_step hb h2)
/-- The same of double. -/
def DSaysG (wv : Value) (op : Int) (x y r : Vl) (er : Int) (W : World) : Prop := ∀ (W' : World) (Ax Ay : Option Addr) (cx cy : Nat), Below W.heap.size W W' → x.f5.length ≤ cx → k39.C W' Ax x.f5.length x.f5 → y.f5.length ≤ cy → k39.C W' Ay y.f5.length y.f5 → Calls Tryz.prog 35 #[wv, .int .i64 op, .agg #[.int .i64 x.f0, .bool x.f1, .int .i64 x.f2, .string x.f3, .string x.f4.f0, .string x.f4.f1, .slice Ax x.f5.length cx], .agg #[.int .i64 y.f0, .bool y.f1, .int .i64 y.f2, .string y.f3, .string y.f4.f0, .string y.f4.f1, .slice Ay y.f5.length cy]] W' (Gv W' r er)
theorem DSaysG.step {wv : Value} {op : Int} {x y r : Vl} {er : Int} {W W' : World} (h : DSaysG wv op x y r er W) (hb : Below W.heap.size W W') : DSaysG wv op x y r er W' := fun W2 Ax Ay cx cy h2 => h W2 Ax Ay cx cy (below_step hb h2)
def ri9_T : Bool × List (List Nat × List Nat) := (true, [([], []), ([], []), ([1], [1]), ([2], [2]), ([3], [3]), ([0, 4], [0, 4]), ([5], [5]), ([6], [6]), ([6], [6]), ([], []), ([9, 7, 5, 0, 1, 2, 3, 4, 5, 6, 7, 9], [7, 9]), ([8, 10, 0, 1, 2, 3, 4, 5, 6, 7, 8, 9, 10], [8])])
def ri9_B : List Nat := [0, 0, 2, 6, 14, 31, 63, 127, 127, 0, 767, 2047]
theorem ri9_tab : rtab .any (opsOf Tryz.f18 9) = ri9_T := by kernel_rfl
theorem ri9_bits : waitsOk ri9_T.2 ri9_B = true := by kernel_rfl
def ri14_T : Bool × List (List Nat × List Nat) := (true, [([], []), ([], []), ([1], [1]), ([2], [2]), ([3], [3]), ([0, 4], [0, 4]), ([5], [5]), ([6], [6]), ([6], [6]), ([], []), ([9, 7, 5, 0, 1, 2, 3, 4, 5, 6, 7, 9], [7, 9]), ([8, 10, 0, 1, 2, 3, 4, 5, 6, 7, 8, 9, 10], [8])])
def ri14_B : List Nat := [0, 0, 2, 6, 14, 31, 63, 127, 127, 0, 767, 2047]
theorem ri14_tab : rtab .any (opsOf Tryz.f18 14) = ri14_T := by kernel_rfl
theorem ri14_bits : waitsOk ri14_T.2 ri14_B = true := by kernel_rfl
set_option maxRecDepth 100000 in
set_option maxHeartbeats 16000000 in
theorem expr_two_g (A : Option Addr) (n c : Nat) (p0 p1 p2 p3 p4 p5 : ByteArray) (o : Int) (eb : Bool) (m : Int) (s t i : ByteArray) (g kc : Nat) (o0 : Int) (b0 : Bool) (m0 : Int) (s0 t0 i0 : ByteArray) (A0 : Option Addr) (n0 cc0 : Nat) (o1 : Int) (b1 : Bool) (m1 : Int) (s1 t1 i1 : ByteArray) (A1 : Option Addr) (n1 cc1 : Nat) (x y r : Vl) (er : Int) (ho : 6 < o) (ho2 : o < 23) (W0 : World) (hk : W0.heap[g]? = some (.cells #[.int .i64 o0, .bool b0, .int .i64 m0, .string s0, .string t0, .string i0, .slice A0 n0 cc0, .int .i64 o1, .bool b1, .int .i64 m1, .string s1, .string t1, .string i1, .slice A1 n1 cc1] 36 (0, 0)))
    (h0 : SaysG (.agg #[.slice A n c, .string p0, .string p1, .string p2, .string p3, .string p4, .string p5]) (.agg #[.int .i64 o0, .bool b0, .int .i64 m0, .string s0, .string t0, .string i0, .slice A0 n0 cc0]) x 0 W0) (h1 : SaysG (.agg #[.slice A n c, .string p0, .string p1, .string p2, .string p3, .string p4, .string p5]) (.agg #[.int .i64 o1, .bool b1, .int .i64 m1, .string s1, .string t1, .string i1, .slice A1 n1 cc1]) y 0 W0) (hD : DSaysG (.agg #[.slice A n c, .string p0, .string p1, .string p2, .string p3, .string p4, .string p5]) o x y r er W0) : SaysG (.agg #[.slice A n c, .string p0, .string p1, .string p2, .string p3, .string p4, .string p5]) (.agg #[.int .i64 o, .bool eb, .int .i64 m, .string s, .string t, .string i, .slice (some ⟨g, 0, none⟩) 2 kc]) r er W0 := by
  intro w hw
  have c1 : decide (o < 6) = false := decide_eq_false (by omega)
  have c2 : (o == 6) = false := beq_eq_false_iff_ne.mpr (by omega)
  have c3 : decide (23 ≤ o) = false := decide_eq_false (by omega)
  have c4 : (o == 25) = false := beq_eq_false_iff_ne.mpr (by omega)
  have HH0 := Aside0.mk (h0.step hw)
  have HH1 := Aside0.mk (h1.step hw)
  have HHD := Aside0.mk (hD.step hw)
  have HX : Aside0 (XK w #[.slice A n c, .string p0, .string p1, .string p2, .string p3, .string p4, .string p5] #[.int .i64 o, .bool eb, .int .i64 m, .string s, .string t, .string i, .slice (some ⟨g, 0, none⟩) 2 kc] g #[.int .i64 o0, .bool b0, .int .i64 m0, .string s0, .string t0, .string i0, .slice A0 n0 cc0, .int .i64 o1, .bool b1, .int .i64 m1, .string s1, .string t1, .string i1, .slice A1 n1 cc1] _) := ⟨XK.new w _ _ _ g (blk_below hk hw)⟩
  clear h0 h1 hD hk hw ho ho2
  unfold SaysG at HH0 HH1
  go_enter Tryz.func18, Tryz.ntmps18
  go_upto_region 9 with (fail)
  generalize ((w.alloc (.cells #[.slice A n c, .string p0, .string p1, .string p2, .string p3, .string p4, .string p5] 70)).alloc (.cells #[.int .i64 o, .bool eb, .int .i64 m, .string s, .string t, .string i, .slice (some ⟨g, 0, none⟩) 2 kc] 36)).alloc (.cells #[.int .i64 0, .bool false, .int .i64 0, .string ⟨#[]⟩, .string ⟨#[]⟩, .string ⟨#[]⟩, .slice none 0 0] 39) = w3 at HX ⊢
  replace HX : Aside0 (XK w #[.slice A n c, .string p0, .string p1, .string p2, .string p3, .string p4, .string p5] #[.int .i64 o, .bool eb, .int .i64 m, .string s, .string t, .string i, .slice (some ⟨g, 0, none⟩) 2 kc] g #[.int .i64 o0, .bool b0, .int .i64 m0, .string s0, .string t0, .string i0, .slice A0 n0 cc0, .int .i64 o1, .bool b1, .int .i64 m1, .string s1, .string t1, .string i1, .slice A1 n1 cc1] w3.drew) := ⟨HX.out.step (below_drew1 (Below.refl _ _))⟩
  refine start_ (n := 12) (S := fun w' => True) (ds := []) #[false, false, false, false, false, false, false, false, false, false, false, false] (by kernel_rfl) rfl rfl trivial (fun hHeld => ?_)
  refine with_tabW ri9_tab ri9_bits (fun HT_ HW_ => ?_)
  generalize w3.drew = wd at HX hHeld ⊢
  have H0 := Aside0.mk HX.out.b0
  have H1 := Aside0.mk HX.out.b1
  have HK := Aside0.mk HX.out.bk
  have KB_ := Aside0.mk (Below.refl wd.heap.size wd)
  refine inv_at [0, 1, 2, 3, 4, 5, 6, 7, 8, 9, 10, 11] (fun a0_ b a w' => ∃ (gx : Nat) (Ax : Option Addr) (cx : Nat) (m5_ : Value) (m6_ : Value) (m7_ : Value) (m9_ : Value), a = putSel a0_ b [(0, 64, .agg #[.slice A n c, .string p0, .string p1, .string p2, .string p3, .string p4, .string p5]), (1, 65, .pointer (some ⟨w.heap.size + 1, 6, none⟩)), (2, 66, .slice (some ⟨g, 0, none⟩) 2 kc), (3, 67, .pointer (some ⟨g, 0, none⟩)), (4, 68, .agg #[.int .i64 o0, .bool b0, .int .i64 m0, .string s0, .string t0, .string i0, .slice A0 n0 cc0]), (5, 69, m5_), (6, 63, m6_), (7, 70, m7_), (8, 71, .int .i64 0), (9, 6, m9_), (11, 7, .int .i64 0)] ∧ (Below wd.heap.size wd w') ∧ (b 9 = true → wd.heap.size ≤ gx) ∧ (b 9 = true → gx < w'.heap.size) ∧ (b 9 = true → b 10 = false → w'.heap[gx]? = some (.cells #[.int .i64 0, .bool false, .int .i64 0, .string ⟨#[]⟩, .string ⟨#[]⟩, .string ⟨#[]⟩, .slice none 0 0] 39 (0, 0))) ∧ (b 10 = true → w'.heap[gx]? = some (.cells #[.int .i64 x.f0, .bool x.f1, .int .i64 x.f2, .string x.f3, .string x.f4.f0, .string x.f4.f1, .slice Ax x.f5.length cx] 39 (0, 0))) ∧ (b 5 = true → Kd.V k39 39 w' 0 (fun q => wd.heap.size ≤ q) (.slice Ax x.f5.length cx) x.f5) ∧ (b 5 = true → b 9 = true → Kd.V k39 39 w' 0 (fun q => wd.heap.size ≤ q ∧ q ≠ gx) (.slice Ax x.f5.length cx) x.f5) ∧ (b 5 = true → (m5_ : Value) = .tuple #[.agg #[.int .i64 x.f0, .bool x.f1, .int .i64 x.f2, .string x.f3, .string x.f4.f0, .string x.f4.f1, .slice Ax x.f5.length cx], .int .i64 0]) ∧ (b 6 = true → (m6_ : Value) = .tuple #[.agg #[.int .i64 x.f0, .bool x.f1, .int .i64 x.f2, .string x.f3, .string x.f4.f0, .string x.f4.f1, .slice Ax x.f5.length cx], .int .i64 0]) ∧ (b 7 = true → (m7_ : Value) = .agg #[.int .i64 x.f0, .bool x.f1, .int .i64 x.f2, .string x.f3, .string x.f4.f0, .string x.f4.f1, .slice Ax x.f5.length cx]) ∧ (b 9 = true → (m9_ : Value) = .pointer (some ⟨gx, 0, none⟩))) HT_.out HW_.out (by kernel_rfl) (by kernel_rfl) ?_ ?_ ?_
  · exact ⟨0, none, 0, .bool false, .bool false, .bool false, .bool false, by simp only [putSel, Bool.false_eq_true, if_false], KB_.out, fun h_ => absurd h_ (by decide), fun h_ => absurd h_ (by decide), fun h_ => absurd h_ (by decide), fun h_ => absurd h_ (by decide), fun h_ => absurd h_ (by decide), fun h_ => absurd h_ (by decide), fun h_ => absurd h_ (by decide), fun h_ => absurd h_ (by decide), fun h_ => absurd h_ (by decide), fun h_ => absurd h_ (by decide)⟩
  · skip
    clear KB_
    refine steps_cons ?_ ?_
    · rintro b a w' ⟨gx, Ax, cx, m5_, m6_, m7_, m9_, ha, Q_KB_, Q_GE_gx, Q_LT_gx, Q_Z_gx, Q_F_gx, Q_HR0, Q_HR1, Q_X5_, Q_X6_, Q_X7_, Q_X9_⟩ hb_ hon hoff
      refine ⟨_, rfl, fun K hK => ?_⟩
      have e2 : a.tmps[2]? = some (.pointer (some ⟨w.heap.size, 0, none⟩)) := by rw [ha]; exact (putSel_off rfl).trans rfl
      replace ha := Aside0.mk ha
      have KB_ := Aside0.mk Q_KB_
      have c0_ : w'.cell? ⟨w.heap.size, 0, none⟩ = some (.slice A n c) := (blk_cell (blk_below H0.out KB_.out) 0).trans rfl
      have c1_ : w'.cell? ⟨w.heap.size, 1, none⟩ = some (.string p0) := (blk_cell (blk_below H0.out KB_.out) 1).trans rfl
      have c2_ : w'.cell? ⟨w.heap.size, 2, none⟩ = some (.string p1) := (blk_cell (blk_below H0.out KB_.out) 2).trans rfl
      have c3_ : w'.cell? ⟨w.heap.size, 3, none⟩ = some (.string p2) := (blk_cell (blk_below H0.out KB_.out) 3).trans rfl
      have c4_ : w'.cell? ⟨w.heap.size, 4, none⟩ = some (.string p3) := (blk_cell (blk_below H0.out KB_.out) 4).trans rfl
      have c5_ : w'.cell? ⟨w.heap.size, 5, none⟩ = some (.string p4) := (blk_cell (blk_below H0.out KB_.out) 5).trans rfl
      have c6_ : w'.cell? ⟨w.heap.size, 6, none⟩ = some (.string p5) := (blk_cell (blk_below H0.out KB_.out) 6).trans rfl
      refine value_ (w1 := w') (v := .agg #[.slice A n c, .string p0, .string p1, .string p2, .string p3, .string p4, .string p5]) (by rfl) rfl ?_ ?_
      · go_simp
        (try simp only [i64_w])
        try rfl
      refine hK.out _ _ ⟨gx, Ax, cx, m5_, m6_, m7_, m9_, (by rw [ha.out]; exact putSel_upk 0 hb_ rfl rfl rfl), Q_KB_, Q_GE_gx, Q_LT_gx, Q_Z_gx, fun h0_ => absurd ((hoff 10 (by kernel_rfl)).symm.trans h0_) (by decide), fun h0_ => absurd ((hoff 5 (by kernel_rfl)).symm.trans h0_) (by decide), fun h0_ _ => absurd ((hoff 5 (by kernel_rfl)).symm.trans h0_) (by decide), fun h0_ => absurd ((hoff 5 (by kernel_rfl)).symm.trans h0_) (by decide), fun h0_ => absurd ((hoff 6 (by kernel_rfl)).symm.trans h0_) (by decide), fun h0_ => absurd ((hoff 7 (by kernel_rfl)).symm.trans h0_) (by decide), Q_X9_⟩
    refine steps_cons ?_ ?_
    · rintro b a w' ⟨gx, Ax, cx, m5_, m6_, m7_, m9_, ha, Q_KB_, Q_GE_gx, Q_LT_gx, Q_Z_gx, Q_F_gx, Q_HR0, Q_HR1, Q_X5_, Q_X6_, Q_X7_, Q_X9_⟩ hb_ hon hoff
      refine ⟨_, rfl, fun K hK => ?_⟩
      have e3 : a.tmps[3]? = some (.pointer (some ⟨w.heap.size + 1, 0, none⟩)) := by rw [ha]; exact (putSel_off rfl).trans rfl
      replace ha := Aside0.mk ha
      have KB_ := Aside0.mk Q_KB_
      refine value_ (w1 := w') (v := .pointer (some ⟨w.heap.size + 1, 6, none⟩)) (by rfl) rfl ?_ ?_
      · go_simp
        (try simp only [i64_w])
        try rfl
      refine hK.out _ _ ⟨gx, Ax, cx, m5_, m6_, m7_, m9_, (by rw [ha.out]; exact putSel_upk 1 hb_ rfl rfl rfl), Q_KB_, Q_GE_gx, Q_LT_gx, Q_Z_gx, fun h0_ => absurd ((hoff 10 (by kernel_rfl)).symm.trans h0_) (by decide), fun h0_ => absurd ((hoff 5 (by kernel_rfl)).symm.trans h0_) (by decide), fun h0_ _ => absurd ((hoff 5 (by kernel_rfl)).symm.trans h0_) (by decide), fun h0_ => absurd ((hoff 5 (by kernel_rfl)).symm.trans h0_) (by decide), fun h0_ => absurd ((hoff 6 (by kernel_rfl)).symm.trans h0_) (by decide), fun h0_ => absurd ((hoff 7 (by kernel_rfl)).symm.trans h0_) (by decide), Q_X9_⟩
    refine steps_cons ?_ ?_
    · rintro b a w' ⟨gx, Ax, cx, m5_, m6_, m7_, m9_, ha, Q_KB_, Q_GE_gx, Q_LT_gx, Q_Z_gx, Q_F_gx, Q_HR0, Q_HR1, Q_X5_, Q_X6_, Q_X7_, Q_X9_⟩ hb_ hon hoff
      refine ⟨_, rfl, fun K hK => ?_⟩
      have e65 : a.tmps[65]? = some (.pointer (some ⟨w.heap.size + 1, 6, none⟩)) := by rw [ha]; exact putSel_on (e := (1, 65, .pointer (some ⟨w.heap.size + 1, 6, none⟩))) 1 rfl rfl (hon 1 (by kernel_rfl)) rfl
      replace ha := Aside0.mk ha
      have KB_ := Aside0.mk Q_KB_
      have c0_ : w'.cell? ⟨w.heap.size + 1, 6, none⟩ = some (.slice (some ⟨g, 0, none⟩) 2 kc) := (blk_cell (blk_below H1.out KB_.out) 6).trans rfl
      refine value_ (w1 := w') (v := .slice (some ⟨g, 0, none⟩) 2 kc) (by rfl) rfl ?_ ?_
      · go_simp
        (try simp only [i64_w])
        try rfl
      refine hK.out _ _ ⟨gx, Ax, cx, m5_, m6_, m7_, m9_, (by rw [ha.out]; exact putSel_upk 2 hb_ rfl rfl rfl), Q_KB_, Q_GE_gx, Q_LT_gx, Q_Z_gx, fun h0_ => absurd ((hoff 10 (by kernel_rfl)).symm.trans h0_) (by decide), fun h0_ => absurd ((hoff 5 (by kernel_rfl)).symm.trans h0_) (by decide), fun h0_ _ => absurd ((hoff 5 (by kernel_rfl)).symm.trans h0_) (by decide), fun h0_ => absurd ((hoff 5 (by kernel_rfl)).symm.trans h0_) (by decide), fun h0_ => absurd ((hoff 6 (by kernel_rfl)).symm.trans h0_) (by decide), fun h0_ => absurd ((hoff 7 (by kernel_rfl)).symm.trans h0_) (by decide), Q_X9_⟩
    refine steps_cons ?_ ?_
    · rintro b a w' ⟨gx, Ax, cx, m5_, m6_, m7_, m9_, ha, Q_KB_, Q_GE_gx, Q_LT_gx, Q_Z_gx, Q_F_gx, Q_HR0, Q_HR1, Q_X5_, Q_X6_, Q_X7_, Q_X9_⟩ hb_ hon hoff
      refine ⟨_, rfl, fun K hK => ?_⟩
      have e66 : a.tmps[66]? = some (.slice (some ⟨g, 0, none⟩) 2 kc) := by rw [ha]; exact putSel_on (e := (2, 66, .slice (some ⟨g, 0, none⟩) 2 kc)) 2 rfl rfl (hon 2 (by kernel_rfl)) rfl
      replace ha := Aside0.mk ha
      have KB_ := Aside0.mk Q_KB_
      refine value_ (w1 := w') (v := .pointer (some ⟨g, 0, none⟩)) (by rfl) rfl ?_ ?_
      · go_simp
        (try simp only [i64_w])
        try rfl
      refine hK.out _ _ ⟨gx, Ax, cx, m5_, m6_, m7_, m9_, (by rw [ha.out]; exact putSel_upk 3 hb_ rfl rfl rfl), Q_KB_, Q_GE_gx, Q_LT_gx, Q_Z_gx, fun h0_ => absurd ((hoff 10 (by kernel_rfl)).symm.trans h0_) (by decide), fun h0_ => absurd ((hoff 5 (by kernel_rfl)).symm.trans h0_) (by decide), fun h0_ _ => absurd ((hoff 5 (by kernel_rfl)).symm.trans h0_) (by decide), fun h0_ => absurd ((hoff 5 (by kernel_rfl)).symm.trans h0_) (by decide), fun h0_ => absurd ((hoff 6 (by kernel_rfl)).symm.trans h0_) (by decide), fun h0_ => absurd ((hoff 7 (by kernel_rfl)).symm.trans h0_) (by decide), Q_X9_⟩
    refine steps_cons ?_ ?_
    · rintro b a w' ⟨gx, Ax, cx, m5_, m6_, m7_, m9_, ha, Q_KB_, Q_GE_gx, Q_LT_gx, Q_Z_gx, Q_F_gx, Q_HR0, Q_HR1, Q_X5_, Q_X6_, Q_X7_, Q_X9_⟩ hb_ hon hoff
      refine ⟨_, rfl, fun K hK => ?_⟩
      have e67 : a.tmps[67]? = some (.pointer (some ⟨g, 0, none⟩)) := by rw [ha]; exact putSel_on (e := (3, 67, .pointer (some ⟨g, 0, none⟩))) 3 rfl rfl (hon 3 (by kernel_rfl)) rfl
      replace ha := Aside0.mk ha
      have KB_ := Aside0.mk Q_KB_
      have c0_ : w'.cell? ⟨g, 0, none⟩ = some (.int .i64 o0) := (blk_cell (blk_below HK.out KB_.out) 0).trans rfl
      have c1_ : w'.cell? ⟨g, 1, none⟩ = some (.bool b0) := (blk_cell (blk_below HK.out KB_.out) 1).trans rfl
      have c2_ : w'.cell? ⟨g, 2, none⟩ = some (.int .i64 m0) := (blk_cell (blk_below HK.out KB_.out) 2).trans rfl
      have c3_ : w'.cell? ⟨g, 3, none⟩ = some (.string s0) := (blk_cell (blk_below HK.out KB_.out) 3).trans rfl
      have c4_ : w'.cell? ⟨g, 4, none⟩ = some (.string t0) := (blk_cell (blk_below HK.out KB_.out) 4).trans rfl
      have c5_ : w'.cell? ⟨g, 5, none⟩ = some (.string i0) := (blk_cell (blk_below HK.out KB_.out) 5).trans rfl
      have c6_ : w'.cell? ⟨g, 6, none⟩ = some (.slice A0 n0 cc0) := (blk_cell (blk_below HK.out KB_.out) 6).trans rfl
      refine value_ (w1 := w') (v := .agg #[.int .i64 o0, .bool b0, .int .i64 m0, .string s0, .string t0, .string i0, .slice A0 n0 cc0]) (by rfl) rfl ?_ ?_
      · go_simp
        (try simp only [i64_w])
        try rfl
      refine hK.out _ _ ⟨gx, Ax, cx, m5_, m6_, m7_, m9_, (by rw [ha.out]; exact putSel_upk 4 hb_ rfl rfl rfl), Q_KB_, Q_GE_gx, Q_LT_gx, Q_Z_gx, fun h0_ => absurd ((hoff 10 (by kernel_rfl)).symm.trans h0_) (by decide), fun h0_ => absurd ((hoff 5 (by kernel_rfl)).symm.trans h0_) (by decide), fun h0_ _ => absurd ((hoff 5 (by kernel_rfl)).symm.trans h0_) (by decide), fun h0_ => absurd ((hoff 5 (by kernel_rfl)).symm.trans h0_) (by decide), fun h0_ => absurd ((hoff 6 (by kernel_rfl)).symm.trans h0_) (by decide), fun h0_ => absurd ((hoff 7 (by kernel_rfl)).symm.trans h0_) (by decide), Q_X9_⟩
    refine steps_cons ?_ ?_
    · rintro b a w' ⟨gx, Ax, cx, m5_, m6_, m7_, m9_, ha, Q_KB_, Q_GE_gx, Q_LT_gx, Q_Z_gx, Q_F_gx, Q_HR0, Q_HR1, Q_X5_, Q_X6_, Q_X7_, Q_X9_⟩ hb_ hon hoff
      refine ⟨_, rfl, fun K hK => ?_⟩
      have e64 : a.tmps[64]? = some (.agg #[.slice A n c, .string p0, .string p1, .string p2, .string p3, .string p4, .string p5]) := by rw [ha]; exact putSel_on (e := (0, 64, .agg #[.slice A n c, .string p0, .string p1, .string p2, .string p3, .string p4, .string p5])) 0 rfl rfl (hon 0 (by kernel_rfl)) rfl
      have e68 : a.tmps[68]? = some (.agg #[.int .i64 o0, .bool b0, .int .i64 m0, .string s0, .string t0, .string i0, .slice A0 n0 cc0]) := by rw [ha]; exact putSel_on (e := (4, 68, .agg #[.int .i64 o0, .bool b0, .int .i64 m0, .string s0, .string t0, .string i0, .slice A0 n0 cc0])) 4 rfl rfl (hon 4 (by kernel_rfl)) rfl
      replace ha := Aside0.mk ha
      have KB_ := Aside0.mk Q_KB_
      refine goes_ Tryz.func18 (by kernel_rfl) rfl #[.agg #[.slice A n c, .string p0, .string p1, .string p2, .string p3, .string p4, .string p5], .agg #[.int .i64 o0, .bool b0, .int .i64 m0, .string s0, .string t0, .string i0, .slice A0 n0 cc0]] (by rfl) rfl rfl (by first | (simp only [List.map_toArray, List.map_cons, List.map_nil, Act.eval, Array.getD_eq_getD_getElem?, Option.getD_some, e64, e68]; done) | (simp only [List.map_toArray, List.map_cons, List.map_nil, Act.eval, Array.getD_eq_getD_getElem?, Option.getD_some, e64, e68]; rfl)) ?_
      refine (HH0.out _ (below_step HX.out.be KB_.out)).mono ?_
      rintro e w2 ⟨K8, rfl, hV, hb⟩; obtain ⟨A8, c8, rfl⟩ := Kd.V_slice hV
      refine ⟨_, rfl, ?_⟩
      have z_HR0 := fun (h0_ : up b 5 5 = true) => (show Kd.V k39 39 w2 0 (fun q => wd.heap.size ≤ q) (.slice A8 x.f5.length c8) x.f5 from Kd.V_lower (Kd.V_mono hV (fun k hk => Nat.le_trans KB_.out.size hk)) (Nat.zero_le _))
      have z_HR1 := fun (h0_ : up b 5 5 = true) (h1_ : up b 5 9 = true) => (show Kd.V k39 39 w2 0 (fun q => wd.heap.size ≤ q ∧ q ≠ gx) (.slice A8 x.f5.length c8) x.f5 from Kd.V_lower (Kd.V_mono hV (fun k hk => ⟨Nat.le_trans KB_.out.size hk, by have h_ := Q_LT_gx h1_; omega⟩)) (Nat.zero_le _))
      refine hK.out _ _ ⟨gx, A8, c8, (.tuple #[.agg #[.int .i64 x.f0, .bool x.f1, .int .i64 x.f2, .string x.f3, .string x.f4.f0, .string x.f4.f1, .slice A8 x.f5.length c8], .int .i64 0]), m6_, m7_, m9_, (by rw [ha.out]; exact putSel_upk 5 hb_ rfl rfl rfl), below_step KB_.out hb, Q_GE_gx, fun h0_ => Nat.lt_of_lt_of_le (Q_LT_gx h0_) hb.size, fun h0_ h1_ => blk_below (Q_Z_gx h0_ h1_) hb, fun h0_ => absurd ((hoff 10 (by kernel_rfl)).symm.trans h0_) (by decide), fun _ => z_HR0 (by assumption), fun _ _ => z_HR1 (by assumption) (by assumption), fun _ => rfl, fun h0_ => absurd ((hoff 6 (by kernel_rfl)).symm.trans h0_) (by decide), fun h0_ => absurd ((hoff 7 (by kernel_rfl)).symm.trans h0_) (by decide), Q_X9_⟩
    refine steps_cons ?_ ?_
    · rintro b a w' ⟨gx, Ax, cx, m5_, m6_, m7_, m9_, ha, Q_KB_, Q_GE_gx, Q_LT_gx, Q_Z_gx, Q_F_gx, Q_HR0, Q_HR1, Q_X5_, Q_X6_, Q_X7_, Q_X9_⟩ hb_ hon hoff
      refine ⟨_, rfl, fun K hK => ?_⟩
      have e69 : a.tmps[69]? = some (m5_) := by rw [ha]; exact putSel_on (e := (5, 69, m5_)) 5 rfl rfl (hon 5 (by kernel_rfl)) rfl
      rw [Q_X5_ (hon 5 (by kernel_rfl))] at e69
      replace ha := Aside0.mk ha
      have KB_ := Aside0.mk Q_KB_
      have HR0 := Aside0.mk (Q_HR0 (hon 5 (by kernel_rfl)))
      refine value_ (w1 := w') (v := .tuple #[.agg #[.int .i64 x.f0, .bool x.f1, .int .i64 x.f2, .string x.f3, .string x.f4.f0, .string x.f4.f1, .slice Ax x.f5.length cx], .int .i64 0]) (by rfl) rfl ?_ ?_
      · go_simp
        (try simp only [i64_w])
        try rfl
      refine hK.out _ _ ⟨gx, Ax, cx, m5_, (.tuple #[.agg #[.int .i64 x.f0, .bool x.f1, .int .i64 x.f2, .string x.f3, .string x.f4.f0, .string x.f4.f1, .slice Ax x.f5.length cx], .int .i64 0]), m7_, m9_, (by rw [ha.out]; exact putSel_upk 6 hb_ rfl rfl rfl), Q_KB_, Q_GE_gx, Q_LT_gx, Q_Z_gx, fun h0_ => absurd ((hoff 10 (by kernel_rfl)).symm.trans h0_) (by decide), Q_HR0, Q_HR1, Q_X5_, fun _ => rfl, fun h0_ => absurd ((hoff 7 (by kernel_rfl)).symm.trans h0_) (by decide), Q_X9_⟩
    refine steps_cons ?_ ?_
    · rintro b a w' ⟨gx, Ax, cx, m5_, m6_, m7_, m9_, ha, Q_KB_, Q_GE_gx, Q_LT_gx, Q_Z_gx, Q_F_gx, Q_HR0, Q_HR1, Q_X5_, Q_X6_, Q_X7_, Q_X9_⟩ hb_ hon hoff
      refine ⟨_, rfl, fun K hK => ?_⟩
      have e63 : a.tmps[63]? = some (m6_) := by rw [ha]; exact putSel_on (e := (6, 63, m6_)) 6 rfl rfl (hon 6 (by kernel_rfl)) rfl
      rw [Q_X6_ (hon 6 (by kernel_rfl))] at e63
      replace ha := Aside0.mk ha
      have KB_ := Aside0.mk Q_KB_
      have HR0 := Aside0.mk (Q_HR0 (hon 5 (by kernel_rfl)))
      refine value_ (w1 := w') (v := .agg #[.int .i64 x.f0, .bool x.f1, .int .i64 x.f2, .string x.f3, .string x.f4.f0, .string x.f4.f1, .slice Ax x.f5.length cx]) (by rfl) rfl ?_ ?_
      · go_simp
        (try simp only [i64_w])
        try rfl
      refine hK.out _ _ ⟨gx, Ax, cx, m5_, m6_, (.agg #[.int .i64 x.f0, .bool x.f1, .int .i64 x.f2, .string x.f3, .string x.f4.f0, .string x.f4.f1, .slice Ax x.f5.length cx]), m9_, (by rw [ha.out]; exact putSel_upk 7 hb_ rfl rfl rfl), Q_KB_, Q_GE_gx, Q_LT_gx, Q_Z_gx, fun h0_ => absurd ((hoff 10 (by kernel_rfl)).symm.trans h0_) (by decide), Q_HR0, Q_HR1, Q_X5_, Q_X6_, fun _ => rfl, Q_X9_⟩
    refine steps_cons ?_ ?_
    · rintro b a w' ⟨gx, Ax, cx, m5_, m6_, m7_, m9_, ha, Q_KB_, Q_GE_gx, Q_LT_gx, Q_Z_gx, Q_F_gx, Q_HR0, Q_HR1, Q_X5_, Q_X6_, Q_X7_, Q_X9_⟩ hb_ hon hoff
      refine ⟨_, rfl, fun K hK => ?_⟩
      have e63 : a.tmps[63]? = some (m6_) := by rw [ha]; exact putSel_on (e := (6, 63, m6_)) 6 rfl rfl (hon 6 (by kernel_rfl)) rfl
      rw [Q_X6_ (hon 6 (by kernel_rfl))] at e63
      replace ha := Aside0.mk ha
      have KB_ := Aside0.mk Q_KB_
      have HR0 := Aside0.mk (Q_HR0 (hon 5 (by kernel_rfl)))
      refine value_ (w1 := w') (v := .int .i64 0) (by rfl) rfl ?_ ?_
      · go_simp
        (try simp only [i64_w])
        try rfl
      refine hK.out _ _ ⟨gx, Ax, cx, m5_, m6_, m7_, m9_, (by rw [ha.out]; exact putSel_upk 8 hb_ rfl rfl rfl), Q_KB_, Q_GE_gx, Q_LT_gx, Q_Z_gx, Q_F_gx, Q_HR0, Q_HR1, Q_X5_, Q_X6_, Q_X7_, Q_X9_⟩
    refine steps_cons ?_ ?_
    · rintro b a w' ⟨gx, Ax, cx, m5_, m6_, m7_, m9_, ha, Q_KB_, Q_GE_gx, Q_LT_gx, Q_Z_gx, Q_F_gx, Q_HR0, Q_HR1, Q_X5_, Q_X6_, Q_X7_, Q_X9_⟩ hb_ hon hoff
      refine ⟨_, rfl, fun K hK => ?_⟩
      replace ha := Aside0.mk ha
      have KB_ := Aside0.mk Q_KB_
      refine value_ (w1 := w'.alloc (.cells #[.int .i64 0, .bool false, .int .i64 0, .string ⟨#[]⟩, .string ⟨#[]⟩, .string ⟨#[]⟩, .slice none 0 0] 39)) (v := .pointer (some ⟨w'.heap.size, 0, none⟩)) (by rfl) rfl ?_ ?_
      · first | (go_simp; done) | (go_simp; rfl) | (go_simp; constructor <;> rfl)
      have hbox : (w'.alloc (.cells #[.int .i64 0, .bool false, .int .i64 0, .string ⟨#[]⟩, .string ⟨#[]⟩, .string ⟨#[]⟩, .slice none 0 0] 39)).heap[w'.heap.size]? = some (.cells #[.int .i64 0, .bool false, .int .i64 0, .string ⟨#[]⟩, .string ⟨#[]⟩, .string ⟨#[]⟩, .slice none 0 0] 39 (0, 0)) := blk_new _ _
      have hb : Below w'.heap.size w' (w'.alloc (.cells #[.int .i64 0, .bool false, .int .i64 0, .string ⟨#[]⟩, .string ⟨#[]⟩, .string ⟨#[]⟩, .slice none 0 0] 39)) := below_alloc (Below.refl _ _) _
      generalize w'.alloc (.cells #[.int .i64 0, .bool false, .int .i64 0, .string ⟨#[]⟩, .string ⟨#[]⟩, .string ⟨#[]⟩, .slice none 0 0] 39) = w2 at hbox hb ⊢
      have hle := (KB_.out).size
      generalize hg_ : w'.heap.size = gxn at hbox hle ⊢
      have z_HR1 := fun (h0_ : up b 9 5 = true) (h1_ : up b 9 9 = true) => (show Kd.V k39 39 w2 0 (fun q => wd.heap.size ≤ q ∧ q ≠ gxn) (.slice Ax x.f5.length cx) x.f5 from Kd.V_below (Kd.V_elderB (Q_HR0 h0_) _ (Nat.le_of_eq hg_)) hb)
      refine hK.out _ _ ⟨gxn, Ax, cx, m5_, m6_, m7_, (.pointer (some ⟨gxn, 0, none⟩)), (by rw [ha.out]; exact putSel_upk 9 hb_ rfl rfl rfl), below_step KB_.out hb, fun _ => hle, fun _ => blk_lt hbox, fun _ _ => hbox, fun h0_ => absurd ((hoff 10 (by kernel_rfl)).symm.trans h0_) (by decide), fun h0_ => Kd.V_below (Q_HR0 h0_) hb, fun _ _ => z_HR1 (by assumption) (by assumption), Q_X5_, Q_X6_, Q_X7_, fun _ => rfl⟩
    refine steps_cons ?_ ?_
    · rintro b a w' ⟨gx, Ax, cx, m5_, m6_, m7_, m9_, ha, Q_KB_, Q_GE_gx, Q_LT_gx, Q_Z_gx, Q_F_gx, Q_HR0, Q_HR1, Q_X5_, Q_X6_, Q_X7_, Q_X9_⟩ hb_ hon hoff
      refine ⟨_, rfl, fun K hK => ?_⟩
      have e6 : a.tmps[6]? = some (m9_) := by rw [ha]; exact putSel_on (e := (9, 6, m9_)) 9 rfl rfl (hon 9 (by kernel_rfl)) rfl
      rw [Q_X9_ (hon 9 (by kernel_rfl))] at e6
      have e70 : a.tmps[70]? = some (m7_) := by rw [ha]; exact putSel_on (e := (7, 70, m7_)) 7 rfl rfl (hon 7 (by kernel_rfl)) rfl
      rw [Q_X7_ (hon 7 (by kernel_rfl))] at e70
      replace ha := Aside0.mk ha
      have KB_ := Aside0.mk Q_KB_
      have GE_gx := Aside0.mk (Q_GE_gx (hon 9 (by kernel_rfl)))
      have LT_gx := Aside0.mk (Q_LT_gx (hon 9 (by kernel_rfl)))
      have Z_gx := Aside0.mk (Q_Z_gx (hon 9 (by kernel_rfl)) hb_)
      have HR0 := Aside0.mk (Q_HR0 (hon 5 (by kernel_rfl)))
      have HR1 := Aside0.mk (Q_HR1 (hon 5 (by kernel_rfl)) (hon 9 (by kernel_rfl)))
      have y0 : w'.cell? ⟨gx, 0, none⟩ = some (.int .i64 0) := (blk_cell Z_gx.out 0).trans rfl
      have f0 := blk_frozen Z_gx.out 0
      have y1 : w'.cell? ⟨gx, 1, none⟩ = some (.bool false) := (blk_cell Z_gx.out 1).trans rfl
      have f1 := blk_frozen Z_gx.out 1
      have y2 : w'.cell? ⟨gx, 2, none⟩ = some (.int .i64 0) := (blk_cell Z_gx.out 2).trans rfl
      have f2 := blk_frozen Z_gx.out 2
      have y3 : w'.cell? ⟨gx, 3, none⟩ = some (.string ⟨#[]⟩) := (blk_cell Z_gx.out 3).trans rfl
      have f3 := blk_frozen Z_gx.out 3
      have y4 : w'.cell? ⟨gx, 4, none⟩ = some (.string ⟨#[]⟩) := (blk_cell Z_gx.out 4).trans rfl
      have f4 := blk_frozen Z_gx.out 4
      have y5 : w'.cell? ⟨gx, 5, none⟩ = some (.string ⟨#[]⟩) := (blk_cell Z_gx.out 5).trans rfl
      have f5 := blk_frozen Z_gx.out 5
      have y6 : w'.cell? ⟨gx, 6, none⟩ = some (.slice none 0 0) := (blk_cell Z_gx.out 6).trans rfl
      have f6 := blk_frozen Z_gx.out 6
      refine skip_ (w1 := ?_) (by rfl) rfl ?_ ?_
      rotate_left
      · go_simp
        rfl
      refine hK.out _ _ ⟨gx, Ax, cx, m5_, m6_, m7_, m9_, (by rw [ha.out]; exact putSel_none (v := undef) rfl), below_set (below_set (below_set (below_set (below_set (below_set (below_set (KB_.out) GE_gx.out) GE_gx.out) GE_gx.out) GE_gx.out) GE_gx.out) GE_gx.out) GE_gx.out, Q_GE_gx, fun _ => lt_set (lt_set (lt_set (lt_set (lt_set (lt_set (lt_set (LT_gx.out))))))), fun _ h1_ => absurd ((up_self b 10).symm.trans h1_) (by decide), fun _ => blk_put (cs := #[.int .i64 x.f0, .bool x.f1, .int .i64 x.f2, .string x.f3, .string x.f4.f0, .string x.f4.f1, .slice none 0 0]) (cs' := #[.int .i64 x.f0, .bool x.f1, .int .i64 x.f2, .string x.f3, .string x.f4.f0, .string x.f4.f1, .slice Ax x.f5.length cx]) (blk_put (cs := #[.int .i64 x.f0, .bool x.f1, .int .i64 x.f2, .string x.f3, .string x.f4.f0, .string ⟨#[]⟩, .slice none 0 0]) (cs' := #[.int .i64 x.f0, .bool x.f1, .int .i64 x.f2, .string x.f3, .string x.f4.f0, .string x.f4.f1, .slice none 0 0]) (blk_put (cs := #[.int .i64 x.f0, .bool x.f1, .int .i64 x.f2, .string x.f3, .string ⟨#[]⟩, .string ⟨#[]⟩, .slice none 0 0]) (cs' := #[.int .i64 x.f0, .bool x.f1, .int .i64 x.f2, .string x.f3, .string x.f4.f0, .string ⟨#[]⟩, .slice none 0 0]) (blk_put (cs := #[.int .i64 x.f0, .bool x.f1, .int .i64 x.f2, .string ⟨#[]⟩, .string ⟨#[]⟩, .string ⟨#[]⟩, .slice none 0 0]) (cs' := #[.int .i64 x.f0, .bool x.f1, .int .i64 x.f2, .string x.f3, .string ⟨#[]⟩, .string ⟨#[]⟩, .slice none 0 0]) (blk_put (cs := #[.int .i64 x.f0, .bool x.f1, .int .i64 0, .string ⟨#[]⟩, .string ⟨#[]⟩, .string ⟨#[]⟩, .slice none 0 0]) (cs' := #[.int .i64 x.f0, .bool x.f1, .int .i64 x.f2, .string ⟨#[]⟩, .string ⟨#[]⟩, .string ⟨#[]⟩, .slice none 0 0]) (blk_put (cs := #[.int .i64 x.f0, .bool false, .int .i64 0, .string ⟨#[]⟩, .string ⟨#[]⟩, .string ⟨#[]⟩, .slice none 0 0]) (cs' := #[.int .i64 x.f0, .bool x.f1, .int .i64 0, .string ⟨#[]⟩, .string ⟨#[]⟩, .string ⟨#[]⟩, .slice none 0 0]) (blk_put (cs := #[.int .i64 0, .bool false, .int .i64 0, .string ⟨#[]⟩, .string ⟨#[]⟩, .string ⟨#[]⟩, .slice none 0 0]) (cs' := #[.int .i64 x.f0, .bool false, .int .i64 0, .string ⟨#[]⟩, .string ⟨#[]⟩, .string ⟨#[]⟩, .slice none 0 0]) (Z_gx.out) 0 _ rfl) 1 _ rfl) 2 _ rfl) 3 _ rfl) 4 _ rfl) 5 _ rfl) 6 _ rfl, fun _ => Kd.V_mono (Kd.V_far (p := ⟨gx, 6, none⟩) (Kd.V_far (p := ⟨gx, 5, none⟩) (Kd.V_far (p := ⟨gx, 4, none⟩) (Kd.V_far (p := ⟨gx, 3, none⟩) (Kd.V_far (p := ⟨gx, 2, none⟩) (Kd.V_far (p := ⟨gx, 1, none⟩) (Kd.V_far (p := ⟨gx, 0, none⟩) HR1.out (fun k hk => hk.2) _) (fun k hk => hk.2) _) (fun k hk => hk.2) _) (fun k hk => hk.2) _) (fun k hk => hk.2) _) (fun k hk => hk.2) _) (fun k hk => hk.2) _) (fun k hk => hk.1), fun _ _ => Kd.V_far (p := ⟨gx, 6, none⟩) (Kd.V_far (p := ⟨gx, 5, none⟩) (Kd.V_far (p := ⟨gx, 4, none⟩) (Kd.V_far (p := ⟨gx, 3, none⟩) (Kd.V_far (p := ⟨gx, 2, none⟩) (Kd.V_far (p := ⟨gx, 1, none⟩) (Kd.V_far (p := ⟨gx, 0, none⟩) HR1.out (fun k hk => hk.2) _) (fun k hk => hk.2) _) (fun k hk => hk.2) _) (fun k hk => hk.2) _) (fun k hk => hk.2) _) (fun k hk => hk.2) _) (fun k hk => hk.2) _, Q_X5_, Q_X6_, Q_X7_, Q_X9_⟩
    refine steps_cons ?_ ?_
    · rintro b a w' ⟨gx, Ax, cx, m5_, m6_, m7_, m9_, ha, Q_KB_, Q_GE_gx, Q_LT_gx, Q_Z_gx, Q_F_gx, Q_HR0, Q_HR1, Q_X5_, Q_X6_, Q_X7_, Q_X9_⟩ hb_ hon hoff
      refine ⟨_, rfl, fun K hK => ?_⟩
      have e71 : a.tmps[71]? = some (.int .i64 0) := by rw [ha]; exact putSel_on (e := (8, 71, .int .i64 0)) 8 rfl rfl (hon 8 (by kernel_rfl)) rfl
      replace ha := Aside0.mk ha
      have KB_ := Aside0.mk Q_KB_
      have GE_gx := Aside0.mk (Q_GE_gx (hon 9 (by kernel_rfl)))
      have LT_gx := Aside0.mk (Q_LT_gx (hon 9 (by kernel_rfl)))
      have F_gx := Aside0.mk (Q_F_gx (hon 10 (by kernel_rfl)))
      have HR0 := Aside0.mk (Q_HR0 (hon 5 (by kernel_rfl)))
      have HR1 := Aside0.mk (Q_HR1 (hon 5 (by kernel_rfl)) (hon 9 (by kernel_rfl)))
      refine value_ (w1 := w') (v := .int .i64 0) (by rfl) rfl ?_ ?_
      · go_simp
        (try simp only [i64_w])
        try rfl
      refine hK.out _ _ ⟨gx, Ax, cx, m5_, m6_, m7_, m9_, (by rw [ha.out]; exact putSel_upk 10 hb_ rfl rfl rfl), Q_KB_, Q_GE_gx, Q_LT_gx, fun _ h1_ => absurd ((hon 10 (by kernel_rfl)).symm.trans h1_) (by decide), Q_F_gx, Q_HR0, Q_HR1, Q_X5_, Q_X6_, Q_X7_, Q_X9_⟩
    exact steps_nil
  rintro b a w' hall ⟨gx, Ax, cx, m5_, m6_, m7_, m9_, ha, Q_KB_, Q_GE_gx, Q_LT_gx, Q_Z_gx, Q_F_gx, Q_HR0, Q_HR1, Q_X5_, Q_X6_, Q_X7_, Q_X9_⟩
  clear KB_
  have hb0_ := hall 0 (by kernel_rfl)
  have hb1_ := hall 1 (by kernel_rfl)
  have hb2_ := hall 2 (by kernel_rfl)
  have hb3_ := hall 3 (by kernel_rfl)
  have hb4_ := hall 4 (by kernel_rfl)
  have hb5_ := hall 5 (by kernel_rfl)
  have hb6_ := hall 6 (by kernel_rfl)
  have hb7_ := hall 7 (by kernel_rfl)
  have hb8_ := hall 8 (by kernel_rfl)
  have hb9_ := hall 9 (by kernel_rfl)
  have hb10_ := hall 10 (by kernel_rfl)
  have hb11_ := hall 11 (by kernel_rfl)
  subst ha
  obtain rfl := Q_X5_ hb5_
  obtain rfl := Q_X6_ hb6_
  obtain rfl := Q_X7_ hb7_
  obtain rfl := Q_X9_ hb9_
  simp only [putSel, hb0_, hb1_, hb2_, hb3_, hb4_, hb5_, hb6_, hb7_, hb8_, hb9_, hb10_, hb11_, if_true, Act.put, List.setIfInBounds_toArray, List.set_cons_zero, List.set_cons_succ]
  have KB_ := Aside0.mk Q_KB_
  clear Q_KB_
  have GE_gx := Aside0.mk (Q_GE_gx hb9_)
  clear Q_GE_gx
  have LT_gx := Aside0.mk (Q_LT_gx hb9_)
  clear Q_LT_gx
  clear Q_Z_gx
  have F_gx := Aside0.mk (Q_F_gx hb10_)
  clear Q_F_gx
  have HR0 := Aside0.mk (Q_HR0 hb5_)
  clear Q_HR0
  have HR1 := Aside0.mk (Q_HR1 hb5_ hb9_)
  clear Q_HR1
  clear hall hb0_ hb1_ hb2_ hb3_ hb4_ hb5_ hb6_ hb7_ hb8_ hb9_ hb10_ hb11_
  have hle : w.heap.size + 3 ≤ wd.heap.size := HX.out.le
  have hgx : Aside0 (w.heap.size + 3 ≤ gx) := ⟨by have := GE_gx.out; omega⟩
  replace HX := Aside0.mk (HX.out.step KB_.out)
  have HVx := F_gx
  have HRx : Aside0 (Kd.V k39 39 w' 0 (fun q => w.heap.size + 3 ≤ q) (.slice Ax x.f5.length cx) x.f5) := ⟨Kd.V_mono HR1.out (fun k hk => Nat.le_trans hle hk.1)⟩
  clear F_gx KB_ GE_gx LT_gx H0 H1 HK HR1 hle
  generalize w' = w4 at HX HVx HRx ⊢
  have q5 : w4.cell? ⟨w.heap.size + 1, 6, none⟩ = some (.slice (some ⟨g, 0, none⟩) 2 kc) := (blk_cell HX.out.b1 6).trans rfl
  go_upto_region 14 with (fail)
  clear q5
  replace HX : Aside0 (XK w #[.slice A n c, .string p0, .string p1, .string p2, .string p3, .string p4, .string p5] #[.int .i64 o, .bool eb, .int .i64 m, .string s, .string t, .string i, .slice (some ⟨g, 0, none⟩) 2 kc] g #[.int .i64 o0, .bool b0, .int .i64 m0, .string s0, .string t0, .string i0, .slice A0 n0 cc0, .int .i64 o1, .bool b1, .int .i64 m1, .string s1, .string t1, .string i1, .slice A1 n1 cc1] w4.drew) := ⟨HX.out.step (below_drew1 (Below.refl _ _))⟩
  replace HVx : Aside0 (w4.drew.heap[gx]? = some (.cells #[.int .i64 x.f0, .bool x.f1, .int .i64 x.f2, .string x.f3, .string x.f4.f0, .string x.f4.f1, .slice Ax x.f5.length cx] 39 (0, 0))) := ⟨blk_below HVx.out (below_drew1 (Below.refl _ _))⟩
  replace HRx : Aside0 (Kd.V k39 39 w4.drew 0 (fun q => w.heap.size + 3 ≤ q) (.slice Ax x.f5.length cx) x.f5) := ⟨Kd.V_drew HRx.out⟩
  refine start_ (n := 12) (S := fun w' => True) (ds := []) #[false, false, false, false, false, false, false, false, false, false, false, false] (by kernel_rfl) rfl rfl trivial (fun hHeld => ?_)
  refine with_tabW ri14_tab ri14_bits (fun HT_ HW_ => ?_)
  generalize w4.drew = we at HX HVx HRx hHeld ⊢
  have H0 := Aside0.mk HX.out.b0
  have H1 := Aside0.mk HX.out.b1
  have HK := Aside0.mk HX.out.bk
  have KB_ := Aside0.mk (Below.refl we.heap.size we)
  refine inv_at [0, 1, 2, 3, 4, 5, 6, 7, 8, 9, 10, 11] (fun a0_ b a w' => ∃ (gy : Nat) (Ay : Option Addr) (cy : Nat) (m5_ : Value) (m6_ : Value) (m7_ : Value) (m9_ : Value), a = putSel a0_ b [(0, 87, .agg #[.slice A n c, .string p0, .string p1, .string p2, .string p3, .string p4, .string p5]), (1, 88, .pointer (some ⟨w.heap.size + 1, 6, none⟩)), (2, 89, .slice (some ⟨g, 0, none⟩) 2 kc), (3, 90, .pointer (some ⟨g, 7, none⟩)), (4, 91, .agg #[.int .i64 o1, .bool b1, .int .i64 m1, .string s1, .string t1, .string i1, .slice A1 n1 cc1]), (5, 92, m5_), (6, 86, m6_), (7, 93, m7_), (8, 94, .int .i64 0), (9, 8, m9_), (11, 7, .int .i64 0)] ∧ (Below we.heap.size we w') ∧ (b 9 = true → we.heap.size ≤ gy) ∧ (b 9 = true → gy < w'.heap.size) ∧ (b 9 = true → b 10 = false → w'.heap[gy]? = some (.cells #[.int .i64 0, .bool false, .int .i64 0, .string ⟨#[]⟩, .string ⟨#[]⟩, .string ⟨#[]⟩, .slice none 0 0] 39 (0, 0))) ∧ (b 10 = true → w'.heap[gy]? = some (.cells #[.int .i64 y.f0, .bool y.f1, .int .i64 y.f2, .string y.f3, .string y.f4.f0, .string y.f4.f1, .slice Ay y.f5.length cy] 39 (0, 0))) ∧ (b 5 = true → Kd.V k39 39 w' 0 (fun q => we.heap.size ≤ q) (.slice Ay y.f5.length cy) y.f5) ∧ (b 5 = true → b 9 = true → Kd.V k39 39 w' 0 (fun q => we.heap.size ≤ q ∧ q ≠ gy) (.slice Ay y.f5.length cy) y.f5) ∧ (b 5 = true → (m5_ : Value) = .tuple #[.agg #[.int .i64 y.f0, .bool y.f1, .int .i64 y.f2, .string y.f3, .string y.f4.f0, .string y.f4.f1, .slice Ay y.f5.length cy], .int .i64 0]) ∧ (b 6 = true → (m6_ : Value) = .tuple #[.agg #[.int .i64 y.f0, .bool y.f1, .int .i64 y.f2, .string y.f3, .string y.f4.f0, .string y.f4.f1, .slice Ay y.f5.length cy], .int .i64 0]) ∧ (b 7 = true → (m7_ : Value) = .agg #[.int .i64 y.f0, .bool y.f1, .int .i64 y.f2, .string y.f3, .string y.f4.f0, .string y.f4.f1, .slice Ay y.f5.length cy]) ∧ (b 9 = true → (m9_ : Value) = .pointer (some ⟨gy, 0, none⟩))) HT_.out HW_.out (by kernel_rfl) (by kernel_rfl) ?_ ?_ ?_
  · exact ⟨0, none, 0, .bool false, .bool false, .bool false, .bool false, by simp only [putSel, Bool.false_eq_true, if_false], KB_.out, fun h_ => absurd h_ (by decide), fun h_ => absurd h_ (by decide), fun h_ => absurd h_ (by decide), fun h_ => absurd h_ (by decide), fun h_ => absurd h_ (by decide), fun h_ => absurd h_ (by decide), fun h_ => absurd h_ (by decide), fun h_ => absurd h_ (by decide), fun h_ => absurd h_ (by decide), fun h_ => absurd h_ (by decide)⟩
  · skip
    clear KB_
    refine steps_cons ?_ ?_
    · rintro b a w' ⟨gy, Ay, cy, m5_, m6_, m7_, m9_, ha, Q_KB_, Q_GE_gy, Q_LT_gy, Q_Z_gy, Q_F_gy, Q_HR0, Q_HR1, Q_X5_, Q_X6_, Q_X7_, Q_X9_⟩ hb_ hon hoff
      refine ⟨_, rfl, fun K hK => ?_⟩
      have e2 : a.tmps[2]? = some (.pointer (some ⟨w.heap.size, 0, none⟩)) := by rw [ha]; exact (putSel_off rfl).trans rfl
      replace ha := Aside0.mk ha
      have KB_ := Aside0.mk Q_KB_
      have c0_ : w'.cell? ⟨w.heap.size, 0, none⟩ = some (.slice A n c) := (blk_cell (blk_below H0.out KB_.out) 0).trans rfl
      have c1_ : w'.cell? ⟨w.heap.size, 1, none⟩ = some (.string p0) := (blk_cell (blk_below H0.out KB_.out) 1).trans rfl
      have c2_ : w'.cell? ⟨w.heap.size, 2, none⟩ = some (.string p1) := (blk_cell (blk_below H0.out KB_.out) 2).trans rfl
      have c3_ : w'.cell? ⟨w.heap.size, 3, none⟩ = some (.string p2) := (blk_cell (blk_below H0.out KB_.out) 3).trans rfl
      have c4_ : w'.cell? ⟨w.heap.size, 4, none⟩ = some (.string p3) := (blk_cell (blk_below H0.out KB_.out) 4).trans rfl
      have c5_ : w'.cell? ⟨w.heap.size, 5, none⟩ = some (.string p4) := (blk_cell (blk_below H0.out KB_.out) 5).trans rfl
      have c6_ : w'.cell? ⟨w.heap.size, 6, none⟩ = some (.string p5) := (blk_cell (blk_below H0.out KB_.out) 6).trans rfl
      refine value_ (w1 := w') (v := .agg #[.slice A n c, .string p0, .string p1, .string p2, .string p3, .string p4, .string p5]) (by rfl) rfl ?_ ?_
      · go_simp
        (try simp only [i64_w])
        try rfl
      refine hK.out _ _ ⟨gy, Ay, cy, m5_, m6_, m7_, m9_, (by rw [ha.out]; exact putSel_upk 0 hb_ rfl rfl rfl), Q_KB_, Q_GE_gy, Q_LT_gy, Q_Z_gy, fun h0_ => absurd ((hoff 10 (by kernel_rfl)).symm.trans h0_) (by decide), fun h0_ => absurd ((hoff 5 (by kernel_rfl)).symm.trans h0_) (by decide), fun h0_ _ => absurd ((hoff 5 (by kernel_rfl)).symm.trans h0_) (by decide), fun h0_ => absurd ((hoff 5 (by kernel_rfl)).symm.trans h0_) (by decide), fun h0_ => absurd ((hoff 6 (by kernel_rfl)).symm.trans h0_) (by decide), fun h0_ => absurd ((hoff 7 (by kernel_rfl)).symm.trans h0_) (by decide), Q_X9_⟩
    refine steps_cons ?_ ?_
    · rintro b a w' ⟨gy, Ay, cy, m5_, m6_, m7_, m9_, ha, Q_KB_, Q_GE_gy, Q_LT_gy, Q_Z_gy, Q_F_gy, Q_HR0, Q_HR1, Q_X5_, Q_X6_, Q_X7_, Q_X9_⟩ hb_ hon hoff
      refine ⟨_, rfl, fun K hK => ?_⟩
      have e3 : a.tmps[3]? = some (.pointer (some ⟨w.heap.size + 1, 0, none⟩)) := by rw [ha]; exact (putSel_off rfl).trans rfl
      replace ha := Aside0.mk ha
      have KB_ := Aside0.mk Q_KB_
      refine value_ (w1 := w') (v := .pointer (some ⟨w.heap.size + 1, 6, none⟩)) (by rfl) rfl ?_ ?_
      · go_simp
        (try simp only [i64_w])
        try rfl
      refine hK.out _ _ ⟨gy, Ay, cy, m5_, m6_, m7_, m9_, (by rw [ha.out]; exact putSel_upk 1 hb_ rfl rfl rfl), Q_KB_, Q_GE_gy, Q_LT_gy, Q_Z_gy, fun h0_ => absurd ((hoff 10 (by kernel_rfl)).symm.trans h0_) (by decide), fun h0_ => absurd ((hoff 5 (by kernel_rfl)).symm.trans h0_) (by decide), fun h0_ _ => absurd ((hoff 5 (by kernel_rfl)).symm.trans h0_) (by decide), fun h0_ => absurd ((hoff 5 (by kernel_rfl)).symm.trans h0_) (by decide), fun h0_ => absurd ((hoff 6 (by kernel_rfl)).symm.trans h0_) (by decide), fun h0_ => absurd ((hoff 7 (by kernel_rfl)).symm.trans h0_) (by decide), Q_X9_⟩
    refine steps_cons ?_ ?_
    · rintro b a w' ⟨gy, Ay, cy, m5_, m6_, m7_, m9_, ha, Q_KB_, Q_GE_gy, Q_LT_gy, Q_Z_gy, Q_F_gy, Q_HR0, Q_HR1, Q_X5_, Q_X6_, Q_X7_, Q_X9_⟩ hb_ hon hoff
      refine ⟨_, rfl, fun K hK => ?_⟩
      have e88 : a.tmps[88]? = some (.pointer (some ⟨w.heap.size + 1, 6, none⟩)) := by rw [ha]; exact putSel_on (e := (1, 88, .pointer (some ⟨w.heap.size + 1, 6, none⟩))) 1 rfl rfl (hon 1 (by kernel_rfl)) rfl
      replace ha := Aside0.mk ha
      have KB_ := Aside0.mk Q_KB_
      have c0_ : w'.cell? ⟨w.heap.size + 1, 6, none⟩ = some (.slice (some ⟨g, 0, none⟩) 2 kc) := (blk_cell (blk_below H1.out KB_.out) 6).trans rfl
      refine value_ (w1 := w') (v := .slice (some ⟨g, 0, none⟩) 2 kc) (by rfl) rfl ?_ ?_
      · go_simp
        (try simp only [i64_w])
        try rfl
      refine hK.out _ _ ⟨gy, Ay, cy, m5_, m6_, m7_, m9_, (by rw [ha.out]; exact putSel_upk 2 hb_ rfl rfl rfl), Q_KB_, Q_GE_gy, Q_LT_gy, Q_Z_gy, fun h0_ => absurd ((hoff 10 (by kernel_rfl)).symm.trans h0_) (by decide), fun h0_ => absurd ((hoff 5 (by kernel_rfl)).symm.trans h0_) (by decide), fun h0_ _ => absurd ((hoff 5 (by kernel_rfl)).symm.trans h0_) (by decide), fun h0_ => absurd ((hoff 5 (by kernel_rfl)).symm.trans h0_) (by decide), fun h0_ => absurd ((hoff 6 (by kernel_rfl)).symm.trans h0_) (by decide), fun h0_ => absurd ((hoff 7 (by kernel_rfl)).symm.trans h0_) (by decide), Q_X9_⟩
    refine steps_cons ?_ ?_
    · rintro b a w' ⟨gy, Ay, cy, m5_, m6_, m7_, m9_, ha, Q_KB_, Q_GE_gy, Q_LT_gy, Q_Z_gy, Q_F_gy, Q_HR0, Q_HR1, Q_X5_, Q_X6_, Q_X7_, Q_X9_⟩ hb_ hon hoff
      refine ⟨_, rfl, fun K hK => ?_⟩
      have e89 : a.tmps[89]? = some (.slice (some ⟨g, 0, none⟩) 2 kc) := by rw [ha]; exact putSel_on (e := (2, 89, .slice (some ⟨g, 0, none⟩) 2 kc)) 2 rfl rfl (hon 2 (by kernel_rfl)) rfl
      replace ha := Aside0.mk ha
      have KB_ := Aside0.mk Q_KB_
      refine value_ (w1 := w') (v := .pointer (some ⟨g, 7, none⟩)) (by rfl) rfl ?_ ?_
      · go_simp
        (try simp only [i64_w])
        try rfl
      refine hK.out _ _ ⟨gy, Ay, cy, m5_, m6_, m7_, m9_, (by rw [ha.out]; exact putSel_upk 3 hb_ rfl rfl rfl), Q_KB_, Q_GE_gy, Q_LT_gy, Q_Z_gy, fun h0_ => absurd ((hoff 10 (by kernel_rfl)).symm.trans h0_) (by decide), fun h0_ => absurd ((hoff 5 (by kernel_rfl)).symm.trans h0_) (by decide), fun h0_ _ => absurd ((hoff 5 (by kernel_rfl)).symm.trans h0_) (by decide), fun h0_ => absurd ((hoff 5 (by kernel_rfl)).symm.trans h0_) (by decide), fun h0_ => absurd ((hoff 6 (by kernel_rfl)).symm.trans h0_) (by decide), fun h0_ => absurd ((hoff 7 (by kernel_rfl)).symm.trans h0_) (by decide), Q_X9_⟩
    refine steps_cons ?_ ?_
    · rintro b a w' ⟨gy, Ay, cy, m5_, m6_, m7_, m9_, ha, Q_KB_, Q_GE_gy, Q_LT_gy, Q_Z_gy, Q_F_gy, Q_HR0, Q_HR1, Q_X5_, Q_X6_, Q_X7_, Q_X9_⟩ hb_ hon hoff
      refine ⟨_, rfl, fun K hK => ?_⟩
      have e90 : a.tmps[90]? = some (.pointer (some ⟨g, 7, none⟩)) := by rw [ha]; exact putSel_on (e := (3, 90, .pointer (some ⟨g, 7, none⟩))) 3 rfl rfl (hon 3 (by kernel_rfl)) rfl
      replace ha := Aside0.mk ha
      have KB_ := Aside0.mk Q_KB_
      have c0_ : w'.cell? ⟨g, 7, none⟩ = some (.int .i64 o1) := (blk_cell (blk_below HK.out KB_.out) 7).trans rfl
      have c1_ : w'.cell? ⟨g, 8, none⟩ = some (.bool b1) := (blk_cell (blk_below HK.out KB_.out) 8).trans rfl
      have c2_ : w'.cell? ⟨g, 9, none⟩ = some (.int .i64 m1) := (blk_cell (blk_below HK.out KB_.out) 9).trans rfl
      have c3_ : w'.cell? ⟨g, 10, none⟩ = some (.string s1) := (blk_cell (blk_below HK.out KB_.out) 10).trans rfl
      have c4_ : w'.cell? ⟨g, 11, none⟩ = some (.string t1) := (blk_cell (blk_below HK.out KB_.out) 11).trans rfl
      have c5_ : w'.cell? ⟨g, 12, none⟩ = some (.string i1) := (blk_cell (blk_below HK.out KB_.out) 12).trans rfl
      have c6_ : w'.cell? ⟨g, 13, none⟩ = some (.slice A1 n1 cc1) := (blk_cell (blk_below HK.out KB_.out) 13).trans rfl
      refine value_ (w1 := w') (v := .agg #[.int .i64 o1, .bool b1, .int .i64 m1, .string s1, .string t1, .string i1, .slice A1 n1 cc1]) (by rfl) rfl ?_ ?_
      · go_simp
        (try simp only [i64_w])
        try rfl
      refine hK.out _ _ ⟨gy, Ay, cy, m5_, m6_, m7_, m9_, (by rw [ha.out]; exact putSel_upk 4 hb_ rfl rfl rfl), Q_KB_, Q_GE_gy, Q_LT_gy, Q_Z_gy, fun h0_ => absurd ((hoff 10 (by kernel_rfl)).symm.trans h0_) (by decide), fun h0_ => absurd ((hoff 5 (by kernel_rfl)).symm.trans h0_) (by decide), fun h0_ _ => absurd ((hoff 5 (by kernel_rfl)).symm.trans h0_) (by decide), fun h0_ => absurd ((hoff 5 (by kernel_rfl)).symm.trans h0_) (by decide), fun h0_ => absurd ((hoff 6 (by kernel_rfl)).symm.trans h0_) (by decide), fun h0_ => absurd ((hoff 7 (by kernel_rfl)).symm.trans h0_) (by decide), Q_X9_⟩
    refine steps_cons ?_ ?_
    · rintro b a w' ⟨gy, Ay, cy, m5_, m6_, m7_, m9_, ha, Q_KB_, Q_GE_gy, Q_LT_gy, Q_Z_gy, Q_F_gy, Q_HR0, Q_HR1, Q_X5_, Q_X6_, Q_X7_, Q_X9_⟩ hb_ hon hoff
      refine ⟨_, rfl, fun K hK => ?_⟩
      have e87 : a.tmps[87]? = some (.agg #[.slice A n c, .string p0, .string p1, .string p2, .string p3, .string p4, .string p5]) := by rw [ha]; exact putSel_on (e := (0, 87, .agg #[.slice A n c, .string p0, .string p1, .string p2, .string p3, .string p4, .string p5])) 0 rfl rfl (hon 0 (by kernel_rfl)) rfl
      have e91 : a.tmps[91]? = some (.agg #[.int .i64 o1, .bool b1, .int .i64 m1, .string s1, .string t1, .string i1, .slice A1 n1 cc1]) := by rw [ha]; exact putSel_on (e := (4, 91, .agg #[.int .i64 o1, .bool b1, .int .i64 m1, .string s1, .string t1, .string i1, .slice A1 n1 cc1])) 4 rfl rfl (hon 4 (by kernel_rfl)) rfl
      replace ha := Aside0.mk ha
      have KB_ := Aside0.mk Q_KB_
      refine goes_ Tryz.func18 (by kernel_rfl) rfl #[.agg #[.slice A n c, .string p0, .string p1, .string p2, .string p3, .string p4, .string p5], .agg #[.int .i64 o1, .bool b1, .int .i64 m1, .string s1, .string t1, .string i1, .slice A1 n1 cc1]] (by rfl) rfl rfl (by first | (simp only [List.map_toArray, List.map_cons, List.map_nil, Act.eval, Array.getD_eq_getD_getElem?, Option.getD_some, e87, e91]; done) | (simp only [List.map_toArray, List.map_cons, List.map_nil, Act.eval, Array.getD_eq_getD_getElem?, Option.getD_some, e87, e91]; rfl)) ?_
      refine (HH1.out _ (below_step HX.out.be KB_.out)).mono ?_
      rintro e w2 ⟨K8, rfl, hV, hb⟩; obtain ⟨A8, c8, rfl⟩ := Kd.V_slice hV
      refine ⟨_, rfl, ?_⟩
      have z_HR0 := fun (h0_ : up b 5 5 = true) => (show Kd.V k39 39 w2 0 (fun q => we.heap.size ≤ q) (.slice A8 y.f5.length c8) y.f5 from Kd.V_lower (Kd.V_mono hV (fun k hk => Nat.le_trans KB_.out.size hk)) (Nat.zero_le _))
      have z_HR1 := fun (h0_ : up b 5 5 = true) (h1_ : up b 5 9 = true) => (show Kd.V k39 39 w2 0 (fun q => we.heap.size ≤ q ∧ q ≠ gy) (.slice A8 y.f5.length c8) y.f5 from Kd.V_lower (Kd.V_mono hV (fun k hk => ⟨Nat.le_trans KB_.out.size hk, by have h_ := Q_LT_gy h1_; omega⟩)) (Nat.zero_le _))
      refine hK.out _ _ ⟨gy, A8, c8, (.tuple #[.agg #[.int .i64 y.f0, .bool y.f1, .int .i64 y.f2, .string y.f3, .string y.f4.f0, .string y.f4.f1, .slice A8 y.f5.length c8], .int .i64 0]), m6_, m7_, m9_, (by rw [ha.out]; exact putSel_upk 5 hb_ rfl rfl rfl), below_step KB_.out hb, Q_GE_gy, fun h0_ => Nat.lt_of_lt_of_le (Q_LT_gy h0_) hb.size, fun h0_ h1_ => blk_below (Q_Z_gy h0_ h1_) hb, fun h0_ => absurd ((hoff 10 (by kernel_rfl)).symm.trans h0_) (by decide), fun _ => z_HR0 (by assumption), fun _ _ => z_HR1 (by assumption) (by assumption), fun _ => rfl, fun h0_ => absurd ((hoff 6 (by kernel_rfl)).symm.trans h0_) (by decide), fun h0_ => absurd ((hoff 7 (by kernel_rfl)).symm.trans h0_) (by decide), Q_X9_⟩
    refine steps_cons ?_ ?_
    · rintro b a w' ⟨gy, Ay, cy, m5_, m6_, m7_, m9_, ha, Q_KB_, Q_GE_gy, Q_LT_gy, Q_Z_gy, Q_F_gy, Q_HR0, Q_HR1, Q_X5_, Q_X6_, Q_X7_, Q_X9_⟩ hb_ hon hoff
      refine ⟨_, rfl, fun K hK => ?_⟩
      have e92 : a.tmps[92]? = some (m5_) := by rw [ha]; exact putSel_on (e := (5, 92, m5_)) 5 rfl rfl (hon 5 (by kernel_rfl)) rfl
      rw [Q_X5_ (hon 5 (by kernel_rfl))] at e92
      replace ha := Aside0.mk ha
      have KB_ := Aside0.mk Q_KB_
      have HR0 := Aside0.mk (Q_HR0 (hon 5 (by kernel_rfl)))
      refine value_ (w1 := w') (v := .tuple #[.agg #[.int .i64 y.f0, .bool y.f1, .int .i64 y.f2, .string y.f3, .string y.f4.f0, .string y.f4.f1, .slice Ay y.f5.length cy], .int .i64 0]) (by rfl) rfl ?_ ?_
      · go_simp
        (try simp only [i64_w])
        try rfl
      refine hK.out _ _ ⟨gy, Ay, cy, m5_, (.tuple #[.agg #[.int .i64 y.f0, .bool y.f1, .int .i64 y.f2, .string y.f3, .string y.f4.f0, .string y.f4.f1, .slice Ay y.f5.length cy], .int .i64 0]), m7_, m9_, (by rw [ha.out]; exact putSel_upk 6 hb_ rfl rfl rfl), Q_KB_, Q_GE_gy, Q_LT_gy, Q_Z_gy, fun h0_ => absurd ((hoff 10 (by kernel_rfl)).symm.trans h0_) (by decide), Q_HR0, Q_HR1, Q_X5_, fun _ => rfl, fun h0_ => absurd ((hoff 7 (by kernel_rfl)).symm.trans h0_) (by decide), Q_X9_⟩
    refine steps_cons ?_ ?_
    · rintro b a w' ⟨gy, Ay, cy, m5_, m6_, m7_, m9_, ha, Q_KB_, Q_GE_gy, Q_LT_gy, Q_Z_gy, Q_F_gy, Q_HR0, Q_HR1, Q_X5_, Q_X6_, Q_X7_, Q_X9_⟩ hb_ hon hoff
      refine ⟨_, rfl, fun K hK => ?_⟩
      have e86 : a.tmps[86]? = some (m6_) := by rw [ha]; exact putSel_on (e := (6, 86, m6_)) 6 rfl rfl (hon 6 (by kernel_rfl)) rfl
      rw [Q_X6_ (hon 6 (by kernel_rfl))] at e86
      replace ha := Aside0.mk ha
      have KB_ := Aside0.mk Q_KB_
      have HR0 := Aside0.mk (Q_HR0 (hon 5 (by kernel_rfl)))
      refine value_ (w1 := w') (v := .agg #[.int .i64 y.f0, .bool y.f1, .int .i64 y.f2, .string y.f3, .string y.f4.f0, .string y.f4.f1, .slice Ay y.f5.length cy]) (by rfl) rfl ?_ ?_
      · go_simp
        (try simp only [i64_w])
        try rfl
      refine hK.out _ _ ⟨gy, Ay, cy, m5_, m6_, (.agg #[.int .i64 y.f0, .bool y.f1, .int .i64 y.f2, .string y.f3, .string y.f4.f0, .string y.f4.f1, .slice Ay y.f5.length cy]), m9_, (by rw [ha.out]; exact putSel_upk 7 hb_ rfl rfl rfl), Q_KB_, Q_GE_gy, Q_LT_gy, Q_Z_gy, fun h0_ => absurd ((hoff 10 (by kernel_rfl)).symm.trans h0_) (by decide), Q_HR0, Q_HR1, Q_X5_, Q_X6_, fun _ => rfl, Q_X9_⟩
    refine steps_cons ?_ ?_
    · rintro b a w' ⟨gy, Ay, cy, m5_, m6_, m7_, m9_, ha, Q_KB_, Q_GE_gy, Q_LT_gy, Q_Z_gy, Q_F_gy, Q_HR0, Q_HR1, Q_X5_, Q_X6_, Q_X7_, Q_X9_⟩ hb_ hon hoff
      refine ⟨_, rfl, fun K hK => ?_⟩
      have e86 : a.tmps[86]? = some (m6_) := by rw [ha]; exact putSel_on (e := (6, 86, m6_)) 6 rfl rfl (hon 6 (by kernel_rfl)) rfl
      rw [Q_X6_ (hon 6 (by kernel_rfl))] at e86
      replace ha := Aside0.mk ha
      have KB_ := Aside0.mk Q_KB_
      have HR0 := Aside0.mk (Q_HR0 (hon 5 (by kernel_rfl)))
      refine value_ (w1 := w') (v := .int .i64 0) (by rfl) rfl ?_ ?_
      · go_simp
        (try simp only [i64_w])
        try rfl
      refine hK.out _ _ ⟨gy, Ay, cy, m5_, m6_, m7_, m9_, (by rw [ha.out]; exact putSel_upk 8 hb_ rfl rfl rfl), Q_KB_, Q_GE_gy, Q_LT_gy, Q_Z_gy, Q_F_gy, Q_HR0, Q_HR1, Q_X5_, Q_X6_, Q_X7_, Q_X9_⟩
    refine steps_cons ?_ ?_
    · rintro b a w' ⟨gy, Ay, cy, m5_, m6_, m7_, m9_, ha, Q_KB_, Q_GE_gy, Q_LT_gy, Q_Z_gy, Q_F_gy, Q_HR0, Q_HR1, Q_X5_, Q_X6_, Q_X7_, Q_X9_⟩ hb_ hon hoff
      refine ⟨_, rfl, fun K hK => ?_⟩
      replace ha := Aside0.mk ha
      have KB_ := Aside0.mk Q_KB_
      refine value_ (w1 := w'.alloc (.cells #[.int .i64 0, .bool false, .int .i64 0, .string ⟨#[]⟩, .string ⟨#[]⟩, .string ⟨#[]⟩, .slice none 0 0] 39)) (v := .pointer (some ⟨w'.heap.size, 0, none⟩)) (by rfl) rfl ?_ ?_
      · first | (go_simp; done) | (go_simp; rfl) | (go_simp; constructor <;> rfl)
      have hbox : (w'.alloc (.cells #[.int .i64 0, .bool false, .int .i64 0, .string ⟨#[]⟩, .string ⟨#[]⟩, .string ⟨#[]⟩, .slice none 0 0] 39)).heap[w'.heap.size]? = some (.cells #[.int .i64 0, .bool false, .int .i64 0, .string ⟨#[]⟩, .string ⟨#[]⟩, .string ⟨#[]⟩, .slice none 0 0] 39 (0, 0)) := blk_new _ _
      have hb : Below w'.heap.size w' (w'.alloc (.cells #[.int .i64 0, .bool false, .int .i64 0, .string ⟨#[]⟩, .string ⟨#[]⟩, .string ⟨#[]⟩, .slice none 0 0] 39)) := below_alloc (Below.refl _ _) _
      generalize w'.alloc (.cells #[.int .i64 0, .bool false, .int .i64 0, .string ⟨#[]⟩, .string ⟨#[]⟩, .string ⟨#[]⟩, .slice none 0 0] 39) = w2 at hbox hb ⊢
      have hle := (KB_.out).size
      generalize hg_ : w'.heap.size = gyn at hbox hle ⊢
      have z_HR1 := fun (h0_ : up b 9 5 = true) (h1_ : up b 9 9 = true) => (show Kd.V k39 39 w2 0 (fun q => we.heap.size ≤ q ∧ q ≠ gyn) (.slice Ay y.f5.length cy) y.f5 from Kd.V_below (Kd.V_elderB (Q_HR0 h0_) _ (Nat.le_of_eq hg_)) hb)
      refine hK.out _ _ ⟨gyn, Ay, cy, m5_, m6_, m7_, (.pointer (some ⟨gyn, 0, none⟩)), (by rw [ha.out]; exact putSel_upk 9 hb_ rfl rfl rfl), below_step KB_.out hb, fun _ => hle, fun _ => blk_lt hbox, fun _ _ => hbox, fun h0_ => absurd ((hoff 10 (by kernel_rfl)).symm.trans h0_) (by decide), fun h0_ => Kd.V_below (Q_HR0 h0_) hb, fun _ _ => z_HR1 (by assumption) (by assumption), Q_X5_, Q_X6_, Q_X7_, fun _ => rfl⟩
    refine steps_cons ?_ ?_
    · rintro b a w' ⟨gy, Ay, cy, m5_, m6_, m7_, m9_, ha, Q_KB_, Q_GE_gy, Q_LT_gy, Q_Z_gy, Q_F_gy, Q_HR0, Q_HR1, Q_X5_, Q_X6_, Q_X7_, Q_X9_⟩ hb_ hon hoff
      refine ⟨_, rfl, fun K hK => ?_⟩
      have e8 : a.tmps[8]? = some (m9_) := by rw [ha]; exact putSel_on (e := (9, 8, m9_)) 9 rfl rfl (hon 9 (by kernel_rfl)) rfl
      rw [Q_X9_ (hon 9 (by kernel_rfl))] at e8
      have e93 : a.tmps[93]? = some (m7_) := by rw [ha]; exact putSel_on (e := (7, 93, m7_)) 7 rfl rfl (hon 7 (by kernel_rfl)) rfl
      rw [Q_X7_ (hon 7 (by kernel_rfl))] at e93
      replace ha := Aside0.mk ha
      have KB_ := Aside0.mk Q_KB_
      have GE_gy := Aside0.mk (Q_GE_gy (hon 9 (by kernel_rfl)))
      have LT_gy := Aside0.mk (Q_LT_gy (hon 9 (by kernel_rfl)))
      have Z_gy := Aside0.mk (Q_Z_gy (hon 9 (by kernel_rfl)) hb_)
      have HR0 := Aside0.mk (Q_HR0 (hon 5 (by kernel_rfl)))
      have HR1 := Aside0.mk (Q_HR1 (hon 5 (by kernel_rfl)) (hon 9 (by kernel_rfl)))
      have y0 : w'.cell? ⟨gy, 0, none⟩ = some (.int .i64 0) := (blk_cell Z_gy.out 0).trans rfl
      have f0 := blk_frozen Z_gy.out 0
      have y1 : w'.cell? ⟨gy, 1, none⟩ = some (.bool false) := (blk_cell Z_gy.out 1).trans rfl
      have f1 := blk_frozen Z_gy.out 1
      have y2 : w'.cell? ⟨gy, 2, none⟩ = some (.int .i64 0) := (blk_cell Z_gy.out 2).trans rfl
      have f2 := blk_frozen Z_gy.out 2
      have y3 : w'.cell? ⟨gy, 3, none⟩ = some (.string ⟨#[]⟩) := (blk_cell Z_gy.out 3).trans rfl
      have f3 := blk_frozen Z_gy.out 3
      have y4 : w'.cell? ⟨gy, 4, none⟩ = some (.string ⟨#[]⟩) := (blk_cell Z_gy.out 4).trans rfl
      have f4 := blk_frozen Z_gy.out 4
      have y5 : w'.cell? ⟨gy, 5, none⟩ = some (.string ⟨#[]⟩) := (blk_cell Z_gy.out 5).trans rfl
      have f5 := blk_frozen Z_gy.out 5
      have y6 : w'.cell? ⟨gy, 6, none⟩ = some (.slice none 0 0) := (blk_cell Z_gy.out 6).trans rfl
      have f6 := blk_frozen Z_gy.out 6
      refine skip_ (w1 := ?_) (by rfl) rfl ?_ ?_
      rotate_left
      · go_simp
        rfl
      refine hK.out _ _ ⟨gy, Ay, cy, m5_, m6_, m7_, m9_, (by rw [ha.out]; exact putSel_none (v := undef) rfl), below_set (below_set (below_set (below_set (below_set (below_set (below_set (KB_.out) GE_gy.out) GE_gy.out) GE_gy.out) GE_gy.out) GE_gy.out) GE_gy.out) GE_gy.out, Q_GE_gy, fun _ => lt_set (lt_set (lt_set (lt_set (lt_set (lt_set (lt_set (LT_gy.out))))))), fun _ h1_ => absurd ((up_self b 10).symm.trans h1_) (by decide), fun _ => blk_put (cs := #[.int .i64 y.f0, .bool y.f1, .int .i64 y.f2, .string y.f3, .string y.f4.f0, .string y.f4.f1, .slice none 0 0]) (cs' := #[.int .i64 y.f0, .bool y.f1, .int .i64 y.f2, .string y.f3, .string y.f4.f0, .string y.f4.f1, .slice Ay y.f5.length cy]) (blk_put (cs := #[.int .i64 y.f0, .bool y.f1, .int .i64 y.f2, .string y.f3, .string y.f4.f0, .string ⟨#[]⟩, .slice none 0 0]) (cs' := #[.int .i64 y.f0, .bool y.f1, .int .i64 y.f2, .string y.f3, .string y.f4.f0, .string y.f4.f1, .slice none 0 0]) (blk_put (cs := #[.int .i64 y.f0, .bool y.f1, .int .i64 y.f2, .string y.f3, .string ⟨#[]⟩, .string ⟨#[]⟩, .slice none 0 0]) (cs' := #[.int .i64 y.f0, .bool y.f1, .int .i64 y.f2, .string y.f3, .string y.f4.f0, .string ⟨#[]⟩, .slice none 0 0]) (blk_put (cs := #[.int .i64 y.f0, .bool y.f1, .int .i64 y.f2, .string ⟨#[]⟩, .string ⟨#[]⟩, .string ⟨#[]⟩, .slice none 0 0]) (cs' := #[.int .i64 y.f0, .bool y.f1, .int .i64 y.f2, .string y.f3, .string ⟨#[]⟩, .string ⟨#[]⟩, .slice none 0 0]) (blk_put (cs := #[.int .i64 y.f0, .bool y.f1, .int .i64 0, .string ⟨#[]⟩, .string ⟨#[]⟩, .string ⟨#[]⟩, .slice none 0 0]) (cs' := #[.int .i64 y.f0, .bool y.f1, .int .i64 y.f2, .string ⟨#[]⟩, .string ⟨#[]⟩, .string ⟨#[]⟩, .slice none 0 0]) (blk_put (cs := #[.int .i64 y.f0, .bool false, .int .i64 0, .string ⟨#[]⟩, .string ⟨#[]⟩, .string ⟨#[]⟩, .slice none 0 0]) (cs' := #[.int .i64 y.f0, .bool y.f1, .int .i64 0, .string ⟨#[]⟩, .string ⟨#[]⟩, .string ⟨#[]⟩, .slice none 0 0]) (blk_put (cs := #[.int .i64 0, .bool false, .int .i64 0, .string ⟨#[]⟩, .string ⟨#[]⟩, .string ⟨#[]⟩, .slice none 0 0]) (cs' := #[.int .i64 y.f0, .bool false, .int .i64 0, .string ⟨#[]⟩, .string ⟨#[]⟩, .string ⟨#[]⟩, .slice none 0 0]) (Z_gy.out) 0 _ rfl) 1 _ rfl) 2 _ rfl) 3 _ rfl) 4 _ rfl) 5 _ rfl) 6 _ rfl, fun _ => Kd.V_mono (Kd.V_far (p := ⟨gy, 6, none⟩) (Kd.V_far (p := ⟨gy, 5, none⟩) (Kd.V_far (p := ⟨gy, 4, none⟩) (Kd.V_far (p := ⟨gy, 3, none⟩) (Kd.V_far (p := ⟨gy, 2, none⟩) (Kd.V_far (p := ⟨gy, 1, none⟩) (Kd.V_far (p := ⟨gy, 0, none⟩) HR1.out (fun k hk => hk.2) _) (fun k hk => hk.2) _) (fun k hk => hk.2) _) (fun k hk => hk.2) _) (fun k hk => hk.2) _) (fun k hk => hk.2) _) (fun k hk => hk.2) _) (fun k hk => hk.1), fun _ _ => Kd.V_far (p := ⟨gy, 6, none⟩) (Kd.V_far (p := ⟨gy, 5, none⟩) (Kd.V_far (p := ⟨gy, 4, none⟩) (Kd.V_far (p := ⟨gy, 3, none⟩) (Kd.V_far (p := ⟨gy, 2, none⟩) (Kd.V_far (p := ⟨gy, 1, none⟩) (Kd.V_far (p := ⟨gy, 0, none⟩) HR1.out (fun k hk => hk.2) _) (fun k hk => hk.2) _) (fun k hk => hk.2) _) (fun k hk => hk.2) _) (fun k hk => hk.2) _) (fun k hk => hk.2) _) (fun k hk => hk.2) _, Q_X5_, Q_X6_, Q_X7_, Q_X9_⟩
    refine steps_cons ?_ ?_
    · rintro b a w' ⟨gy, Ay, cy, m5_, m6_, m7_, m9_, ha, Q_KB_, Q_GE_gy, Q_LT_gy, Q_Z_gy, Q_F_gy, Q_HR0, Q_HR1, Q_X5_, Q_X6_, Q_X7_, Q_X9_⟩ hb_ hon hoff
      refine ⟨_, rfl, fun K hK => ?_⟩
      have e94 : a.tmps[94]? = some (.int .i64 0) := by rw [ha]; exact putSel_on (e := (8, 94, .int .i64 0)) 8 rfl rfl (hon 8 (by kernel_rfl)) rfl
      replace ha := Aside0.mk ha
      have KB_ := Aside0.mk Q_KB_
      have GE_gy := Aside0.mk (Q_GE_gy (hon 9 (by kernel_rfl)))
      have LT_gy := Aside0.mk (Q_LT_gy (hon 9 (by kernel_rfl)))
      have F_gy := Aside0.mk (Q_F_gy (hon 10 (by kernel_rfl)))
      have HR0 := Aside0.mk (Q_HR0 (hon 5 (by kernel_rfl)))
      have HR1 := Aside0.mk (Q_HR1 (hon 5 (by kernel_rfl)) (hon 9 (by kernel_rfl)))
      refine value_ (w1 := w') (v := .int .i64 0) (by rfl) rfl ?_ ?_
      · go_simp
        (try simp only [i64_w])
        try rfl
      refine hK.out _ _ ⟨gy, Ay, cy, m5_, m6_, m7_, m9_, (by rw [ha.out]; exact putSel_upk 10 hb_ rfl rfl rfl), Q_KB_, Q_GE_gy, Q_LT_gy, fun _ h1_ => absurd ((hon 10 (by kernel_rfl)).symm.trans h1_) (by decide), Q_F_gy, Q_HR0, Q_HR1, Q_X5_, Q_X6_, Q_X7_, Q_X9_⟩
    exact steps_nil
  rintro b a w' hall ⟨gy, Ay, cy, m5_, m6_, m7_, m9_, ha, Q_KB_, Q_GE_gy, Q_LT_gy, Q_Z_gy, Q_F_gy, Q_HR0, Q_HR1, Q_X5_, Q_X6_, Q_X7_, Q_X9_⟩
  clear KB_
  have hb0_ := hall 0 (by kernel_rfl)
  have hb1_ := hall 1 (by kernel_rfl)
  have hb2_ := hall 2 (by kernel_rfl)
  have hb3_ := hall 3 (by kernel_rfl)
  have hb4_ := hall 4 (by kernel_rfl)
  have hb5_ := hall 5 (by kernel_rfl)
  have hb6_ := hall 6 (by kernel_rfl)
  have hb7_ := hall 7 (by kernel_rfl)
  have hb8_ := hall 8 (by kernel_rfl)
  have hb9_ := hall 9 (by kernel_rfl)
  have hb10_ := hall 10 (by kernel_rfl)
  have hb11_ := hall 11 (by kernel_rfl)
  subst ha
  obtain rfl := Q_X5_ hb5_
  obtain rfl := Q_X6_ hb6_
  obtain rfl := Q_X7_ hb7_
  obtain rfl := Q_X9_ hb9_
  simp only [putSel, hb0_, hb1_, hb2_, hb3_, hb4_, hb5_, hb6_, hb7_, hb8_, hb9_, hb10_, hb11_, if_true, Act.put, List.setIfInBounds_toArray, List.set_cons_zero, List.set_cons_succ]
  have KB_ := Aside0.mk Q_KB_
  clear Q_KB_
  have GE_gy := Aside0.mk (Q_GE_gy hb9_)
  clear Q_GE_gy
  have LT_gy := Aside0.mk (Q_LT_gy hb9_)
  clear Q_LT_gy
  clear Q_Z_gy
  have F_gy := Aside0.mk (Q_F_gy hb10_)
  clear Q_F_gy
  have HR0 := Aside0.mk (Q_HR0 hb5_)
  clear Q_HR0
  have HR1 := Aside0.mk (Q_HR1 hb5_ hb9_)
  clear Q_HR1
  clear hall hb0_ hb1_ hb2_ hb3_ hb4_ hb5_ hb6_ hb7_ hb8_ hb9_ hb10_ hb11_
  have hle : w.heap.size + 3 ≤ we.heap.size := HX.out.le
  replace HX := Aside0.mk (HX.out.step KB_.out)
  replace HVx := Aside0.mk (blk_below HVx.out KB_.out)
  replace HRx := Aside0.mk (Kd.V_below HRx.out KB_.out)
  have HVy := F_gy
  have HRy := HR1
  clear F_gy KB_ GE_gy LT_gy H0 H1 HK HR1 hle
  generalize w' = w5 at HX HVx HRx HVy HRy ⊢
  obtain ⟨x0, x1, x2, x3, x4, x5, x6⟩ := cells7 HVx.out
  obtain ⟨y0, y1, y2, y3, y4, y5, y6⟩ := cells7 HVy.out
  obtain ⟨z0, z1, z2, z3, z4, z5, z6⟩ := cells7 HX.out.b0
  have q7 : w5.cell? ⟨w.heap.size + 1, 0, none⟩ = some (.int .i64 o) := (blk_cell HX.out.b1 0).trans rfl
  have HCx := Aside0.mk (Kd.V_reads' HRx.out)
  have HCy := Aside0.mk (Kd.V_reads' HRy.out)
  clear HRx HRy
  go_wp2_with (go_at_call 35; refine (HHD.out _ _ _ _ _ HX.out.be HCx.out.2.1 HCx.out.2.2 HCy.out.2.1 HCy.out.2.2).mono ?_; rintro e w6 ⟨K, rfl, hV, hb⟩; have HVr := Aside0.mk hV; have HX2 := Aside0.mk (HX.out.step hb); obtain ⟨A8, c8, rfl⟩ := Kd.V_slice hV; clear hV hb x0 x1 x2 x3 x4 x5 x6 y0 y1 y2 y3 y4 y5 y6 z0 z1 z2 z3 z4 z5 z6 q7; obtain ⟨q0, q1, q2, q3, q4, q5, q6⟩ := cells7 HX2.out.b2; obtain ⟨f0, f1, f2, f3, f4, f5, f6⟩ := froz7 HX2.out.b2; have hsz := blk_lt HX2.out.b2)
  (try simp only [Exit.inBlock, Exit.then])
  refine bodyPost_ret (results_row_tmp rfl _ _ (w.heap.size + 2) 39 _ (0, 0) _ rfl (set7_blk HX2.out.b2 _ _ _ _ _ _ _) Tryz.underlying39 rfl (by kernel_rfl)) rfl ?_
  have hz1 := blk_lt HX.out.b2
  exact ⟨_, rfl, V_fin HVr.out (by omega) (by omega) _ _ _ _ _ _ _, set7_below HX2.out.be (by omega) _ _ _ _ _ _ _⟩
end Go.Proofs.YtelibndkkokadaaGreat.EV
namespace Go.Proofs.YtelibndkkokadaaGreat.EV
open Go.RowKit Go.Proofs.YtelibndkkokadaaGreatW.PrintWords Go.Proofs.YtelibndkkokadaaGreatW.PrintLast Go.Proofs.YtelibndkkokadaaGreat.HandV Go.Proofs.YtelibndkkokadaaGreatW.PrintMore
open Go.Proofs.YtelibndkkokadaaGreat.GB
attribute [local go_sem] max2_int min2_int max_two min_two max_three min_three max_four min_four   -- for this text's walks alone
set_option linter.unusedVariables false
set_option linter.unusedSimpArgs false
-- IMPORT .EI1
-- IMPORT .Sqz
-- IMPORT Derived.Deep.RegionWith
-- IMPORT Derived.Deep.CutRange
theorem ta_set (x : Value) (w : World) : Sem.run Tryz.prog (Instr.typeAssert (.iface 137 x) 20 137 true) w = .ok (.tuple #[x, .bool true]) w := by simp [Instr.typeAssert, go_sem]
theorem rdV {ys : List Vl} {j : Nat} (h : j < ys.length) : rd_T39 ys (j : Int) = ys[j] := by
  unfold rd_T39
  rw [Int.toNat_natCast, List.getD_eq_getElem?_getD, List.getElem?_eq_getElem h]; rfl
/-- A value of a row in memory. -/
theorem atV {W : World} {A : Option Addr} {ys : List Vl} (h : k39.C W A ys.length ys) {j : Nat} (hj : j < ys.length) : ∃ (ad : Addr) (A6 : Option Addr) (c6 : Nat), A = some ad ∧ W.cell? (ad.add (j * 7)) = some (.int .i64 ys[j].f0) ∧ W.cell? ⟨(ad.add (j * 7)).block, (ad.add (j * 7)).off + 1, none⟩ = some (.bool ys[j].f1) ∧ W.cell? ⟨(ad.add (j * 7)).block, (ad.add (j * 7)).off + 2, none⟩ = some (.int .i64 ys[j].f2) ∧ W.cell? ⟨(ad.add (j * 7)).block, (ad.add (j * 7)).off + 3, none⟩ = some (.string ys[j].f3) ∧ W.cell? ⟨(ad.add (j * 7)).block, (ad.add (j * 7)).off + 4, none⟩ = some (.string ys[j].f4.f0) ∧ W.cell? ⟨(ad.add (j * 7)).block, (ad.add (j * 7)).off + 5, none⟩ = some (.string ys[j].f4.f1) ∧ W.cell? ⟨(ad.add (j * 7)).block, (ad.add (j * 7)).off + 6, none⟩ = some (.slice A6 ys[j].f5.length c6) := by
  obtain ⟨ad, A6, c6, e, g0, g1, g2, g3, g4, g5, g6, l6, h6⟩ := at_T39 h (j : Int) (by omega) (by omega)
  rw [rdV hj] at g0 g1 g2 g3 g4 g5 g6 l6 h6
  rw [Int.toNat_natCast] at g0 g1 g2 g3 g4 g5 g6
  exact ⟨ad, A6, c6, e, g0, g1, g2, g3, g4, g5, g6⟩
/-- Whether one of the first so many holds. -/
def orTo (f : Nat → Bool) : Nat → Bool
  | 0 => false
  | q + 1 => orTo f q || f q
/-- The boxes of in. -/
structure XI (w : World) (wc uc : Array Value) (W : World) : Prop where
  b0 : W.heap[w.heap.size]? = some (.cells wc 70 (0, 0))
  b1 : W.heap[w.heap.size + 1]? = some zO
  b2 : W.heap[w.heap.size + 2]? = some (.cells uc 136 (0, 0))
  be : Below w.heap.size w W
theorem XI.step {w W W' : World} {wc uc : Array Value} (h : XI w wc uc W) (hb : Below W.heap.size W W') : XI w wc uc W' := ⟨blk_below h.b0 hb, blk_below h.b1 hb, blk_below h.b2 hb, below_step h.be hb⟩
theorem XI.new (w : World) (wc uc : Array Value) (o : Obj) : XI w wc uc ((((w.alloc (.cells wc 70 (0, 0))).alloc zO).alloc (.cells uc 136 (0, 0))).alloc o) := ⟨blk_alloc (blk_alloc (blk_alloc (blk_new _ _) _) _) _, blk_alloc (blk_alloc (bn2 _ _ _) _) _, blk_alloc (bn3 _ _ _ _) _, below_alloc (below_alloc (below_alloc (below_alloc (Below.refl _ _) _) _) _) _⟩
set_option maxRecDepth 100000 in
set_option maxHeartbeats 16000000 in
theorem in_set (A : Option Addr) (n c : Nat) (p0 p1 p2 p3 p4 p5 : ByteArray) (t i : ByteArray) (ys : List Vl) (h0 : 0 < ys.length) (hk : ys[0].f0 = 4) (hn : ys.length ≤ 1000000) (f : Nat → Bool) (Ay : Option Addr) (cy : Nat) (w : World) (hC : k39.C w Ay ys.length ys) (hI : ∀ (j : Nat) (hj : j < ys.length) (W : World), Below w.heap.size w W → Calls Tryz.prog 39 #[.slice A n c, .agg #[.string t, .string i], .agg #[.string ys[j].f4.f0, .string ys[j].f4.f1]] W fun e w' => e = .returned (.bool (f j)) ∧ Below W.heap.size W w') :
    Calls Tryz.prog 54 #[.agg #[.slice A n c, .string p0, .string p1, .string p2, .string p3, .string p4, .string p5], .iface 136 (.agg #[.string t, .string i]), .iface 137 (.slice Ay ys.length cy)] w (Gv w (trVl (orTo f ys.length)) 0) := by
  have h1 := ta_uid (.agg #[.string t, .string i])
  have h2 := ta_uid_set (.slice Ay ys.length cy)
  have h3 := ta_set (.slice Ay ys.length cy)
  have HI := Aside0.mk hI
  have HC := Aside0.mk hC
  have HX := Aside0.mk (XI.new w #[.slice A n c, .string p0, .string p1, .string p2, .string p3, .string p4, .string p5] #[.string t, .string i] (.cells #[.string ⟨#[]⟩, .string ⟨#[]⟩] 136 (0, 0)))
  clear hI hC
  go_enter Tryz.func54, Tryz.ntmps54
  go_upto_region 8 with (fail)
  generalize (((w.alloc (.cells #[.slice A n c, .string p0, .string p1, .string p2, .string p3, .string p4, .string p5] 70)).alloc (.cells #[.int .i64 0, .bool false, .int .i64 0, .string ⟨#[]⟩, .string ⟨#[]⟩, .string ⟨#[]⟩, .slice none 0 0] 39)).alloc (.cells #[.string t, .string i] 136)).alloc (.cells #[.string ⟨#[]⟩, .string ⟨#[]⟩] 136) = w3 at HX ⊢
  obtain ⟨ad, A6, c6, rfl, g0, g1, g2, g3, g4, g5, g6⟩ := atV (Kd.C_below HC.out HX.out.be) h0
  have d0 : ((0 : Int) < (ys.length : Int)) = True := eq_true (by omega)
  rw [Nat.zero_mul] at g0
  rw [hk] at g0
  have ga : w3.cell? ad = some (.int .i64 4) := g0
  clear g0 g1 g2 g3 g4 g5 g6
  go_wp2
  clear d0
  go_loopw [13, 59] (fun v13 v59 wr => ∃ q : Nat, v59 = .int .i64 q ∧ v13 = .bool (orTo f q) ∧ q ≤ ys.length ∧ XI w #[.slice A n c, .string p0, .string p1, .string p2, .string p3, .string p4, .string p5] #[.string t, .string i] wr) (fun v13 v59 _ => ys.length - (intOf v59).toNat)
  case atStart => exact ⟨0, rfl, rfl, Nat.zero_le _, HX.out⟩
  case round =>
    clear HX ga
    obtain ⟨q, rfl, rfl, hq, hX⟩ := hrel
    have HX := Aside0.mk hX
    clear hX
    by_cases hql : q < ys.length
    · have d1 : ((q : Int) < (ys.length : Int)) = True := eq_true (by omega)
      obtain ⟨ad', A6, c6, e, g0, g1, g2, g3, g4, g5, g6⟩ := atV (Kd.C_below HC.out HX.out.be) hql
      cases e
      have HQ : Aside0 (orTo f (q + 1) = (orTo f q || f q)) := ⟨rfl⟩
      go_upto_region 14 with (fail)
      replace HX := Aside0.mk (HX.out.step (b_al wr (.cells #[.int .i64 ys[q].f0, .bool ys[q].f1, .int .i64 ys[q].f2, .string ys[q].f3, .string ys[q].f4.f0, .string ys[q].f4.f1, .slice A6 ys[q].f5.length c6] 39 (0, 0))))
      have HN := Aside0.mk (blk_new wr (.cells #[.int .i64 ys[q].f0, .bool ys[q].f1, .int .i64 ys[q].f2, .string ys[q].f3, .string ys[q].f4.f0, .string ys[q].f4.f1, .slice A6 ys[q].f5.length c6] 39 (0, 0)))
      clear g0 g1 g2 g3 g4 g5 g6
      generalize wr.alloc (.cells #[.int .i64 ys[q].f0, .bool ys[q].f1, .int .i64 ys[q].f2, .string ys[q].f3, .string ys[q].f4.f0, .string ys[q].f4.f1, .slice A6 ys[q].f5.length c6] 39) = wq at HX HN ⊢
      obtain ⟨x0, x1, x2, x3, x4, x5, x6⟩ := cells7 HX.out.b0
      obtain ⟨g0, g1, g2, g3, g4, g5, g6⟩ := cells7 HN.out
      have y0 : wq.cell? ⟨w.heap.size + 2, 0, none⟩ = some (.string t) := (blk_cell HX.out.b2 0).trans rfl
      have y1 : wq.cell? ⟨w.heap.size + 2, 1, none⟩ = some (.string i) := (blk_cell HX.out.b2 1).trans rfl
      cases hor : orTo f q with
      | true =>
        go_wp2
        go_roundw
        case rel => exact ⟨q + 1, by go_num, by rw [HQ.out, hor]; rfl, by omega, HX.out⟩
        case measure => simp [intOf]; omega
      | false =>
        go_wp2_with (go_at_call 39; refine (HI.out q hql _ HX.out.be).mono ?_; rintro e w1 ⟨rfl, hb⟩; have HX1 := Aside0.mk (HX.out.step hb); clear hb)
        go_roundw
        case rel => exact ⟨q + 1, by go_num, by rw [HQ.out, hor]; rfl, by omega, HX1.out⟩
        case measure => simp [intOf]; omega
    · have d1 : ((q : Int) < (ys.length : Int)) = False := eq_false (by omega)
      obtain rfl : q = ys.length := by omega
      go_wp2_with (go_at_call 45; refine (back_tr _ _).mono ?_; rintro e w2 ⟨rfl, hb⟩; have HX2 := Aside0.mk (HX.out.step hb); clear hb; obtain ⟨q0, q1, q2, q3, q4, q5, q6⟩ := cells7 HX2.out.b1; obtain ⟨f0, f1, f2, f3, f4, f5, f6⟩ := froz7 HX2.out.b1)
      (try simp only [Exit.inBlock, Exit.then])
      refine bodyPost_ret (results_row_tmp rfl _ _ (w.heap.size + 1) 39 _ (0, 0) _ rfl (set7_blk HX2.out.b1 _ _ _ _ _ _ _) Tryz.underlying39 rfl (by kernel_rfl)) rfl ?_
      exact Gv.flat rfl (set7_below HX2.out.be (by omega) _ _ _ _ _ _ _)
set_option maxRecDepth 100000 in
set_option maxHeartbeats 16000000 in
theorem in_type (A : Option Addr) (n c : Nat) (p0 p1 p2 p3 p4 p5 : ByteArray) (Ax : Option Addr) (nx cx : Nat) (y : Value) (w : World) :
    Calls Tryz.prog 54 #[.agg #[.slice A n c, .string p0, .string p1, .string p2, .string p3, .string p4, .string p5], .iface 137 (.slice Ax nx cx), y] w (Gv w zVl 16) := by
  have h1 := ta_uid_set (.slice Ax nx cx)
  have HX := Aside0.mk (bn3 w (.cells #[.slice A n c, .string p0, .string p1, .string p2, .string p3, .string p4, .string p5] 70 (0, 0)) zO (.cells #[.string ⟨#[]⟩, .string ⟨#[]⟩] 136 (0, 0)))
  have HZ : Aside0 ((((w.alloc (.cells #[.slice A n c, .string p0, .string p1, .string p2, .string p3, .string p4, .string p5] 70 (0, 0))).alloc zO).alloc (.cells #[.string ⟨#[]⟩, .string ⟨#[]⟩] 136 (0, 0))).heap[w.heap.size + 1]? = some zO) := ⟨blk_alloc (bn2 _ _ _) _⟩
  have HB : Aside0 (Below w.heap.size w (((w.alloc (.cells #[.slice A n c, .string p0, .string p1, .string p2, .string p3, .string p4, .string p5] 70 (0, 0))).alloc zO).alloc (.cells #[.string ⟨#[]⟩, .string ⟨#[]⟩] 136 (0, 0)))) := ⟨below_alloc (below_alloc (below_alloc (Below.refl _ _) _) _) _⟩
  clear HX
  go_enter Tryz.func54, Tryz.ntmps54
  go_upto_region 2 with (fail)
  generalize ((w.alloc (.cells #[.slice A n c, .string p0, .string p1, .string p2, .string p3, .string p4, .string p5] 70)).alloc (.cells #[.int .i64 0, .bool false, .int .i64 0, .string ⟨#[]⟩, .string ⟨#[]⟩, .string ⟨#[]⟩, .slice none 0 0] 39)).alloc (.cells #[.string ⟨#[]⟩, .string ⟨#[]⟩] 136) = w3 at HZ HB ⊢
  obtain ⟨q0, q1, q2, q3, q4, q5, q6⟩ := cells7 HZ.out
  obtain ⟨f0, f1, f2, f3, f4, f5, f6⟩ := froz7 HZ.out
  go_wp2
  (try simp only [Exit.inBlock, Exit.then])
  refine bodyPost_ret (results_row_tmp rfl _ _ (w.heap.size + 1) 39 _ (0, 0) _ rfl (set7_blk HZ.out _ _ _ _ _ _ _) Tryz.underlying39 rfl (by kernel_rfl)) rfl ?_
  exact Gv.flat rfl (set7_below HB.out (by omega) _ _ _ _ _ _ _)
set_option maxRecDepth 100000 in
set_option maxHeartbeats 16000000 in
theorem double_in_g (A : Option Addr) (n c : Nat) (p0 p1 p2 p3 p4 p5 : ByteArray) (x y r : Vl) (er : Int) (W0 : World) (hI : ∀ (W : World) (Ax Ay : Option Addr) (cx cy : Nat), Below W0.heap.size W0 W → k39.C W Ax x.f5.length x.f5 → k39.C W Ay y.f5.length y.f5 → Calls Tryz.prog 54 #[.agg #[.slice A n c, .string p0, .string p1, .string p2, .string p3, .string p4, .string p5], ofV x.f0 x.f1 x.f2 x.f3 x.f4.f0 x.f4.f1 Ax x.f5.length cx, ofV y.f0 y.f1 y.f2 y.f3 y.f4.f0 y.f4.f1 Ay y.f5.length cy] W (Gv W r er)) : DSaysG (.agg #[.slice A n c, .string p0, .string p1, .string p2, .string p3, .string p4, .string p5]) 22 x y r er W0 := by
  intro w Ax Ay cx cy hw hlx hCx hly hCy
  have HX : Aside0 (XD w #[.slice A n c, .string p0, .string p1, .string p2, .string p3, .string p4, .string p5] #[.int .i64 x.f0, .bool x.f1, .int .i64 x.f2, .string x.f3, .string x.f4.f0, .string x.f4.f1, .slice Ax x.f5.length cx] #[.int .i64 y.f0, .bool y.f1, .int .i64 y.f2, .string y.f3, .string y.f4.f0, .string y.f4.f1, .slice Ay y.f5.length cy] _) := ⟨XD.new w _ _ _⟩
  have HSP : Aside0 (∀ W : World, W.heap[w.heap.size]? = some (.cells #[.slice A n c, .string p0, .string p1, .string p2, .string p3, .string p4, .string p5] 70 (0, 0)) ∧ W.heap[w.heap.size + 1]? = some (.cells #[.int .i64 x.f0, .bool x.f1, .int .i64 x.f2, .string x.f3, .string x.f4.f0, .string x.f4.f1, .slice Ax x.f5.length cx] 39 (0, 0)) ∧ W.heap[w.heap.size + 2]? = some (.cells #[.int .i64 y.f0, .bool y.f1, .int .i64 y.f2, .string y.f3, .string y.f4.f0, .string y.f4.f1, .slice Ay y.f5.length cy] 39 (0, 0)) → W.cell? ⟨w.heap.size, 0, none⟩ = some (.slice A n c) ∧ W.cell? ⟨w.heap.size, 1, none⟩ = some (.string p0) ∧ W.cell? ⟨w.heap.size, 2, none⟩ = some (.string p1) ∧ W.cell? ⟨w.heap.size, 3, none⟩ = some (.string p2) ∧ W.cell? ⟨w.heap.size, 4, none⟩ = some (.string p3) ∧ W.cell? ⟨w.heap.size, 5, none⟩ = some (.string p4) ∧ W.cell? ⟨w.heap.size, 6, none⟩ = some (.string p5) ∧ W.cell? ⟨w.heap.size + 1, 0, none⟩ = some (.int .i64 x.f0) ∧ W.cell? ⟨w.heap.size + 1, 1, none⟩ = some (.bool x.f1) ∧ W.cell? ⟨w.heap.size + 1, 2, none⟩ = some (.int .i64 x.f2) ∧ W.cell? ⟨w.heap.size + 1, 3, none⟩ = some (.string x.f3) ∧ W.cell? ⟨w.heap.size + 1, 4, none⟩ = some (.string x.f4.f0) ∧ W.cell? ⟨w.heap.size + 1, 5, none⟩ = some (.string x.f4.f1) ∧ W.cell? ⟨w.heap.size + 1, 6, none⟩ = some (.slice Ax x.f5.length cx) ∧ W.cell? ⟨w.heap.size + 2, 0, none⟩ = some (.int .i64 y.f0) ∧ W.cell? ⟨w.heap.size + 2, 1, none⟩ = some (.bool y.f1) ∧ W.cell? ⟨w.heap.size + 2, 2, none⟩ = some (.int .i64 y.f2) ∧ W.cell? ⟨w.heap.size + 2, 3, none⟩ = some (.string y.f3) ∧ W.cell? ⟨w.heap.size + 2, 4, none⟩ = some (.string y.f4.f0) ∧ W.cell? ⟨w.heap.size + 2, 5, none⟩ = some (.string y.f4.f1) ∧ W.cell? ⟨w.heap.size + 2, 6, none⟩ = some (.slice Ay y.f5.length cy)) := ⟨fun W h => ⟨(blk_cell h.1 0).trans rfl, (blk_cell h.1 1).trans rfl, (blk_cell h.1 2).trans rfl, (blk_cell h.1 3).trans rfl, (blk_cell h.1 4).trans rfl, (blk_cell h.1 5).trans rfl, (blk_cell h.1 6).trans rfl, (blk_cell h.2.1 0).trans rfl, (blk_cell h.2.1 1).trans rfl, (blk_cell h.2.1 2).trans rfl, (blk_cell h.2.1 3).trans rfl, (blk_cell h.2.1 4).trans rfl, (blk_cell h.2.1 5).trans rfl, (blk_cell h.2.1 6).trans rfl, (blk_cell h.2.2 0).trans rfl, (blk_cell h.2.2 1).trans rfl, (blk_cell h.2.2 2).trans rfl, (blk_cell h.2.2 3).trans rfl, (blk_cell h.2.2 4).trans rfl, (blk_cell h.2.2 5).trans rfl, (blk_cell h.2.2 6).trans rfl⟩⟩
  have HSD : Aside0 (∀ W, XD w #[.slice A n c, .string p0, .string p1, .string p2, .string p3, .string p4, .string p5] #[.int .i64 x.f0, .bool x.f1, .int .i64 x.f2, .string x.f3, .string x.f4.f0, .string x.f4.f1, .slice Ax x.f5.length cx] #[.int .i64 y.f0, .bool y.f1, .int .i64 y.f2, .string y.f3, .string y.f4.f0, .string y.f4.f1, .slice Ay y.f5.length cy] W → W.cell? ⟨w.heap.size, 0, none⟩ = some (.slice A n c) ∧ W.cell? ⟨w.heap.size, 1, none⟩ = some (.string p0) ∧ W.cell? ⟨w.heap.size, 2, none⟩ = some (.string p1) ∧ W.cell? ⟨w.heap.size, 3, none⟩ = some (.string p2) ∧ W.cell? ⟨w.heap.size, 4, none⟩ = some (.string p3) ∧ W.cell? ⟨w.heap.size, 5, none⟩ = some (.string p4) ∧ W.cell? ⟨w.heap.size, 6, none⟩ = some (.string p5) ∧ W.cell? ⟨w.heap.size + 1, 0, none⟩ = some (.int .i64 x.f0) ∧ W.cell? ⟨w.heap.size + 1, 1, none⟩ = some (.bool x.f1) ∧ W.cell? ⟨w.heap.size + 1, 2, none⟩ = some (.int .i64 x.f2) ∧ W.cell? ⟨w.heap.size + 1, 3, none⟩ = some (.string x.f3) ∧ W.cell? ⟨w.heap.size + 1, 4, none⟩ = some (.string x.f4.f0) ∧ W.cell? ⟨w.heap.size + 1, 5, none⟩ = some (.string x.f4.f1) ∧ W.cell? ⟨w.heap.size + 1, 6, none⟩ = some (.slice Ax x.f5.length cx) ∧ W.cell? ⟨w.heap.size + 2, 0, none⟩ = some (.int .i64 y.f0) ∧ W.cell? ⟨w.heap.size + 2, 1, none⟩ = some (.bool y.f1) ∧ W.cell? ⟨w.heap.size + 2, 2, none⟩ = some (.int .i64 y.f2) ∧ W.cell? ⟨w.heap.size + 2, 3, none⟩ = some (.string y.f3) ∧ W.cell? ⟨w.heap.size + 2, 4, none⟩ = some (.string y.f4.f0) ∧ W.cell? ⟨w.heap.size + 2, 5, none⟩ = some (.string y.f4.f1) ∧ W.cell? ⟨w.heap.size + 2, 6, none⟩ = some (.slice Ay y.f5.length cy)) := ⟨fun W h => ⟨(blk_cell h.b0 0).trans rfl, (blk_cell h.b0 1).trans rfl, (blk_cell h.b0 2).trans rfl, (blk_cell h.b0 3).trans rfl, (blk_cell h.b0 4).trans rfl, (blk_cell h.b0 5).trans rfl, (blk_cell h.b0 6).trans rfl, (blk_cell h.b1 0).trans rfl, (blk_cell h.b1 1).trans rfl, (blk_cell h.b1 2).trans rfl, (blk_cell h.b1 3).trans rfl, (blk_cell h.b1 4).trans rfl, (blk_cell h.b1 5).trans rfl, (blk_cell h.b1 6).trans rfl, (blk_cell h.b2 0).trans rfl, (blk_cell h.b2 1).trans rfl, (blk_cell h.b2 2).trans rfl, (blk_cell h.b2 3).trans rfl, (blk_cell h.b2 4).trans rfl, (blk_cell h.b2 5).trans rfl, (blk_cell h.b2 6).trans rfl⟩⟩
  have HI : Aside0 (∀ W, Below w.heap.size w W → Calls Tryz.prog 54 #[.agg #[.slice A n c, .string p0, .string p1, .string p2, .string p3, .string p4, .string p5], ofV x.f0 x.f1 x.f2 x.f3 x.f4.f0 x.f4.f1 Ax x.f5.length cx, ofV y.f0 y.f1 y.f2 y.f3 y.f4.f0 y.f4.f1 Ay y.f5.length cy] W (Gv W r er)) := ⟨fun W hW => hI W Ax Ay cx cy (below_step hw hW) (Kd.C_below hCx hW) (Kd.C_below hCy hW)⟩
  clear hI hw hCx hCy hlx hly
  go_enter Tryz.func35, Tryz.ntmps35
  go_upto_region 11 with (fail)
  generalize (((w.alloc (.cells #[.slice A n c, .string p0, .string p1, .string p2, .string p3, .string p4, .string p5] 70)).alloc (.cells #[.int .i64 x.f0, .bool x.f1, .int .i64 x.f2, .string x.f3, .string x.f4.f0, .string x.f4.f1, .slice Ax x.f5.length cx] 39)).alloc (.cells #[.int .i64 y.f0, .bool y.f1, .int .i64 y.f2, .string y.f3, .string y.f4.f0, .string y.f4.f1, .slice Ay y.f5.length cy] 39)).alloc (.cells #[.int .i64 0, .bool false, .int .i64 0, .string ⟨#[]⟩, .string ⟨#[]⟩, .string ⟨#[]⟩, .slice none 0 0] 39) = w3 at HX ⊢
  replace HX : Aside0 (XD w #[.slice A n c, .string p0, .string p1, .string p2, .string p3, .string p4, .string p5] #[.int .i64 x.f0, .bool x.f1, .int .i64 x.f2, .string x.f3, .string x.f4.f0, .string x.f4.f1, .slice Ax x.f5.length cx] #[.int .i64 y.f0, .bool y.f1, .int .i64 y.f2, .string y.f3, .string y.f4.f0, .string y.f4.f1, .slice Ay y.f5.length cy] w3.drew) := ⟨HX.out.step (below_drew1 (Below.refl _ _))⟩
  refine start_ (n := 10) (S := fun W => W.cell? ⟨w.heap.size, 0, none⟩ = some (.slice A n c) ∧ W.cell? ⟨w.heap.size, 1, none⟩ = some (.string p0) ∧ W.cell? ⟨w.heap.size, 2, none⟩ = some (.string p1) ∧ W.cell? ⟨w.heap.size, 3, none⟩ = some (.string p2) ∧ W.cell? ⟨w.heap.size, 4, none⟩ = some (.string p3) ∧ W.cell? ⟨w.heap.size, 5, none⟩ = some (.string p4) ∧ W.cell? ⟨w.heap.size, 6, none⟩ = some (.string p5) ∧ W.cell? ⟨w.heap.size + 1, 0, none⟩ = some (.int .i64 x.f0) ∧ W.cell? ⟨w.heap.size + 1, 1, none⟩ = some (.bool x.f1) ∧ W.cell? ⟨w.heap.size + 1, 2, none⟩ = some (.int .i64 x.f2) ∧ W.cell? ⟨w.heap.size + 1, 3, none⟩ = some (.string x.f3) ∧ W.cell? ⟨w.heap.size + 1, 4, none⟩ = some (.string x.f4.f0) ∧ W.cell? ⟨w.heap.size + 1, 5, none⟩ = some (.string x.f4.f1) ∧ W.cell? ⟨w.heap.size + 1, 6, none⟩ = some (.slice Ax x.f5.length cx) ∧ W.cell? ⟨w.heap.size + 2, 0, none⟩ = some (.int .i64 y.f0) ∧ W.cell? ⟨w.heap.size + 2, 1, none⟩ = some (.bool y.f1) ∧ W.cell? ⟨w.heap.size + 2, 2, none⟩ = some (.int .i64 y.f2) ∧ W.cell? ⟨w.heap.size + 2, 3, none⟩ = some (.string y.f3) ∧ W.cell? ⟨w.heap.size + 2, 4, none⟩ = some (.string y.f4.f0) ∧ W.cell? ⟨w.heap.size + 2, 5, none⟩ = some (.string y.f4.f1) ∧ W.cell? ⟨w.heap.size + 2, 6, none⟩ = some (.slice Ay y.f5.length cy)) (ds := []) #[false, false, false, false, false, false, false, false, false, false] (by kernel_rfl) rfl rfl (HSD.out _ HX.out) (fun hHeld => ?_)
  refine with_tabW rd11_tab rd11_bits (fun HT_ HW_ => ?_)
  generalize w3.drew = wd at HX hHeld ⊢
  refine tS_ 0 39 (fa 10 1) HT_ HW_ hHeld ?_
  refine tS_ 1 40 (fa 10 3) HT_ HW_ hHeld ?_
  refine tS_ 3 42 (fa 10 11) HT_ HW_ hHeld ?_
  refine one_ (i := 2) (N := some 41) #[true, true, true, true, false, false, false, false, false, false] rfl rfl (one_of HT_.out (by kernel_rfl)) (by decide) (fun K hK => ?_)
  refine goes_ Tryz.func47 (by kernel_rfl) rfl #[.agg #[.int .i64 x.f0, .bool x.f1, .int .i64 x.f2, .string x.f3, .string x.f4.f0, .string x.f4.f1, .slice Ax x.f5.length cx]] (by rfl) rfl rfl gm_ ?_
  refine (of_any _ _ _ _ _ _ _ _ _ _).mono ?_
  rintro e w4 ⟨rfl, hb⟩
  refine ⟨_, rfl, ?_⟩
  replace HX := Aside0.mk (HX.out.step hb)
  clear hb
  refine hK.out _ _ (HSD.out _ HX.out) (fun hHeld => ?_)
  clear hK K
  refine norm_ (a' := ?_) ?_ ?_
  rotate_left
  · show Act.put _ (some 41) _ = _
    simp only [Act.put, List.setIfInBounds_toArray, List.set_cons_zero, List.set_cons_succ, i64_w, i32_w]
    rfl
  refine one_ (i := 4) (N := some 43) #[true, true, true, true, true, false, false, false, false, false] rfl rfl (one_of HT_.out (by kernel_rfl)) (by decide) (fun K hK => ?_)
  refine goes_ Tryz.func47 (by kernel_rfl) rfl #[.agg #[.int .i64 y.f0, .bool y.f1, .int .i64 y.f2, .string y.f3, .string y.f4.f0, .string y.f4.f1, .slice Ay y.f5.length cy]] (by rfl) rfl rfl gm_ ?_
  refine (of_any _ _ _ _ _ _ _ _ _ _).mono ?_
  rintro e w5 ⟨rfl, hb⟩
  refine ⟨_, rfl, ?_⟩
  replace HX := Aside0.mk (HX.out.step hb)
  clear hb
  refine hK.out _ _ (HSD.out _ HX.out) (fun hHeld => ?_)
  clear hK K
  refine norm_ (a' := ?_) ?_ ?_
  rotate_left
  · show Act.put _ (some 43) _ = _
    simp only [Act.put, List.setIfInBounds_toArray, List.set_cons_zero, List.set_cons_succ, i64_w, i32_w]
    rfl
  refine one_ (i := 5) (N := some 44) #[true, true, true, true, true, true, false, false, false, false] rfl rfl (one_of HT_.out (by kernel_rfl)) (by decide) (fun K hK => ?_)
  refine goes_ Tryz.func54 (by kernel_rfl) rfl #[.agg #[.slice A n c, .string p0, .string p1, .string p2, .string p3, .string p4, .string p5], ofV x.f0 x.f1 x.f2 x.f3 x.f4.f0 x.f4.f1 Ax x.f5.length cx, ofV y.f0 y.f1 y.f2 y.f3 y.f4.f0 y.f4.f1 Ay y.f5.length cy] (by rfl) rfl rfl gm_ ?_
  refine (HI.out _ HX.out.be).mono ?_
  rintro e w6 ⟨K6, rfl, hV, hb⟩
  obtain ⟨A8, c8, rfl⟩ := Kd.V_slice hV
  have hXl := blk_lt HX.out.b3
  have HV := Aside0.mk hV
  clear hV
  refine ⟨_, rfl, ?_⟩
  replace HX := Aside0.mk (HX.out.step hb)
  clear hb
  refine hK.out _ _ (HSD.out _ HX.out) (fun hHeld => ?_)
  clear hK K
  refine norm_ (a' := ?_) ?_ ?_
  rotate_left
  · show Act.put _ (some 44) _ = _
    simp only [Act.put, List.setIfInBounds_toArray, List.set_cons_zero, List.set_cons_succ, i64_w, i32_w]
    rfl
  refine pS_ 6 45 (fa 10 127) HT_ ?_
  refine pS_ 7 46 (fa 10 255) HT_ ?_
  refine one_ (i := 8) (N := none) #[true, true, true, true, true, true, true, true, true, false] rfl rfl (one_of HT_.out (by kernel_rfl)) (by decide) (fun K hK => ?_)
  obtain ⟨q0, q1, q2, q3, q4, q5, q6⟩ := cells7 HX.out.b3
  obtain ⟨f0, f1, f2, f3, f4, f5, f6⟩ := froz7 HX.out.b3
  refine skip_ (w1 := ?_) (by rfl) rfl ?_ ?_
  rotate_left
  · go_simp
    rfl
  refine hK.out _ _ (HSP.out _ (HX.out.put _ _ _ _ _ _ _)) (fun hHeld => ?_)
  clear hK K
  refine pS_ 9 9 (fa 10 1023) HT_ ?_
  refine done_ (done_of HT_.out (by kernel_rfl)) ?_
  try go_wp2
  (try simp only [Exit.inBlock, Exit.then])
  refine bodyPost_ret (results_row_tmp rfl _ _ (w.heap.size + 3) 39 _ (0, 0) _ rfl (set7_blk HX.out.b3 _ _ _ _ _ _ _) Tryz.underlying39 rfl (by kernel_rfl)) rfl ?_
  exact ⟨_, rfl, V_fin HV.out hXl (by omega) _ _ _ _ _ _ _, set7_below HX.out.be (by omega) _ _ _ _ _ _ _⟩
end Go.Proofs.YtelibndkkokadaaGreat.EV
