import Derived.Test.YtelibndkkokadaaGB0
import Derived.Test.YtelibndkkokadaaEV3
import Derived.Test.YtelibndkkokadaaSqz
import Derived.Deep.RegionWith
import Derived.Deep.CutRange
namespace Go.Proofs.Ytelibndkkokadaa.EV
open Go.RowKit Go.Proofs.YtelibndkkokadaaW.PrintWords Go.Proofs.YtelibndkkokadaaW.PrintLast Go.Proofs.Ytelibndkkokadaa.HandV Go.Proofs.YtelibndkkokadaaW.PrintMore
open Go.Proofs.Ytelibndkkokadaa.GB
attribute [local go_sem] max2_int min2_int max_two min_two max_three min_three max_four min_four   -- for this text's walks alone
set_option linter.unusedVariables false
set_option linter.unusedSimpArgs false
-- IMPORT .EV3
-- IMPORT .Sqz
-- IMPORT Derived.Deep.RegionWith
-- IMPORT Derived.Deep.CutRange
/-- The boxes of a call of expr, and the kids of its tree. -/
structure XK (w : World) (wc ec : Array Value) (g : Nat) (kk : Array Value) (W : World) : Prop where
  b0 : W.heap[w.heap.size]? = some (.cells wc 108 (0, 0))
  b1 : W.heap[w.heap.size + 1]? = some (.cells ec 72 (0, 0))
  b2 : W.heap[w.heap.size + 2]? = some zO
  bk : W.heap[g]? = some (.cells kk 72 (0, 0))
  be : Below w.heap.size w W
  lt : g < w.heap.size
theorem XK.step {w W W' : World} {wc ec kk : Array Value} {g : Nat} (h : XK w wc ec g kk W) (hb : Below W.heap.size W W') : XK w wc ec g kk W' := ⟨blk_below h.b0 hb, blk_below h.b1 hb, blk_below h.b2 hb, blk_below h.bk hb, below_step h.be hb, h.lt⟩
theorem XK.new (w : World) (wc ec kk : Array Value) (g : Nat) (hk : w.heap[g]? = some (.cells kk 72 (0, 0))) : XK w wc ec g kk (((w.alloc (.cells wc 108 (0, 0))).alloc (.cells ec 72 (0, 0))).alloc zO) :=
  ⟨blk_alloc (blk_alloc (blk_new _ _) _) _, blk_alloc (bn2 _ _ _) _, bn3 _ _ _ _, blk_alloc (blk_alloc (blk_alloc hk _) _) _, below_alloc (below_alloc (below_alloc (Below.refl _ _) _) _) _, blk_lt hk⟩
theorem XK.put {w W : World} {wc ec kk : Array Value} {g q : Nat} (h : XK w wc ec g kk W) (hq : w.heap.size + 3 ≤ q) (v0 v1 v2 v3 v4 v5 v6 : Value) : XK w wc ec g kk (set7 W q v0 v1 v2 v3 v4 v5 v6) :=
  ⟨set7_far h.b0 (by omega) _ _ _ _ _ _ _, set7_far h.b1 (by omega) _ _ _ _ _ _ _, set7_far h.b2 (by omega) _ _ _ _ _ _ _, set7_far h.bk (by have := h.lt; omega) _ _ _ _ _ _ _, set7_below h.be (by omega) _ _ _ _ _ _ _, h.lt⟩
theorem XK.le {w W : World} {wc ec kk : Array Value} {g : Nat} (h : XK w wc ec g kk W) : w.heap.size + 3 ≤ W.heap.size := by have := blk_lt h.b2; omega
/-- And one kid's value in its box. -/
structure XL (w : World) (wc ec : Array Value) (g : Nat) (kk : Array Value) (gx : Nat) (cx : Array Value) (W : World) : Prop extends XK w wc ec g kk W where
  bx : W.heap[gx]? = some (.cells cx 55 (0, 0))
  lx : w.heap.size + 3 ≤ gx
theorem XL.step {w W W' : World} {wc ec kk cx : Array Value} {g gx : Nat} (h : XL w wc ec g kk gx cx W) (hb : Below W.heap.size W W') : XL w wc ec g kk gx cx W' := ⟨h.toXK.step hb, blk_below h.bx hb, h.lx⟩
theorem XL.put {w W : World} {wc ec kk cx : Array Value} {g gx q : Nat} (h : XL w wc ec g kk gx cx W) (hq : w.heap.size + 3 ≤ q) (hne : gx ≠ q) (v0 v1 v2 v3 v4 v5 v6 : Value) : XL w wc ec g kk gx cx (set7 W q v0 v1 v2 v3 v4 v5 v6) :=
  ⟨h.toXK.put hq _ _ _ _ _ _ _, set7_far h.bx hne _ _ _ _ _ _ _, h.lx⟩
def rv9_T : Bool × List (List Nat × List Nat) := (true, [([], []), ([], []), ([1], [1]), ([2], [2]), ([3], [3]), ([0, 4], [0, 4]), ([5], [5]), ([6], [6]), ([6], [6]), ([], []), ([9, 7, 5, 0, 1, 2, 3, 4, 5, 6, 7, 9], [7, 9]), ([8, 10, 0, 1, 2, 3, 4, 5, 6, 7, 8, 9, 10], [8])])
def rv9_B : List Nat := [0, 0, 2, 6, 14, 31, 63, 127, 127, 0, 767, 2047]
theorem rv9_tab : rtab .any (opsOf Try.f71 9) = rv9_T := by kernel_rfl
theorem rv9_bits : waitsOk rv9_T.2 rv9_B = true := by kernel_rfl
def rv14_T : Bool × List (List Nat × List Nat) := (true, [([], []), ([], []), ([1], [1]), ([2], [2]), ([3], [3]), ([0, 4], [0, 4]), ([5], [5]), ([6], [6]), ([6], [6]), ([], []), ([9, 7, 5, 0, 1, 2, 3, 4, 5, 6, 7, 9], [7, 9]), ([8, 10, 0, 1, 2, 3, 4, 5, 6, 7, 8, 9, 10], [8])])
def rv14_B : List Nat := [0, 0, 2, 6, 14, 31, 63, 127, 127, 0, 767, 2047]
theorem rv14_tab : rtab .any (opsOf Try.f71 14) = rv14_T := by kernel_rfl
theorem rv14_bits : waitsOk rv14_T.2 rv14_B = true := by kernel_rfl
set_option maxRecDepth 100000 in
set_option maxHeartbeats 16000000 in
theorem expr_two (A : Option Addr) (n c : Nat) (p0 p1 p2 p3 p4 p5 : ByteArray) (o : Int) (b : Bool) (m : Int) (s t i : ByteArray) (g kc : Nat) (o0 : Int) (b0 : Bool) (m0 : Int) (s0 t0 i0 : ByteArray) (K0 : Value) (o1 : Int) (b1 : Bool) (m1 : Int) (s1 t1 i1 : ByteArray) (K1 : Value) (x y r : Fl) (er : Int) (ho : 6 < o) (ho2 : o < 23) (W0 : World) (hk : W0.heap[g]? = some (.cells #[.int .i64 o0, .bool b0, .int .i64 m0, .string s0, .string t0, .string i0, K0, .int .i64 o1, .bool b1, .int .i64 m1, .string s1, .string t1, .string i1, K1] 72 (0, 0)))
    (h0 : Says (.agg #[.slice A n c, .string p0, .string p1, .string p2, .string p3, .string p4, .string p5]) (.agg #[.int .i64 o0, .bool b0, .int .i64 m0, .string s0, .string t0, .string i0, K0]) x 0 W0) (h1 : Says (.agg #[.slice A n c, .string p0, .string p1, .string p2, .string p3, .string p4, .string p5]) (.agg #[.int .i64 o1, .bool b1, .int .i64 m1, .string s1, .string t1, .string i1, K1]) y 0 W0) (hD : DSays (.agg #[.slice A n c, .string p0, .string p1, .string p2, .string p3, .string p4, .string p5]) o x y r er W0) : Says (.agg #[.slice A n c, .string p0, .string p1, .string p2, .string p3, .string p4, .string p5]) (.agg #[.int .i64 o, .bool b, .int .i64 m, .string s, .string t, .string i, .slice (some ⟨g, 0, none⟩) 2 kc]) r er W0 := by
  intro w hw
  have c1 : decide (o < 6) = false := decide_eq_false (by omega)
  have c2 : (o == 6) = false := beq_eq_false_iff_ne.mpr (by omega)
  have c3 : decide (23 ≤ o) = false := decide_eq_false (by omega)
  have c4 : (o == 25) = false := beq_eq_false_iff_ne.mpr (by omega)
  have HH0 := Aside0.mk (h0.step hw)
  have HH1 := Aside0.mk (h1.step hw)
  have HHD := Aside0.mk (hD.step hw)
  have HX : Aside0 (XK w #[.slice A n c, .string p0, .string p1, .string p2, .string p3, .string p4, .string p5] #[.int .i64 o, .bool b, .int .i64 m, .string s, .string t, .string i, .slice (some ⟨g, 0, none⟩) 2 kc] g #[.int .i64 o0, .bool b0, .int .i64 m0, .string s0, .string t0, .string i0, K0, .int .i64 o1, .bool b1, .int .i64 m1, .string s1, .string t1, .string i1, K1] _) := ⟨XK.new w _ _ _ g (blk_below hk hw)⟩
  have HS0 : Aside0 (∀ W, XK w #[.slice A n c, .string p0, .string p1, .string p2, .string p3, .string p4, .string p5] #[.int .i64 o, .bool b, .int .i64 m, .string s, .string t, .string i, .slice (some ⟨g, 0, none⟩) 2 kc] g #[.int .i64 o0, .bool b0, .int .i64 m0, .string s0, .string t0, .string i0, K0, .int .i64 o1, .bool b1, .int .i64 m1, .string s1, .string t1, .string i1, K1] W → W.cell? ⟨w.heap.size, 0, none⟩ = some (.slice A n c) ∧ W.cell? ⟨w.heap.size, 1, none⟩ = some (.string p0) ∧ W.cell? ⟨w.heap.size, 2, none⟩ = some (.string p1) ∧ W.cell? ⟨w.heap.size, 3, none⟩ = some (.string p2) ∧ W.cell? ⟨w.heap.size, 4, none⟩ = some (.string p3) ∧ W.cell? ⟨w.heap.size, 5, none⟩ = some (.string p4) ∧ W.cell? ⟨w.heap.size, 6, none⟩ = some (.string p5) ∧ W.cell? ⟨w.heap.size + 1, 6, none⟩ = some (.slice (some ⟨g, 0, none⟩) 2 kc) ∧ W.cell? ⟨g, 0, none⟩ = some (.int .i64 o0) ∧ W.cell? ⟨g, 1, none⟩ = some (.bool b0) ∧ W.cell? ⟨g, 2, none⟩ = some (.int .i64 m0) ∧ W.cell? ⟨g, 3, none⟩ = some (.string s0) ∧ W.cell? ⟨g, 4, none⟩ = some (.string t0) ∧ W.cell? ⟨g, 5, none⟩ = some (.string i0) ∧ W.cell? ⟨g, 6, none⟩ = some (K0)) := ⟨fun W h => ⟨(blk_cell h.b0 0).trans rfl, (blk_cell h.b0 1).trans rfl, (blk_cell h.b0 2).trans rfl, (blk_cell h.b0 3).trans rfl, (blk_cell h.b0 4).trans rfl, (blk_cell h.b0 5).trans rfl, (blk_cell h.b0 6).trans rfl, (blk_cell h.b1 6).trans rfl, (blk_cell h.bk 0).trans rfl, (blk_cell h.bk 1).trans rfl, (blk_cell h.bk 2).trans rfl, (blk_cell h.bk 3).trans rfl, (blk_cell h.bk 4).trans rfl, (blk_cell h.bk 5).trans rfl, (blk_cell h.bk 6).trans rfl⟩⟩
  have HS1 : Aside0 (∀ gx W, XL w #[.slice A n c, .string p0, .string p1, .string p2, .string p3, .string p4, .string p5] #[.int .i64 o, .bool b, .int .i64 m, .string s, .string t, .string i, .slice (some ⟨g, 0, none⟩) 2 kc] g #[.int .i64 o0, .bool b0, .int .i64 m0, .string s0, .string t0, .string i0, K0, .int .i64 o1, .bool b1, .int .i64 m1, .string s1, .string t1, .string i1, K1] gx #[.int .i64 x.k, .bool x.b, .int .i64 x.m, .string x.s, .string x.t, .string x.i, .slice none 0 0] W → W.cell? ⟨w.heap.size, 0, none⟩ = some (.slice A n c) ∧ W.cell? ⟨w.heap.size, 1, none⟩ = some (.string p0) ∧ W.cell? ⟨w.heap.size, 2, none⟩ = some (.string p1) ∧ W.cell? ⟨w.heap.size, 3, none⟩ = some (.string p2) ∧ W.cell? ⟨w.heap.size, 4, none⟩ = some (.string p3) ∧ W.cell? ⟨w.heap.size, 5, none⟩ = some (.string p4) ∧ W.cell? ⟨w.heap.size, 6, none⟩ = some (.string p5) ∧ W.cell? ⟨w.heap.size + 1, 6, none⟩ = some (.slice (some ⟨g, 0, none⟩) 2 kc) ∧ W.cell? ⟨g, 7, none⟩ = some (.int .i64 o1) ∧ W.cell? ⟨g, 8, none⟩ = some (.bool b1) ∧ W.cell? ⟨g, 9, none⟩ = some (.int .i64 m1) ∧ W.cell? ⟨g, 10, none⟩ = some (.string s1) ∧ W.cell? ⟨g, 11, none⟩ = some (.string t1) ∧ W.cell? ⟨g, 12, none⟩ = some (.string i1) ∧ W.cell? ⟨g, 13, none⟩ = some (K1)) := ⟨fun _ W h => ⟨(blk_cell h.b0 0).trans rfl, (blk_cell h.b0 1).trans rfl, (blk_cell h.b0 2).trans rfl, (blk_cell h.b0 3).trans rfl, (blk_cell h.b0 4).trans rfl, (blk_cell h.b0 5).trans rfl, (blk_cell h.b0 6).trans rfl, (blk_cell h.b1 6).trans rfl, (blk_cell h.bk 7).trans rfl, (blk_cell h.bk 8).trans rfl, (blk_cell h.bk 9).trans rfl, (blk_cell h.bk 10).trans rfl, (blk_cell h.bk 11).trans rfl, (blk_cell h.bk 12).trans rfl, (blk_cell h.bk 13).trans rfl⟩⟩
  clear h0 h1 hD hk hw ho ho2
  unfold GivF
  go_enter Try.func71, Try.ntmps71
  go_upto_region 9 with (fail)
  generalize ((w.alloc (.cells #[.slice A n c, .string p0, .string p1, .string p2, .string p3, .string p4, .string p5] 108)).alloc (.cells #[.int .i64 o, .bool b, .int .i64 m, .string s, .string t, .string i, .slice (some ⟨g, 0, none⟩) 2 kc] 72)).alloc (.cells #[.int .i64 0, .bool false, .int .i64 0, .string ⟨#[]⟩, .string ⟨#[]⟩, .string ⟨#[]⟩, .slice none 0 0] 55) = w3 at HX ⊢
  replace HX : Aside0 (XK w #[.slice A n c, .string p0, .string p1, .string p2, .string p3, .string p4, .string p5] #[.int .i64 o, .bool b, .int .i64 m, .string s, .string t, .string i, .slice (some ⟨g, 0, none⟩) 2 kc] g #[.int .i64 o0, .bool b0, .int .i64 m0, .string s0, .string t0, .string i0, K0, .int .i64 o1, .bool b1, .int .i64 m1, .string s1, .string t1, .string i1, K1] w3.drew) := ⟨HX.out.step (below_drew1 (Below.refl _ _))⟩
  refine start_ (n := 12) (S := fun W => W.cell? ⟨w.heap.size, 0, none⟩ = some (.slice A n c) ∧ W.cell? ⟨w.heap.size, 1, none⟩ = some (.string p0) ∧ W.cell? ⟨w.heap.size, 2, none⟩ = some (.string p1) ∧ W.cell? ⟨w.heap.size, 3, none⟩ = some (.string p2) ∧ W.cell? ⟨w.heap.size, 4, none⟩ = some (.string p3) ∧ W.cell? ⟨w.heap.size, 5, none⟩ = some (.string p4) ∧ W.cell? ⟨w.heap.size, 6, none⟩ = some (.string p5) ∧ W.cell? ⟨w.heap.size + 1, 6, none⟩ = some (.slice (some ⟨g, 0, none⟩) 2 kc) ∧ W.cell? ⟨g, 0, none⟩ = some (.int .i64 o0) ∧ W.cell? ⟨g, 1, none⟩ = some (.bool b0) ∧ W.cell? ⟨g, 2, none⟩ = some (.int .i64 m0) ∧ W.cell? ⟨g, 3, none⟩ = some (.string s0) ∧ W.cell? ⟨g, 4, none⟩ = some (.string t0) ∧ W.cell? ⟨g, 5, none⟩ = some (.string i0) ∧ W.cell? ⟨g, 6, none⟩ = some (K0)) (ds := []) #[false, false, false, false, false, false, false, false, false, false, false, false] (by kernel_rfl) rfl rfl (HS0.out _ HX.out) (fun hHeld => ?_)
  refine with_tabW rv9_tab rv9_bits (fun HT_ HW_ => ?_)
  generalize w3.drew = wd at HX hHeld ⊢
  refine pS_ 1 65 (fa 12 2) HT_ ?_
  refine tS_ 0 64 (fa 12 3) HT_ HW_ hHeld ?_
  refine tS_ 2 66 (fa 12 7) HT_ HW_ hHeld ?_
  refine pS_ 3 67 (fa 12 15) HT_ ?_
  refine tS_ 4 68 (fa 12 31) HT_ HW_ hHeld ?_
  refine two_ (i := 5) (j := 9) (Ni := some 69) (Nj := some 6) #[true, true, true, true, true, true, false, false, false, false, false, false] #[true, true, true, true, true, false, false, false, false, true, false, false] rfl rfl rfl rfl (two_of HT_.out (by kernel_rfl)) (by decide) (by decide) (fun K hK => ?_) (fun K hK => ?_)
  case' refine_2 =>
    refine box_step ?hg (N := 6) ?hd (cs := #[.int .i64 0, .bool false, .int .i64 0, .string ⟨#[]⟩, .string ⟨#[]⟩, .string ⟨#[]⟩, .slice none 0 0]) (t := 55) ?hr ?_; (case hd => rfl); (case hg => rfl); (case hr => first | (go_simp; done) | (go_simp; rfl))
    intro gx hg wb_ hbox hb
    have hgx : Aside0 (w.heap.size + 3 ≤ gx) := ⟨by have := HX.out.le; omega⟩
    replace HX := Aside0.mk (HX.out.step hb)
    have hbox := Aside0.mk hbox
    clear hg hb
    refine hK.out _ _ (HS0.out _ HX.out) (fun hHeld => ?_)
    clear hK K
    refine norm_ (a' := ?_) ?_ ?_
    rotate_left
    · show Act.put _ (some 6) _ = _
      simp only [Act.put, List.setIfInBounds_toArray, List.set_cons_zero, List.set_cons_succ, i64_w, i32_w]
      rfl
    refine one_ (i := 5) (N := some 69) #[true, true, true, true, true, true, false, false, false, true, false, false] rfl rfl (one_of HT_.out (by kernel_rfl)) (by decide) (fun K hK => ?_)
    refine goes_ Try.func71 (by kernel_rfl) rfl #[.agg #[.slice A n c, .string p0, .string p1, .string p2, .string p3, .string p4, .string p5], .agg #[.int .i64 o0, .bool b0, .int .i64 m0, .string s0, .string t0, .string i0, K0]] (by rfl) rfl rfl gm_ ?_
    refine (HH0.out _ HX.out.be).mono ?_
    rintro e w2 ⟨rfl, hb⟩
    refine ⟨_, rfl, ?_⟩
    replace HX := Aside0.mk (HX.out.step hb)
    replace hbox := Aside0.mk (blk_below hbox.out hb)
    clear hb
    refine hK.out _ _ (HS0.out _ HX.out) (fun hHeld => ?_)
    clear hK K
    refine norm_ (a' := ?_) ?_ ?_
    rotate_left
    · show Act.put _ (some 69) _ = _
      simp only [Act.put, List.setIfInBounds_toArray, List.set_cons_zero, List.set_cons_succ, i64_w, i32_w]
      rfl
    refine pS_ 6 63 (fa 12 639) HT_ ?_
    refine pS_ 7 70 (fa 12 767) HT_ ?_
    refine pS_ 8 71 (fa 12 1023) HT_ ?_
    refine one_ (i := 10) (N := none) #[true, true, true, true, true, true, true, true, true, true, true, false] rfl rfl (one_of HT_.out (by kernel_rfl)) (by decide) (fun K hK => ?_)
    obtain ⟨q0, q1, q2, q3, q4, q5, q6⟩ := cells7 hbox.out
    obtain ⟨f0, f1, f2, f3, f4, f5, f6⟩ := froz7 hbox.out
    refine skip_ (w1 := ?_) (by rfl) rfl ?_ ?_
    rotate_left
    · go_simp
      rfl
    have HV : Aside0 ((((((((w2.setCell ⟨gx, 0, none⟩ (.int .i64 x.k)).setCell ⟨gx, 1, none⟩ (.bool x.b)).setCell ⟨gx, 2, none⟩ (.int .i64 x.m)).setCell ⟨gx, 3, none⟩ (.string x.s)).setCell ⟨gx, 4, none⟩ (.string x.t)).setCell ⟨gx, 5, none⟩ (.string x.i)).setCell ⟨gx, 6, none⟩ (.slice none 0 0)).heap[gx]? = some (.cells #[.int .i64 x.k, .bool x.b, .int .i64 x.m, .string x.s, .string x.t, .string x.i, .slice none 0 0] 55 (0, 0))) := ⟨set7_blk hbox.out _ _ _ _ _ _ _⟩
    replace HX : Aside0 (XK w #[.slice A n c, .string p0, .string p1, .string p2, .string p3, .string p4, .string p5] #[.int .i64 o, .bool b, .int .i64 m, .string s, .string t, .string i, .slice (some ⟨g, 0, none⟩) 2 kc] g #[.int .i64 o0, .bool b0, .int .i64 m0, .string s0, .string t0, .string i0, K0, .int .i64 o1, .bool b1, .int .i64 m1, .string s1, .string t1, .string i1, K1] (((((((w2.setCell ⟨gx, 0, none⟩ (.int .i64 x.k)).setCell ⟨gx, 1, none⟩ (.bool x.b)).setCell ⟨gx, 2, none⟩ (.int .i64 x.m)).setCell ⟨gx, 3, none⟩ (.string x.s)).setCell ⟨gx, 4, none⟩ (.string x.t)).setCell ⟨gx, 5, none⟩ (.string x.i)).setCell ⟨gx, 6, none⟩ (.slice none 0 0))) := ⟨HX.out.put hgx.out _ _ _ _ _ _ _⟩
    clear q0 q1 q2 q3 q4 q5 q6 f0 f1 f2 f3 f4 f5 f6 hbox
    generalize ((((((w2.setCell ⟨gx, 0, none⟩ (.int .i64 x.k)).setCell ⟨gx, 1, none⟩ (.bool x.b)).setCell ⟨gx, 2, none⟩ (.int .i64 x.m)).setCell ⟨gx, 3, none⟩ (.string x.s)).setCell ⟨gx, 4, none⟩ (.string x.t)).setCell ⟨gx, 5, none⟩ (.string x.i)).setCell ⟨gx, 6, none⟩ (.slice none 0 0) = wx at HV HX ⊢
    replace HX : Aside0 (XL w #[.slice A n c, .string p0, .string p1, .string p2, .string p3, .string p4, .string p5] #[.int .i64 o, .bool b, .int .i64 m, .string s, .string t, .string i, .slice (some ⟨g, 0, none⟩) 2 kc] g #[.int .i64 o0, .bool b0, .int .i64 m0, .string s0, .string t0, .string i0, K0, .int .i64 o1, .bool b1, .int .i64 m1, .string s1, .string t1, .string i1, K1] gx #[.int .i64 x.k, .bool x.b, .int .i64 x.m, .string x.s, .string x.t, .string x.i, .slice none 0 0] wx) := ⟨⟨HX.out, HV.out, hgx.out⟩⟩
    clear HV
    refine hK.out _ _ (HS0.out _ HX.out.toXK) (fun hHeld => ?_)
    clear hK K
    refine pS_ 11 7 (fa 12 4095) HT_ ?_
    refine done_ (done_of HT_.out (by kernel_rfl)) ?_
    skip
  case' refine_1 =>
    refine goes_ Try.func71 (by kernel_rfl) rfl #[.agg #[.slice A n c, .string p0, .string p1, .string p2, .string p3, .string p4, .string p5], .agg #[.int .i64 o0, .bool b0, .int .i64 m0, .string s0, .string t0, .string i0, K0]] (by rfl) rfl rfl gm_ ?_
    refine (HH0.out _ HX.out.be).mono ?_
    rintro e w2 ⟨rfl, hb⟩
    refine ⟨_, rfl, ?_⟩
    replace HX := Aside0.mk (HX.out.step hb)
    clear hb
    refine hK.out _ _ (HS0.out _ HX.out) (fun hHeld => ?_)
    clear hK K
    refine norm_ (a' := ?_) ?_ ?_
    rotate_left
    · show Act.put _ (some 69) _ = _
      simp only [Act.put, List.setIfInBounds_toArray, List.set_cons_zero, List.set_cons_succ, i64_w, i32_w]
      rfl
    refine pS_ 6 63 (fa 12 127) HT_ ?_
    refine pS_ 7 70 (fa 12 255) HT_ ?_
    refine pS_ 8 71 (fa 12 511) HT_ ?_
    refine one_ (i := 9) (N := some 6) #[true, true, true, true, true, true, true, true, true, true, false, false] rfl rfl (one_of HT_.out (by kernel_rfl)) (by decide) (fun K hK => ?_)
    refine box_step ?hg (N := 6) ?hd (cs := #[.int .i64 0, .bool false, .int .i64 0, .string ⟨#[]⟩, .string ⟨#[]⟩, .string ⟨#[]⟩, .slice none 0 0]) (t := 55) ?hr ?_; (case hd => rfl); (case hg => rfl); (case hr => first | (go_simp; done) | (go_simp; rfl))
    intro gx hg wb_ hbox hb
    have hgx : Aside0 (w.heap.size + 3 ≤ gx) := ⟨by have := HX.out.le; omega⟩
    replace HX := Aside0.mk (HX.out.step hb)
    have hbox := Aside0.mk hbox
    clear hg hb
    refine hK.out _ _ (HS0.out _ HX.out) (fun hHeld => ?_)
    clear hK K
    refine norm_ (a' := ?_) ?_ ?_
    rotate_left
    · show Act.put _ (some 6) _ = _
      simp only [Act.put, List.setIfInBounds_toArray, List.set_cons_zero, List.set_cons_succ, i64_w, i32_w]
      rfl
    refine one_ (i := 10) (N := none) #[true, true, true, true, true, true, true, true, true, true, true, false] rfl rfl (one_of HT_.out (by kernel_rfl)) (by decide) (fun K hK => ?_)
    obtain ⟨q0, q1, q2, q3, q4, q5, q6⟩ := cells7 hbox.out
    obtain ⟨f0, f1, f2, f3, f4, f5, f6⟩ := froz7 hbox.out
    refine skip_ (w1 := ?_) (by rfl) rfl ?_ ?_
    rotate_left
    · go_simp
      rfl
    have HV : Aside0 ((((((((wb_.setCell ⟨gx, 0, none⟩ (.int .i64 x.k)).setCell ⟨gx, 1, none⟩ (.bool x.b)).setCell ⟨gx, 2, none⟩ (.int .i64 x.m)).setCell ⟨gx, 3, none⟩ (.string x.s)).setCell ⟨gx, 4, none⟩ (.string x.t)).setCell ⟨gx, 5, none⟩ (.string x.i)).setCell ⟨gx, 6, none⟩ (.slice none 0 0)).heap[gx]? = some (.cells #[.int .i64 x.k, .bool x.b, .int .i64 x.m, .string x.s, .string x.t, .string x.i, .slice none 0 0] 55 (0, 0))) := ⟨set7_blk hbox.out _ _ _ _ _ _ _⟩
    replace HX : Aside0 (XK w #[.slice A n c, .string p0, .string p1, .string p2, .string p3, .string p4, .string p5] #[.int .i64 o, .bool b, .int .i64 m, .string s, .string t, .string i, .slice (some ⟨g, 0, none⟩) 2 kc] g #[.int .i64 o0, .bool b0, .int .i64 m0, .string s0, .string t0, .string i0, K0, .int .i64 o1, .bool b1, .int .i64 m1, .string s1, .string t1, .string i1, K1] (((((((wb_.setCell ⟨gx, 0, none⟩ (.int .i64 x.k)).setCell ⟨gx, 1, none⟩ (.bool x.b)).setCell ⟨gx, 2, none⟩ (.int .i64 x.m)).setCell ⟨gx, 3, none⟩ (.string x.s)).setCell ⟨gx, 4, none⟩ (.string x.t)).setCell ⟨gx, 5, none⟩ (.string x.i)).setCell ⟨gx, 6, none⟩ (.slice none 0 0))) := ⟨HX.out.put hgx.out _ _ _ _ _ _ _⟩
    clear q0 q1 q2 q3 q4 q5 q6 f0 f1 f2 f3 f4 f5 f6 hbox
    generalize ((((((wb_.setCell ⟨gx, 0, none⟩ (.int .i64 x.k)).setCell ⟨gx, 1, none⟩ (.bool x.b)).setCell ⟨gx, 2, none⟩ (.int .i64 x.m)).setCell ⟨gx, 3, none⟩ (.string x.s)).setCell ⟨gx, 4, none⟩ (.string x.t)).setCell ⟨gx, 5, none⟩ (.string x.i)).setCell ⟨gx, 6, none⟩ (.slice none 0 0) = wx at HV HX ⊢
    replace HX : Aside0 (XL w #[.slice A n c, .string p0, .string p1, .string p2, .string p3, .string p4, .string p5] #[.int .i64 o, .bool b, .int .i64 m, .string s, .string t, .string i, .slice (some ⟨g, 0, none⟩) 2 kc] g #[.int .i64 o0, .bool b0, .int .i64 m0, .string s0, .string t0, .string i0, K0, .int .i64 o1, .bool b1, .int .i64 m1, .string s1, .string t1, .string i1, K1] gx #[.int .i64 x.k, .bool x.b, .int .i64 x.m, .string x.s, .string x.t, .string x.i, .slice none 0 0] wx) := ⟨⟨HX.out, HV.out, hgx.out⟩⟩
    clear HV
    refine hK.out _ _ (HS0.out _ HX.out.toXK) (fun hHeld => ?_)
    clear hK K
    refine pS_ 11 7 (fa 12 4095) HT_ ?_
    refine done_ (done_of HT_.out (by kernel_rfl)) ?_
    skip
  all_goals (have q5 : wx.cell? ⟨w.heap.size + 1, 6, none⟩ = some (.slice (some ⟨g, 0, none⟩) 2 kc) := (blk_cell HX.out.b1 6).trans rfl)
  all_goals (go_upto_region 14 with (fail))
  all_goals clear q5
  all_goals (
    replace HX : Aside0 (XL w #[.slice A n c, .string p0, .string p1, .string p2, .string p3, .string p4, .string p5] #[.int .i64 o, .bool b, .int .i64 m, .string s, .string t, .string i, .slice (some ⟨g, 0, none⟩) 2 kc] g #[.int .i64 o0, .bool b0, .int .i64 m0, .string s0, .string t0, .string i0, K0, .int .i64 o1, .bool b1, .int .i64 m1, .string s1, .string t1, .string i1, K1] gx #[.int .i64 x.k, .bool x.b, .int .i64 x.m, .string x.s, .string x.t, .string x.i, .slice none 0 0] wx.drew) := ⟨HX.out.step (below_drew1 (Below.refl _ _))⟩
    refine start_ (n := 12) (S := fun W => W.cell? ⟨w.heap.size, 0, none⟩ = some (.slice A n c) ∧ W.cell? ⟨w.heap.size, 1, none⟩ = some (.string p0) ∧ W.cell? ⟨w.heap.size, 2, none⟩ = some (.string p1) ∧ W.cell? ⟨w.heap.size, 3, none⟩ = some (.string p2) ∧ W.cell? ⟨w.heap.size, 4, none⟩ = some (.string p3) ∧ W.cell? ⟨w.heap.size, 5, none⟩ = some (.string p4) ∧ W.cell? ⟨w.heap.size, 6, none⟩ = some (.string p5) ∧ W.cell? ⟨w.heap.size + 1, 6, none⟩ = some (.slice (some ⟨g, 0, none⟩) 2 kc) ∧ W.cell? ⟨g, 7, none⟩ = some (.int .i64 o1) ∧ W.cell? ⟨g, 8, none⟩ = some (.bool b1) ∧ W.cell? ⟨g, 9, none⟩ = some (.int .i64 m1) ∧ W.cell? ⟨g, 10, none⟩ = some (.string s1) ∧ W.cell? ⟨g, 11, none⟩ = some (.string t1) ∧ W.cell? ⟨g, 12, none⟩ = some (.string i1) ∧ W.cell? ⟨g, 13, none⟩ = some (K1)) (ds := []) #[false, false, false, false, false, false, false, false, false, false, false, false] (by kernel_rfl) rfl rfl (HS1.out _ _ HX.out) (fun hHeld => ?_)
    refine with_tabW rv14_tab rv14_bits (fun HT_ HW_ => ?_)
    generalize wx.drew = wd at HX hHeld ⊢
    refine pS_ 1 88 (fa 12 2) HT_ ?_
    refine tS_ 0 87 (fa 12 3) HT_ HW_ hHeld ?_
    refine tS_ 2 89 (fa 12 7) HT_ HW_ hHeld ?_
    refine pS_ 3 90 (fa 12 15) HT_ ?_
    refine tS_ 4 91 (fa 12 31) HT_ HW_ hHeld ?_
    refine two_ (i := 5) (j := 9) (Ni := some 92) (Nj := some 8) #[true, true, true, true, true, true, false, false, false, false, false, false] #[true, true, true, true, true, false, false, false, false, true, false, false] rfl rfl rfl rfl (two_of HT_.out (by kernel_rfl)) (by decide) (by decide) (fun K hK => ?_) (fun K hK => ?_)
    case' refine_2 =>
      refine box_step ?hg (N := 8) ?hd (cs := #[.int .i64 0, .bool false, .int .i64 0, .string ⟨#[]⟩, .string ⟨#[]⟩, .string ⟨#[]⟩, .slice none 0 0]) (t := 55) ?hr ?_; (case hd => rfl); (case hg => rfl); (case hr => first | (go_simp; done) | (go_simp; rfl))
      intro gy hg wb_ hbox hb
      have hgx : Aside0 (w.heap.size + 3 ≤ gy) := ⟨by have := HX.out.toXK.le; omega⟩
      have hne : Aside0 (gx < gy) := ⟨by have := blk_lt HX.out.bx; omega⟩
      replace HX := Aside0.mk (HX.out.step hb)
      have hbox := Aside0.mk hbox
      clear hg hb
      refine hK.out _ _ (HS1.out _ _ HX.out) (fun hHeld => ?_)
      clear hK K
      refine norm_ (a' := ?_) ?_ ?_
      rotate_left
      · show Act.put _ (some 8) _ = _
        simp only [Act.put, List.setIfInBounds_toArray, List.set_cons_zero, List.set_cons_succ, i64_w, i32_w]
        rfl
      refine one_ (i := 5) (N := some 92) #[true, true, true, true, true, true, false, false, false, true, false, false] rfl rfl (one_of HT_.out (by kernel_rfl)) (by decide) (fun K hK => ?_)
      refine goes_ Try.func71 (by kernel_rfl) rfl #[.agg #[.slice A n c, .string p0, .string p1, .string p2, .string p3, .string p4, .string p5], .agg #[.int .i64 o1, .bool b1, .int .i64 m1, .string s1, .string t1, .string i1, K1]] (by rfl) rfl rfl gm_ ?_
      refine (HH1.out _ HX.out.be).mono ?_
      rintro e w2 ⟨rfl, hb⟩
      refine ⟨_, rfl, ?_⟩
      replace HX := Aside0.mk (HX.out.step hb)
      replace hbox := Aside0.mk (blk_below hbox.out hb)
      clear hb
      refine hK.out _ _ (HS1.out _ _ HX.out) (fun hHeld => ?_)
      clear hK K
      refine norm_ (a' := ?_) ?_ ?_
      rotate_left
      · show Act.put _ (some 92) _ = _
        simp only [Act.put, List.setIfInBounds_toArray, List.set_cons_zero, List.set_cons_succ, i64_w, i32_w]
        rfl
      refine pS_ 6 86 (fa 12 639) HT_ ?_
      refine pS_ 7 93 (fa 12 767) HT_ ?_
      refine pS_ 8 94 (fa 12 1023) HT_ ?_
      refine one_ (i := 10) (N := none) #[true, true, true, true, true, true, true, true, true, true, true, false] rfl rfl (one_of HT_.out (by kernel_rfl)) (by decide) (fun K hK => ?_)
      obtain ⟨q0, q1, q2, q3, q4, q5, q6⟩ := cells7 hbox.out
      obtain ⟨f0, f1, f2, f3, f4, f5, f6⟩ := froz7 hbox.out
      refine skip_ (w1 := ?_) (by rfl) rfl ?_ ?_
      rotate_left
      · go_simp
        rfl
      have HV : Aside0 ((((((((w2.setCell ⟨gy, 0, none⟩ (.int .i64 y.k)).setCell ⟨gy, 1, none⟩ (.bool y.b)).setCell ⟨gy, 2, none⟩ (.int .i64 y.m)).setCell ⟨gy, 3, none⟩ (.string y.s)).setCell ⟨gy, 4, none⟩ (.string y.t)).setCell ⟨gy, 5, none⟩ (.string y.i)).setCell ⟨gy, 6, none⟩ (.slice none 0 0)).heap[gy]? = some (.cells #[.int .i64 y.k, .bool y.b, .int .i64 y.m, .string y.s, .string y.t, .string y.i, .slice none 0 0] 55 (0, 0))) := ⟨set7_blk hbox.out _ _ _ _ _ _ _⟩
      replace HX : Aside0 (XL w #[.slice A n c, .string p0, .string p1, .string p2, .string p3, .string p4, .string p5] #[.int .i64 o, .bool b, .int .i64 m, .string s, .string t, .string i, .slice (some ⟨g, 0, none⟩) 2 kc] g #[.int .i64 o0, .bool b0, .int .i64 m0, .string s0, .string t0, .string i0, K0, .int .i64 o1, .bool b1, .int .i64 m1, .string s1, .string t1, .string i1, K1] gx #[.int .i64 x.k, .bool x.b, .int .i64 x.m, .string x.s, .string x.t, .string x.i, .slice none 0 0] (((((((w2.setCell ⟨gy, 0, none⟩ (.int .i64 y.k)).setCell ⟨gy, 1, none⟩ (.bool y.b)).setCell ⟨gy, 2, none⟩ (.int .i64 y.m)).setCell ⟨gy, 3, none⟩ (.string y.s)).setCell ⟨gy, 4, none⟩ (.string y.t)).setCell ⟨gy, 5, none⟩ (.string y.i)).setCell ⟨gy, 6, none⟩ (.slice none 0 0))) := ⟨HX.out.put hgx.out (by have := hne.out; omega) _ _ _ _ _ _ _⟩
      clear q0 q1 q2 q3 q4 q5 q6 f0 f1 f2 f3 f4 f5 f6 hbox
      generalize ((((((w2.setCell ⟨gy, 0, none⟩ (.int .i64 y.k)).setCell ⟨gy, 1, none⟩ (.bool y.b)).setCell ⟨gy, 2, none⟩ (.int .i64 y.m)).setCell ⟨gy, 3, none⟩ (.string y.s)).setCell ⟨gy, 4, none⟩ (.string y.t)).setCell ⟨gy, 5, none⟩ (.string y.i)).setCell ⟨gy, 6, none⟩ (.slice none 0 0) = wy at HV HX ⊢
      refine hK.out _ _ (HS1.out _ _ HX.out) (fun hHeld => ?_)
      clear hK K
      refine pS_ 11 7 (fa 12 4095) HT_ ?_
      refine done_ (done_of HT_.out (by kernel_rfl)) ?_
      skip
    case' refine_1 =>
      refine goes_ Try.func71 (by kernel_rfl) rfl #[.agg #[.slice A n c, .string p0, .string p1, .string p2, .string p3, .string p4, .string p5], .agg #[.int .i64 o1, .bool b1, .int .i64 m1, .string s1, .string t1, .string i1, K1]] (by rfl) rfl rfl gm_ ?_
      refine (HH1.out _ HX.out.be).mono ?_
      rintro e w2 ⟨rfl, hb⟩
      refine ⟨_, rfl, ?_⟩
      replace HX := Aside0.mk (HX.out.step hb)
      clear hb
      refine hK.out _ _ (HS1.out _ _ HX.out) (fun hHeld => ?_)
      clear hK K
      refine norm_ (a' := ?_) ?_ ?_
      rotate_left
      · show Act.put _ (some 92) _ = _
        simp only [Act.put, List.setIfInBounds_toArray, List.set_cons_zero, List.set_cons_succ, i64_w, i32_w]
        rfl
      refine pS_ 6 86 (fa 12 127) HT_ ?_
      refine pS_ 7 93 (fa 12 255) HT_ ?_
      refine pS_ 8 94 (fa 12 511) HT_ ?_
      refine one_ (i := 9) (N := some 8) #[true, true, true, true, true, true, true, true, true, true, false, false] rfl rfl (one_of HT_.out (by kernel_rfl)) (by decide) (fun K hK => ?_)
      refine box_step ?hg (N := 8) ?hd (cs := #[.int .i64 0, .bool false, .int .i64 0, .string ⟨#[]⟩, .string ⟨#[]⟩, .string ⟨#[]⟩, .slice none 0 0]) (t := 55) ?hr ?_; (case hd => rfl); (case hg => rfl); (case hr => first | (go_simp; done) | (go_simp; rfl))
      intro gy hg wb_ hbox hb
      have hgx : Aside0 (w.heap.size + 3 ≤ gy) := ⟨by have := HX.out.toXK.le; omega⟩
      have hne : Aside0 (gx < gy) := ⟨by have := blk_lt HX.out.bx; omega⟩
      replace HX := Aside0.mk (HX.out.step hb)
      have hbox := Aside0.mk hbox
      clear hg hb
      refine hK.out _ _ (HS1.out _ _ HX.out) (fun hHeld => ?_)
      clear hK K
      refine norm_ (a' := ?_) ?_ ?_
      rotate_left
      · show Act.put _ (some 8) _ = _
        simp only [Act.put, List.setIfInBounds_toArray, List.set_cons_zero, List.set_cons_succ, i64_w, i32_w]
        rfl
      refine one_ (i := 10) (N := none) #[true, true, true, true, true, true, true, true, true, true, true, false] rfl rfl (one_of HT_.out (by kernel_rfl)) (by decide) (fun K hK => ?_)
      obtain ⟨q0, q1, q2, q3, q4, q5, q6⟩ := cells7 hbox.out
      obtain ⟨f0, f1, f2, f3, f4, f5, f6⟩ := froz7 hbox.out
      refine skip_ (w1 := ?_) (by rfl) rfl ?_ ?_
      rotate_left
      · go_simp
        rfl
      have HV : Aside0 ((((((((wb_.setCell ⟨gy, 0, none⟩ (.int .i64 y.k)).setCell ⟨gy, 1, none⟩ (.bool y.b)).setCell ⟨gy, 2, none⟩ (.int .i64 y.m)).setCell ⟨gy, 3, none⟩ (.string y.s)).setCell ⟨gy, 4, none⟩ (.string y.t)).setCell ⟨gy, 5, none⟩ (.string y.i)).setCell ⟨gy, 6, none⟩ (.slice none 0 0)).heap[gy]? = some (.cells #[.int .i64 y.k, .bool y.b, .int .i64 y.m, .string y.s, .string y.t, .string y.i, .slice none 0 0] 55 (0, 0))) := ⟨set7_blk hbox.out _ _ _ _ _ _ _⟩
      replace HX : Aside0 (XL w #[.slice A n c, .string p0, .string p1, .string p2, .string p3, .string p4, .string p5] #[.int .i64 o, .bool b, .int .i64 m, .string s, .string t, .string i, .slice (some ⟨g, 0, none⟩) 2 kc] g #[.int .i64 o0, .bool b0, .int .i64 m0, .string s0, .string t0, .string i0, K0, .int .i64 o1, .bool b1, .int .i64 m1, .string s1, .string t1, .string i1, K1] gx #[.int .i64 x.k, .bool x.b, .int .i64 x.m, .string x.s, .string x.t, .string x.i, .slice none 0 0] (((((((wb_.setCell ⟨gy, 0, none⟩ (.int .i64 y.k)).setCell ⟨gy, 1, none⟩ (.bool y.b)).setCell ⟨gy, 2, none⟩ (.int .i64 y.m)).setCell ⟨gy, 3, none⟩ (.string y.s)).setCell ⟨gy, 4, none⟩ (.string y.t)).setCell ⟨gy, 5, none⟩ (.string y.i)).setCell ⟨gy, 6, none⟩ (.slice none 0 0))) := ⟨HX.out.put hgx.out (by have := hne.out; omega) _ _ _ _ _ _ _⟩
      clear q0 q1 q2 q3 q4 q5 q6 f0 f1 f2 f3 f4 f5 f6 hbox
      generalize ((((((wb_.setCell ⟨gy, 0, none⟩ (.int .i64 y.k)).setCell ⟨gy, 1, none⟩ (.bool y.b)).setCell ⟨gy, 2, none⟩ (.int .i64 y.m)).setCell ⟨gy, 3, none⟩ (.string y.s)).setCell ⟨gy, 4, none⟩ (.string y.t)).setCell ⟨gy, 5, none⟩ (.string y.i)).setCell ⟨gy, 6, none⟩ (.slice none 0 0) = wy at HV HX ⊢
      refine hK.out _ _ (HS1.out _ _ HX.out) (fun hHeld => ?_)
      clear hK K
      refine pS_ 11 7 (fa 12 4095) HT_ ?_
      refine done_ (done_of HT_.out (by kernel_rfl)) ?_
      skip
    all_goals skip
    all_goals (obtain ⟨q0, q1, q2, q3, q4, q5, q6⟩ := cells7 HX.out.b0)
    all_goals (have q7 : wy.cell? ⟨w.heap.size + 1, 0, none⟩ = some (.int .i64 o) := (blk_cell HX.out.b1 0).trans rfl)
    all_goals (obtain ⟨r0, r1, r2, r3, r4, r5, r6⟩ := cells7 HX.out.bx)
    all_goals (obtain ⟨u0, u1, u2, u3, u4, u5, u6⟩ := cells7 HV.out)
    all_goals (go_wp2_with (go_at_call 96; refine (HHD.out _ HX.out.be).mono ?_; rintro e w5 ⟨rfl, hb⟩; have HXe := Aside0.mk (HX.out.step hb); clear hb q0 q1 q2 q3 q4 q5 q6 q7 r0 r1 r2 r3 r4 r5 r6 u0 u1 u2 u3 u4 u5 u6; obtain ⟨q0, q1, q2, q3, q4, q5, q6⟩ := cells7 HXe.out.b2; obtain ⟨f0, f1, f2, f3, f4, f5, f6⟩ := froz7 HXe.out.b2))
    all_goals (try simp only [Exit.inBlock, Exit.then])
    all_goals (refine bodyPost_ret (results_row_tmp rfl _ _ (w.heap.size + 2) 55 _ (0, 0) _ rfl (set7_blk HXe.out.b2 _ _ _ _ _ _ _) Try.underlying55 rfl (by kernel_rfl)) rfl ?_)
    all_goals (exact ⟨rfl, set7_below HXe.out.be (by omega) _ _ _ _ _ _ _⟩))
end Go.Proofs.Ytelibndkkokadaa.EV
