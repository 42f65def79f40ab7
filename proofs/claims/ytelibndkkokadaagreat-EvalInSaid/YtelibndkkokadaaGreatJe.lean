import Derived.Test.YtelibndkkokadaaGreatGB0
import Derived.Test.YtelibndkkokadaaGreatJd
import Derived.Test.YtelibndkkokadaaGreatJp
import Derived.Test.YtelibndkkokadaaGreatJz
import Derived.Test.YtelibndkkokadaaGreatJr
import Derived.Test.YtelibndkkokadaaGreatGB1
namespace Go.Proofs.YtelibndkkokadaaGreat.GA
open Go.RowKit Go.Proofs.YtelibndkkokadaaGreatW.PrintWords Go.Proofs.YtelibndkkokadaaGreatW.PrintLast Go.Proofs.YtelibndkkokadaaGreat.HandV Go.Proofs.YtelibndkkokadaaGreatW.PrintMore
open Go.Proofs.YtelibndkkokadaaGreat.GB
attribute [local go_sem] max2_int min2_int max_two min_two max_three min_three max_four min_four   -- for this text's walks alone
set_option linter.unusedVariables false
set_option linter.unusedSimpArgs false
-- IMPORT .B4
-- IMPORT .P3s
-- FN chancellaw5_within
-- FN chancellaw5_kind
-- FN chancellaw5_name
theorem kind5_calls (a : Int) (w : World) : Calls Tryz.prog 27 #[.int .i64 a] w fun e w' => ∃ b : ByteArray, e = .returned (.string b) ∧ b.size ≤ 1000000 ∧ Below w.heap.size w w' := by
  obtain ⟨r, hr, hs⟩ := GP.kind_tot a
  exact (chancellaw5_kind.calls a r w hr).mono fun e w' ⟨he, hb⟩ => ⟨r, he, hs, hb⟩
theorem name5_calls (a : Int) (w : World) : Calls Tryz.prog 29 #[.int .i64 a] w fun e w' => ∃ b : ByteArray, e = .returned (.string b) ∧ Below w.heap.size w w' := by
  obtain ⟨r, hr⟩ := GP.name_tot a
  exact (chancellaw5_name.calls a r w hr).mono fun e w' ⟨he, hb⟩ => ⟨r, he, hb⟩
theorem within5_calls (a m : Int) (hm : 0 < m) (hm2 : m ≤ 1000000) (w : World) : Calls Tryz.prog 24 #[.int .i64 a, .int .i64 m] w fun e w' => ∃ r : Int, e = .returned (.int .i64 r) ∧ 0 ≤ r ∧ r < m ∧ Below w.heap.size w w' := by
  obtain ⟨r, hr, h0, h1⟩ := GP.within_tot5 a m hm hm2
  exact (chancellaw5_within.calls a m r w hr).mono fun e w' ⟨he, nd, hw⟩ => ⟨r, he, h0, h1, by rw [hw]; exact pw_below_drewN (Below.refl _ _) nd⟩
abbrev zE : Obj := .cells #[.string ⟨#[]⟩, .string ⟨#[]⟩, .slice none 0 0, .slice none 0 0] 32 (0, 0)
theorem zE_cells {W : World} {g : Nat} (h : W.heap[g]? = some zE) : W.cell? ⟨g, 0, none⟩ = some (.string ⟨#[]⟩) ∧ W.cell? ⟨g, 1, none⟩ = some (.string ⟨#[]⟩) ∧ W.cell? ⟨g, 2, none⟩ = some (.slice none 0 0) ∧ W.cell? ⟨g, 3, none⟩ = some (.slice none 0 0) ∧ W.frozen? ⟨g, 0, none⟩ = false ∧ W.frozen? ⟨g, 1, none⟩ = false ∧ W.frozen? ⟨g, 2, none⟩ = false ∧ W.frozen? ⟨g, 3, none⟩ = false :=
  ⟨(blk_cell h 0).trans rfl, (blk_cell h 1).trans rfl, (blk_cell h 2).trans rfl, (blk_cell h 3).trans rfl, blk_frozen h 0, blk_frozen h 1, blk_frozen h 2, blk_frozen h 3⟩
theorem put4 {W : World} {g : Nat} {t : TypeId} {a0 a1 a2 a3 : Value} (h : W.heap[g]? = some (.cells #[a0, a1, a2, a3] t (0, 0))) (v0 v1 v2 v3 : Value) : ((((W.setCell ⟨g, 0, none⟩ v0).setCell ⟨g, 1, none⟩ v1).setCell ⟨g, 2, none⟩ v2).setCell ⟨g, 3, none⟩ v3).heap[g]? = some (.cells #[v0, v1, v2, v3] t (0, 0)) := by
  replace h := blk_put (cs := #[a0, a1, a2, a3]) (cs' := #[v0, a1, a2, a3]) h 0 v0 rfl
  replace h := blk_put (cs := #[v0, a1, a2, a3]) (cs' := #[v0, v1, a2, a3]) h 1 v1 rfl
  replace h := blk_put (cs := #[v0, v1, a2, a3]) (cs' := #[v0, v1, v2, a3]) h 2 v2 rfl
  replace h := blk_put (cs := #[v0, v1, v2, a3]) (cs' := #[v0, v1, v2, v3]) h 3 v3 rfl
  exact h
theorem below4 {W w : World} {g : Nat} (h : Below w.heap.size w W) (hg : w.heap.size ≤ g) (v0 v1 v2 v3 : Value) : Below w.heap.size w ((((W.setCell ⟨g, 0, none⟩ v0).setCell ⟨g, 1, none⟩ v1).setCell ⟨g, 2, none⟩ v2).setCell ⟨g, 3, none⟩ v3) := below_set (below_set (below_set (below_set h hg) hg) hg) hg
theorem far4 {α : Type} {d : Kd α} {e : Nat} {base : Nat} {ok : Nat → Prop} {v : Value} {xs : List α} {W : World} {g : Nat} (h : Kd.N d e W base ok v xs) (hok : ∀ k, ok k → k ≠ g) (v0 v1 v2 v3 : Value) : Kd.N d e ((((W.setCell ⟨g, 0, none⟩ v0).setCell ⟨g, 1, none⟩ v1).setCell ⟨g, 2, none⟩ v2).setCell ⟨g, 3, none⟩ v3) base ok v xs :=
  Kd.N_far (p := ⟨g, 3, none⟩) (Kd.N_far (p := ⟨g, 2, none⟩) (Kd.N_far (p := ⟨g, 1, none⟩) (Kd.N_far (p := ⟨g, 0, none⟩) h hok _) hok _) hok _) hok _
/-- The call's own two boxes. -/
structure SE (w : World) (cs : Array Value) (W : World) : Prop where
  b0 : W.heap[w.heap.size]? = some (.cells cs 64 (0, 0))
  b1 : W.heap[w.heap.size + 1]? = some zE
  be : Below w.heap.size w W
theorem SE.step {w W W' : World} {cs : Array Value} (h : SE w cs W) (hb : Below W.heap.size W W') : SE w cs W' :=
  ⟨blk_below h.b0 hb, blk_below h.b1 hb, below_step h.be hb⟩
theorem SE.far {w W : World} {cs : Array Value} {g : Nat} (h : SE w cs W) (hg : w.heap.size + 1 < g) (j : Nat) (v : Value) : SE w cs (W.setCell ⟨g, j, none⟩ v) :=
  ⟨blk_far h.b0 (p := ⟨g, j, none⟩) (show w.heap.size ≠ g by omega) v, blk_far h.b1 (p := ⟨g, j, none⟩) (show w.heap.size + 1 ≠ g by omega) v, below_set h.be (by omega)⟩
theorem SE.grown {w W W' : World} {cs : Array Value} {v : Value} (h : SE w cs W) (hv : ∀ k, v.ownBlock = some k → w.heap.size + 1 < k) (hg : W.grownBy W' v.ownBlock) (hb : Below w.heap.size w W') : SE w cs W' :=
  ⟨blk_grown h.b0 hg (fun e => by have := hv _ e.symm; omega), blk_grown h.b1 hg (fun e => by have := hv _ e.symm; omega), hb⟩
/-- What the entity's own box holds so far. -/
structure SB (w : World) (cs : Array Value) (g : Nat) (kd id : ByteArray) (v2 v3 : Value) (us : List U) (ats : List S67) (W : World) : Prop where
  s : SE w cs W
  hg : w.heap.size + 1 < g
  b3 : W.heap[g]? = some (.cells #[.string kd, .string id, v2, v3] 32 (0, 0))
  r2 : Kd.R k28 28 W w.heap.size (fun q => w.heap.size + 1 < q ∧ q ≠ g) v2 us
  n3 : Kd.N k67 67 W w.heap.size (fun q => w.heap.size + 1 < q ∧ q ≠ g) v3 ats
theorem SB.step {w W W' : World} {cs : Array Value} {g : Nat} {kd id : ByteArray} {v2 v3 : Value} {us : List U} {ats : List S67} (h : SB w cs g kd id v2 v3 us ats W) (hb : Below W.heap.size W W') : SB w cs g kd id v2 v3 us ats W' :=
  ⟨h.s.step hb, h.hg, blk_below h.b3 hb, Kd.R_below h.r2 hb, Kd.N_below h.n3 hb⟩
theorem SB.cells {w W : World} {cs : Array Value} {g : Nat} {kd id : ByteArray} {v2 v3 : Value} {us : List U} {ats : List S67} (h : SB w cs g kd id v2 v3 us ats W) : W.cell? ⟨g, 0, none⟩ = some (.string kd) ∧ W.cell? ⟨g, 1, none⟩ = some (.string id) ∧ W.cell? ⟨g, 2, none⟩ = some v2 ∧ W.cell? ⟨g, 3, none⟩ = some v3 ∧ W.frozen? ⟨g, 2, none⟩ = false ∧ W.frozen? ⟨g, 3, none⟩ = false :=
  ⟨(blk_cell h.b3 0).trans rfl, (blk_cell h.b3 1).trans rfl, (blk_cell h.b3 2).trans rfl, (blk_cell h.b3 3).trans rfl, blk_frozen h.b3 2, blk_frozen h.b3 3⟩
/-- A parent more. -/
theorem SB.up {w W W' : World} {cs : Array Value} {g : Nat} {kd id : ByteArray} {v2 v2' : Value} {us us' : List U} (h : SB w cs g kd id v2 (.slice none 0 0) us [] W) (hr : Kd.R k28 28 W' w.heap.size (fun q => w.heap.size + 1 < q ∧ q ≠ g) v2' us') (hb : Below w.heap.size w W') (hg : W.grownBy W' v2.ownBlock) : SB w cs g kd id v2' (.slice none 0 0) us' [] (W'.setCell ⟨g, 2, none⟩ v2') := by
  have h1 := h.s.grown (fun k hk => (h.r2.1 k hk).1) hg hb
  have h2 := blk_grown h.b3 hg (fun e => (h.r2.1 g e.symm).2 rfl)
  exact ⟨h1.far h.hg 2 v2', h.hg, blk_put (cs := #[.string kd, .string id, v2, .slice none 0 0]) h2 2 v2' rfl, Kd.R_far (p := ⟨g, 2, none⟩) hr (fun k hk => hk.2) _, Kd.N_nil _ _ _ _ _⟩
/-- An attribute more. -/
theorem SB.at {w W W' : World} {cs : Array Value} {g : Nat} {kd id : ByteArray} {v2 v3 v3' : Value} {us : List U} {ats ats' : List S67} (h : SB w cs g kd id v2 v3 us ats W) (hr : Kd.N k67 67 W' w.heap.size (fun q => w.heap.size + 1 < q ∧ q ≠ g) v3' ats') (hb : Below w.heap.size w W') (hg : W.grownBy W' v3.ownBlock) : SB w cs g kd id v2 v3' us ats' (W'.setCell ⟨g, 3, none⟩ v3') := by
  have h1 := h.s.grown (fun k hk => (h.n3.1 k hk).1) hg hb
  have h2 := blk_grown h.b3 hg (Kd.N_away h.n3 (fun k hk => hk.2))
  exact ⟨h1.far h.hg 3 v3', h.hg, blk_put (cs := #[.string kd, .string id, v2, v3]) h2 3 v3' rfl, Kd.R_far (p := ⟨g, 3, none⟩) (Kd.R_over' h.r2 (Kd.N_typed h.n3) (by decide) hg) (fun k hk => hk.2) _, Kd.N_far (p := ⟨g, 3, none⟩) hr (fun k hk => hk.2) _⟩
/-- Behind the first region: a box with the uid, whenever it was made. -/
def Cut5 (w : World) (cs : Array Value) (v3 : Value) (wx : World) : Prop := ∃ (be : Nat) (kd id : ByteArray), v3 = .pointer (some ⟨be, 0, none⟩) ∧ okU ⟨kd, id⟩ = true ∧ SB w cs be kd id (.slice none 0 0) (.slice none 0 0) [] [] wx
def re_T1 : Bool × List (List Nat × List Nat) := (true, [([], []), ([0], [0]), ([1], [1]), ([], []), ([3], [3]), ([4, 2], [4]), ([5], [5]), ([6], [6]), ([7], [7]), ([8], [8]), ([2, 9], [2, 9]), ([10], [10]), ([], []), ([12, 11, 5, 0, 1, 2, 3, 4, 5, 6, 7, 8, 9, 10, 11, 12], [11, 12])])
def re_B1 : List Nat := [0, 1, 3, 0, 8, 31, 63, 127, 255, 511, 1023, 2047, 0, 8191]
theorem re_tab1 : rtab .any (opsOf Tryz.f15 1) = re_T1 := by kernel_rfl
theorem re_bits1 : waitsOk re_T1.2 re_B1 = true := by kernel_rfl
def re_T5 : Bool × List (List Nat × List Nat) := (true, [([], []), ([0], [0]), ([], []), ([2], [2]), ([], []), ([3, 4], [3, 4]), ([5], [5]), ([6], [6]), ([], []), ([8], [8]), ([], []), ([9, 10], [9, 10]), ([11], [11]), ([12], [12]), ([13, 7], [13]), ([14], [14]), ([15], [15]), ([16], [16]), ([17], [17]), ([7, 18], [7, 18]), ([19], [19]), ([1, 20, 14], [1, 20]), ([0, 1, 2, 3, 4, 5, 6, 7, 8, 9, 10, 11, 12, 13, 14, 15, 16, 17, 18, 19, 20, 21], []), ([22, 21, 21, 0, 1, 2, 3, 4, 5, 6, 7, 8, 9, 10, 11, 12, 13, 14, 15, 16, 17, 18, 19, 20, 21], [21, 22])])
def re_B5 : List Nat := [0, 1, 0, 4, 0, 28, 60, 124, 0, 256, 0, 1792, 3840, 7936, 16380, 32764, 65532, 131068, 262140, 524284, 1048572, 2097151, 4194303, 8388607]
theorem re_tab5 : rtab .any (opsOf Tryz.f15 5) = re_T5 := by kernel_rfl
theorem re_bits5 : waitsOk re_T5.2 re_B5 = true := by kernel_rfl
def re_T12 : Bool × List (List Nat × List Nat) := (true, [([], []), ([0], [0]), ([], []), ([2], [2]), ([], []), ([3, 4], [3, 4]), ([5], [5]), ([6], [6]), ([], []), ([7, 8], [7, 8]), ([9], [9]), ([1, 10, 7], [1, 10]), ([0, 1, 2, 3, 4, 5, 6, 7, 8, 9, 10, 11], []), ([12, 11, 11, 0, 1, 2, 3, 4, 5, 6, 7, 8, 9, 10, 11], [11, 12])])
def re_B12 : List Nat := [0, 1, 0, 4, 0, 28, 60, 124, 0, 508, 1020, 2047, 4095, 8191]
theorem re_tab12 : rtab .any (opsOf Tryz.f15 12) = re_T12 := by kernel_rfl
theorem re_bits12 : waitsOk re_T12.2 re_B12 = true := by kernel_rfl
set_option maxRecDepth 100000 in
set_option maxHeartbeats 8000000 in
theorem rentity (a n : Int) (ps ns : List Int) (l : List Rw) (A2 A3 A4 : Option Addr) (c2 c3 c4 : Nat) (w : World) (hr2 : (Kd.int .i64).C w A2 ps.length ps) (hc2 : ps.length ≤ c2) (hr3 : (Kd.int .i64).C w A3 ns.length ns) (hc3 : ns.length ≤ c3) (hr4 : k94.C w A4 l.length l) (hc4 : l.length ≤ c4) :
    Calls Tryz.prog 15 #[.agg #[.int .i64 a, .int .i64 n, .slice A2 ps.length c2, .slice A3 ns.length c3, .slice A4 l.length c4]] w fun e w' => ∃ (x : En) (v2 v3 : Value), e = .returned (.agg #[.string x.f0.f0, .string x.f0.f1, v2, v3]) ∧ GP.EntP x ∧ Kd.N k28 28 w' w.heap.size (fun q => w.heap.size ≤ q) v2 x.f1 ∧ Kd.N k67 67 w' w.heap.size (fun q => w.heap.size ≤ q) v3 x.f2 ∧ Below w.heap.size w w' := by
  have HR2 := Aside0.mk hr2
  have HR3 := Aside0.mk hr3
  have HR4 := Aside0.mk hr4
  clear hr2 hc2 hr3 hc3 hr4 hc4
  obtain ⟨cs, hcs⟩ : ∃ cs : Array Value, cs = #[.int .i64 a, .int .i64 n, .slice A2 ps.length c2, .slice A3 ns.length c3, .slice A4 l.length c4] := ⟨_, rfl⟩
  have HCS := Aside0.mk hcs
  clear hcs
  have HP : Aside0 (∀ W, SE w cs W → W.cell? ⟨w.heap.size, 2, none⟩ = some (.slice A2 ps.length c2) ∧ W.cell? ⟨w.heap.size, 3, none⟩ = some (.slice A3 ns.length c3) ∧ W.cell? ⟨w.heap.size, 4, none⟩ = some (.slice A4 l.length c4)) := ⟨fun W h => ⟨(blk_cell h.b0 2).trans (by rw [HCS.out]; rfl), (blk_cell h.b0 3).trans (by rw [HCS.out]; rfl), (blk_cell h.b0 4).trans (by rw [HCS.out]; rfl)⟩⟩
  have HK : Aside0 (∀ W, SE w cs W → W.cell? ⟨w.heap.size, 0, none⟩ = some (.int .i64 a) ∧ W.cell? ⟨w.heap.size, 1, none⟩ = some (.int .i64 n)) := ⟨fun W h => ⟨(blk_cell h.b0 0).trans (by rw [HCS.out]; rfl), (blk_cell h.b0 1).trans (by rw [HCS.out]; rfl)⟩⟩
  go_enter Tryz.func15, Tryz.ntmps15
  go_wp2
  have HS : Aside0 (SE w cs ((w.alloc (Obj.cells #[.int .i64 a, .int .i64 n, .slice A2 ps.length c2, .slice A3 ns.length c3, .slice A4 l.length c4] 64)).alloc zE)) := ⟨by rw [HCS.out]; exact blk_alloc (blk_new _ _) _, blk_new2 w _ _, below_alloc (below_alloc (Below.refl _ _) _) _⟩
  generalize (w.alloc (Obj.cells #[.int .i64 a, .int .i64 n, .slice A2 ps.length c2, .slice A3 ns.length c3, .slice A4 l.length c4] 64)).alloc zE = w1 at HS ⊢
  go_cut [3] from 7 to 18 (fun v3 wx => Aside0 (Cut5 w cs v3 wx))
  case first =>
    try go_wp2
    replace HS := Aside0.mk (HS.out.step (below_drew1 (Below.refl _ _)))
    refine start_ (n := 14) (S := fun W => W.cell? ⟨w.heap.size, 0, none⟩ = some (.int .i64 a) ∧ W.cell? ⟨w.heap.size, 1, none⟩ = some (.int .i64 n)) (ds := []) #[false, false, false, false, false, false, false, false, false, false, false, false, false, false] (by kernel_rfl) rfl rfl (HK.out _ HS.out) (fun hHeld => ?_)
    refine with_tabW re_tab1 re_bits1 (fun HT_ HW_ => ?_)
    generalize w1.drew = wd at HS hHeld ⊢
    refine pS_ 0 7 (fa 14 1) HT_ ?_
    refine pS_ 3 10 (fa 14 9) HT_ ?_
    refine tS_ 1 8 (fa 14 11) HT_ HW_ hHeld ?_
    refine tS_ 4 11 (fa 14 27) HT_ HW_ hHeld ?_
    refine two_ (i := 2) (j := 12) (Ni := some 9) (Nj := some 3) #[true, true, true, true, true, false, false, false, false, false, false, false, false, false] #[true, true, false, true, true, false, false, false, false, false, false, false, true, false] rfl rfl rfl rfl (two_of HT_.out (by kernel_rfl)) (by decide) (by decide) (fun K hK => ?_) (fun K hK => ?_)
    · refine goes_ Tryz.func27 (by kernel_rfl) rfl #[.int .i64 a] (by rfl) rfl rfl gm_ ?_
      refine (kind5_calls _ _).mono ?_
      rintro e wz1 ⟨kd, rfl, h0, hb⟩
      refine ⟨_, rfl, ?_⟩
      have H0 := Aside0.mk h0
      replace HS := Aside0.mk (HS.out.step hb)
      clear h0 hb
      refine hK.out _ _ (HK.out _ HS.out) (fun hHeld => ?_)
      clear hK K
      refine norm_ (a' := ?_) ?_ ?_
      rotate_left
      · show Act.put _ (some 9) _ = _
        simp only [Act.put, List.setIfInBounds_toArray, List.set_cons_zero, List.set_cons_succ, i64_w, i32_w]
        rfl
      refine two_ (i := 5) (j := 12) (Ni := some 12) (Nj := some 3) #[true, true, true, true, true, true, false, false, false, false, false, false, false, false] #[true, true, true, true, true, false, false, false, false, false, false, false, true, false] rfl rfl rfl rfl (two_of HT_.out (by kernel_rfl)) (by decide) (by decide) (fun K hK => ?_) (fun K hK => ?_)
      · refine goes_ Tryz.func24 (by kernel_rfl) rfl #[.int .i64 n, .int .i64 5] (by rfl) rfl rfl gm_ ?_
        refine (within5_calls _ 5 (by decide) (by decide) _).mono ?_
        rintro e wz2 ⟨r, rfl, h0, h1, hb⟩
        refine ⟨_, rfl, ?_⟩
        replace HS := Aside0.mk (HS.out.step hb)
        clear h0 h1 hb
        refine hK.out _ _ (HK.out _ HS.out) (fun hHeld => ?_)
        clear hK K
        refine norm_ (a' := ?_) ?_ ?_
        rotate_left
        · show Act.put _ (some 12) _ = _
          simp only [Act.put, List.setIfInBounds_toArray, List.set_cons_zero, List.set_cons_succ, i64_w, i32_w]
          rfl
        refine pS_ 6 13 (fa 14 127) HT_ ?_
        refine pS_ 7 14 (fa 14 255) HT_ ?_
        refine two_ (i := 8) (j := 12) (Ni := some 15) (Nj := some 3) #[true, true, true, true, true, true, true, true, true, false, false, false, false, false] #[true, true, true, true, true, true, true, true, false, false, false, false, true, false] rfl rfl rfl rfl (two_of HT_.out (by kernel_rfl)) (by decide) (by decide) (fun K hK => ?_) (fun K hK => ?_)
        · refine Kd.R_lit_step (Kd.int .u8) _ 5 ?hg (N := 15) ?hd (xs := ([(wrap64 (97 + r)) % 256] : List Int)) (inner := [.int .u8 ((wrap64 (97 + r)) % 256)]) (ok := fun _ => True) (okp := fun _ => True) ?hr ?hp (fun _ hk => hk) trivial (Below.refl _ _) (Nat.le_refl _) (by simp) ?_; (case hd => rfl); (case hg => rfl); (case hr => first | (go_simp; done) | (go_simp; rfl)); (case hp => exact (Reps.one (show Kd.M (Kd.int .u8) _ _ _ ((wrap64 (97 + r)) % 256) [.int .u8 ((wrap64 (97 + r)) % 256)] from rfl) (Reps.none _ _)))
          intro vs wz3 ho hb hg_ hnew_
          have HO := Aside0.mk ho
          replace HS := Aside0.mk (HS.out.step hb)
          clear ho hb hg_ hnew_
          refine hK.out _ _ (HK.out _ HS.out) (fun hHeld => ?_)
          clear hK K
          refine norm_ (a' := ?_) ?_ ?_
          rotate_left
          · show Act.put _ (some 15) _ = _
            simp only [Act.put, List.setIfInBounds_toArray, List.set_cons_zero, List.set_cons_succ, i64_w, i32_w]
            rfl
          refine two_ (i := 9) (j := 12) (Ni := some 16) (Nj := some 3) #[true, true, true, true, true, true, true, true, true, true, false, false, false, false] #[true, true, true, true, true, true, true, true, true, false, false, false, true, false] rfl rfl rfl rfl (two_of HT_.out (by kernel_rfl)) (by decide) (by decide) (fun K hK => ?_) (fun K hK => ?_)
          · have hcv := own_string (P := Tryz.prog) Tryz.underlying91 Tryz.underlying5 Tryz.underlying9 (Kd.own_of_R HO.out)
            refine value_ (w1 := ?_) (v := ?_) (by rfl) rfl ?_ ?_
            rotate_left 2
            · go_simp
              constructor
              · rfl
              · rfl
            clear hcv
            refine hK.out _ _ (HK.out _ HS.out) (fun hHeld => ?_)
            clear hK K
            refine norm_ (a' := ?_) ?_ ?_
            rotate_left
            · show Act.put _ (some 16) _ = _
              simp only [Act.put, List.setIfInBounds_toArray, List.set_cons_zero, List.set_cons_succ, i64_w, i32_w]
              rfl
            refine pS_ 10 17 (fa 14 2047) HT_ ?_
            refine pS_ 11 18 (fa 14 4095) HT_ ?_
            refine one_ (i := 12) (N := some 3) #[true, true, true, true, true, true, true, true, true, true, true, true, true, false] rfl rfl (one_of HT_.out (by kernel_rfl)) (by decide) (fun K hK => ?_)
            refine box_step ?hg (N := 3) ?hd (cs := #[.string ⟨#[]⟩, .string ⟨#[]⟩, .slice none 0 0, .slice none 0 0]) (t := 32) ?hr ?_; (case hd => rfl); (case hg => rfl); (case hr => first | (go_simp; done) | (go_simp; rfl))
            intro be hg wz4 hbox hb
            have HX := Aside0.mk hbox
            have HG : Aside0 (w.heap.size + 1 < be) := ⟨by rw [hg]; exact GT.lt_of_heapT HS.out.b1⟩
            replace HS := Aside0.mk (HS.out.step hb); replace HO := Aside0.mk (Kd.R_below HO.out hb)
            clear hbox hg hb
            refine hK.out _ _ (HK.out _ HS.out) (fun hHeld => ?_)
            clear hK K
            refine norm_ (a' := ?_) ?_ ?_
            rotate_left
            · show Act.put _ (some 3) _ = _
              simp only [Act.put, List.setIfInBounds_toArray, List.set_cons_zero, List.set_cons_succ, i64_w, i32_w]
              rfl
            refine one_ (i := 13) (N := none) #[true, true, true, true, true, true, true, true, true, true, true, true, true, true] rfl rfl (one_of HT_.out (by kernel_rfl)) (by decide) (fun K hK => ?_)
            obtain ⟨x0, x1, x2, x3, y0, y1, y2, y3⟩ := zE_cells HX.out
            refine skip_ (w1 := ?_) (by rfl) rfl ?_ ?_
            rotate_left
            · go_simp
              rfl
            have HSF := Aside0.mk (put4 HX.out (.string kd) (.string (strOfNums [(wrap64 (97 + r)) % 256])) (.slice none 0 0) (.slice none 0 0))
            replace HS := Aside0.mk ((((HS.out.far HG.out 0 (.string kd)).far HG.out 1 (.string (strOfNums [(wrap64 (97 + r)) % 256]))).far HG.out 2 (.slice none 0 0)).far HG.out 3 (.slice none 0 0))
            refine hK.out _ _ (HK.out _ HS.out) (fun hHeld => ?_)
            clear hK K
            refine done_ (done_of HT_.out (by kernel_rfl)) ?_
            clear x0 x1 x2 x3 y0 y1 y2 y3
            try go_wp2
            go_meet
            exact ⟨⟨be, kd, _, rfl, GP.okU_of H0.out (GP.str_one _), HS.out, HG.out, HSF.out, Kd.R_nil _ _ _ _ _, Kd.N_nil _ _ _ _ _⟩⟩
          · refine box_step ?hg (N := 3) ?hd (cs := #[.string ⟨#[]⟩, .string ⟨#[]⟩, .slice none 0 0, .slice none 0 0]) (t := 32) ?hr ?_; (case hd => rfl); (case hg => rfl); (case hr => first | (go_simp; done) | (go_simp; rfl))
            intro be hg wz5 hbox hb
            have HX := Aside0.mk hbox
            have HG : Aside0 (w.heap.size + 1 < be) := ⟨by rw [hg]; exact GT.lt_of_heapT HS.out.b1⟩
            replace HS := Aside0.mk (HS.out.step hb); replace HO := Aside0.mk (Kd.R_below HO.out hb)
            clear hbox hg hb
            refine hK.out _ _ (HK.out _ HS.out) (fun hHeld => ?_)
            clear hK K
            refine norm_ (a' := ?_) ?_ ?_
            rotate_left
            · show Act.put _ (some 3) _ = _
              simp only [Act.put, List.setIfInBounds_toArray, List.set_cons_zero, List.set_cons_succ, i64_w, i32_w]
              rfl
            refine one_ (i := 9) (N := some 16) #[true, true, true, true, true, true, true, true, true, true, false, false, true, false] rfl rfl (one_of HT_.out (by kernel_rfl)) (by decide) (fun K hK => ?_)
            have hcv := own_string (P := Tryz.prog) Tryz.underlying91 Tryz.underlying5 Tryz.underlying9 (Kd.own_of_R HO.out)
            refine value_ (w1 := ?_) (v := ?_) (by rfl) rfl ?_ ?_
            rotate_left 2
            · go_simp
              constructor
              · rfl
              · rfl
            clear hcv
            refine hK.out _ _ (HK.out _ HS.out) (fun hHeld => ?_)
            clear hK K
            refine norm_ (a' := ?_) ?_ ?_
            rotate_left
            · show Act.put _ (some 16) _ = _
              simp only [Act.put, List.setIfInBounds_toArray, List.set_cons_zero, List.set_cons_succ, i64_w, i32_w]
              rfl
            refine pS_ 10 17 (fa 14 6143) HT_ ?_
            refine pS_ 11 18 (fa 14 8191) HT_ ?_
            refine one_ (i := 13) (N := none) #[true, true, true, true, true, true, true, true, true, true, true, true, true, true] rfl rfl (one_of HT_.out (by kernel_rfl)) (by decide) (fun K hK => ?_)
            obtain ⟨x0, x1, x2, x3, y0, y1, y2, y3⟩ := zE_cells HX.out
            refine skip_ (w1 := ?_) (by rfl) rfl ?_ ?_
            rotate_left
            · go_simp
              rfl
            have HSF := Aside0.mk (put4 HX.out (.string kd) (.string (strOfNums [(wrap64 (97 + r)) % 256])) (.slice none 0 0) (.slice none 0 0))
            replace HS := Aside0.mk ((((HS.out.far HG.out 0 (.string kd)).far HG.out 1 (.string (strOfNums [(wrap64 (97 + r)) % 256]))).far HG.out 2 (.slice none 0 0)).far HG.out 3 (.slice none 0 0))
            refine hK.out _ _ (HK.out _ HS.out) (fun hHeld => ?_)
            clear hK K
            refine done_ (done_of HT_.out (by kernel_rfl)) ?_
            clear x0 x1 x2 x3 y0 y1 y2 y3
            try go_wp2
            go_meet
            exact ⟨⟨be, kd, _, rfl, GP.okU_of H0.out (GP.str_one _), HS.out, HG.out, HSF.out, Kd.R_nil _ _ _ _ _, Kd.N_nil _ _ _ _ _⟩⟩
        · refine box_step ?hg (N := 3) ?hd (cs := #[.string ⟨#[]⟩, .string ⟨#[]⟩, .slice none 0 0, .slice none 0 0]) (t := 32) ?hr ?_; (case hd => rfl); (case hg => rfl); (case hr => first | (go_simp; done) | (go_simp; rfl))
          intro be hg wz6 hbox hb
          have HX := Aside0.mk hbox
          have HG : Aside0 (w.heap.size + 1 < be) := ⟨by rw [hg]; exact GT.lt_of_heapT HS.out.b1⟩
          replace HS := Aside0.mk (HS.out.step hb)
          clear hbox hg hb
          refine hK.out _ _ (HK.out _ HS.out) (fun hHeld => ?_)
          clear hK K
          refine norm_ (a' := ?_) ?_ ?_
          rotate_left
          · show Act.put _ (some 3) _ = _
            simp only [Act.put, List.setIfInBounds_toArray, List.set_cons_zero, List.set_cons_succ, i64_w, i32_w]
            rfl
          refine one_ (i := 8) (N := some 15) #[true, true, true, true, true, true, true, true, true, false, false, false, true, false] rfl rfl (one_of HT_.out (by kernel_rfl)) (by decide) (fun K hK => ?_)
          refine Kd.R_lit_step (Kd.int .u8) _ 5 ?hg (N := 15) ?hd (xs := ([(wrap64 (97 + r)) % 256] : List Int)) (inner := [.int .u8 ((wrap64 (97 + r)) % 256)]) (ok := fun _ => True) (okp := fun _ => True) ?hr ?hp (fun _ hk => hk) trivial (Below.refl _ _) (Nat.le_refl _) (by simp) ?_; (case hd => rfl); (case hg => rfl); (case hr => first | (go_simp; done) | (go_simp; rfl)); (case hp => exact (Reps.one (show Kd.M (Kd.int .u8) _ _ _ ((wrap64 (97 + r)) % 256) [.int .u8 ((wrap64 (97 + r)) % 256)] from rfl) (Reps.none _ _)))
          intro vs wz7 ho hb hg_ hnew_
          have HO := Aside0.mk ho
          replace HS := Aside0.mk (HS.out.step hb); replace HX := Aside0.mk (blk_below HX.out hb)
          clear ho hb hg_ hnew_
          refine hK.out _ _ (HK.out _ HS.out) (fun hHeld => ?_)
          clear hK K
          refine norm_ (a' := ?_) ?_ ?_
          rotate_left
          · show Act.put _ (some 15) _ = _
            simp only [Act.put, List.setIfInBounds_toArray, List.set_cons_zero, List.set_cons_succ, i64_w, i32_w]
            rfl
          refine one_ (i := 9) (N := some 16) #[true, true, true, true, true, true, true, true, true, true, false, false, true, false] rfl rfl (one_of HT_.out (by kernel_rfl)) (by decide) (fun K hK => ?_)
          have hcv := own_string (P := Tryz.prog) Tryz.underlying91 Tryz.underlying5 Tryz.underlying9 (Kd.own_of_R HO.out)
          refine value_ (w1 := ?_) (v := ?_) (by rfl) rfl ?_ ?_
          rotate_left 2
          · go_simp
            constructor
            · rfl
            · rfl
          clear hcv
          refine hK.out _ _ (HK.out _ HS.out) (fun hHeld => ?_)
          clear hK K
          refine norm_ (a' := ?_) ?_ ?_
          rotate_left
          · show Act.put _ (some 16) _ = _
            simp only [Act.put, List.setIfInBounds_toArray, List.set_cons_zero, List.set_cons_succ, i64_w, i32_w]
            rfl
          refine pS_ 10 17 (fa 14 6143) HT_ ?_
          refine pS_ 11 18 (fa 14 8191) HT_ ?_
          refine one_ (i := 13) (N := none) #[true, true, true, true, true, true, true, true, true, true, true, true, true, true] rfl rfl (one_of HT_.out (by kernel_rfl)) (by decide) (fun K hK => ?_)
          obtain ⟨x0, x1, x2, x3, y0, y1, y2, y3⟩ := zE_cells HX.out
          refine skip_ (w1 := ?_) (by rfl) rfl ?_ ?_
          rotate_left
          · go_simp
            rfl
          have HSF := Aside0.mk (put4 HX.out (.string kd) (.string (strOfNums [(wrap64 (97 + r)) % 256])) (.slice none 0 0) (.slice none 0 0))
          replace HS := Aside0.mk ((((HS.out.far HG.out 0 (.string kd)).far HG.out 1 (.string (strOfNums [(wrap64 (97 + r)) % 256]))).far HG.out 2 (.slice none 0 0)).far HG.out 3 (.slice none 0 0))
          refine hK.out _ _ (HK.out _ HS.out) (fun hHeld => ?_)
          clear hK K
          refine done_ (done_of HT_.out (by kernel_rfl)) ?_
          clear x0 x1 x2 x3 y0 y1 y2 y3
          try go_wp2
          go_meet
          exact ⟨⟨be, kd, _, rfl, GP.okU_of H0.out (GP.str_one _), HS.out, HG.out, HSF.out, Kd.R_nil _ _ _ _ _, Kd.N_nil _ _ _ _ _⟩⟩
      · refine box_step ?hg (N := 3) ?hd (cs := #[.string ⟨#[]⟩, .string ⟨#[]⟩, .slice none 0 0, .slice none 0 0]) (t := 32) ?hr ?_; (case hd => rfl); (case hg => rfl); (case hr => first | (go_simp; done) | (go_simp; rfl))
        intro be hg wz8 hbox hb
        have HX := Aside0.mk hbox
        have HG : Aside0 (w.heap.size + 1 < be) := ⟨by rw [hg]; exact GT.lt_of_heapT HS.out.b1⟩
        replace HS := Aside0.mk (HS.out.step hb)
        clear hbox hg hb
        refine hK.out _ _ (HK.out _ HS.out) (fun hHeld => ?_)
        clear hK K
        refine norm_ (a' := ?_) ?_ ?_
        rotate_left
        · show Act.put _ (some 3) _ = _
          simp only [Act.put, List.setIfInBounds_toArray, List.set_cons_zero, List.set_cons_succ, i64_w, i32_w]
          rfl
        refine one_ (i := 5) (N := some 12) #[true, true, true, true, true, true, false, false, false, false, false, false, true, false] rfl rfl (one_of HT_.out (by kernel_rfl)) (by decide) (fun K hK => ?_)
        refine goes_ Tryz.func24 (by kernel_rfl) rfl #[.int .i64 n, .int .i64 5] (by rfl) rfl rfl gm_ ?_
        refine (within5_calls _ 5 (by decide) (by decide) _).mono ?_
        rintro e wz9 ⟨r, rfl, h0, h1, hb⟩
        refine ⟨_, rfl, ?_⟩
        replace HS := Aside0.mk (HS.out.step hb); replace HX := Aside0.mk (blk_below HX.out hb)
        clear h0 h1 hb
        refine hK.out _ _ (HK.out _ HS.out) (fun hHeld => ?_)
        clear hK K
        refine norm_ (a' := ?_) ?_ ?_
        rotate_left
        · show Act.put _ (some 12) _ = _
          simp only [Act.put, List.setIfInBounds_toArray, List.set_cons_zero, List.set_cons_succ, i64_w, i32_w]
          rfl
        refine pS_ 6 13 (fa 14 4223) HT_ ?_
        refine pS_ 7 14 (fa 14 4351) HT_ ?_
        refine one_ (i := 8) (N := some 15) #[true, true, true, true, true, true, true, true, true, false, false, false, true, false] rfl rfl (one_of HT_.out (by kernel_rfl)) (by decide) (fun K hK => ?_)
        refine Kd.R_lit_step (Kd.int .u8) _ 5 ?hg (N := 15) ?hd (xs := ([(wrap64 (97 + r)) % 256] : List Int)) (inner := [.int .u8 ((wrap64 (97 + r)) % 256)]) (ok := fun _ => True) (okp := fun _ => True) ?hr ?hp (fun _ hk => hk) trivial (Below.refl _ _) (Nat.le_refl _) (by simp) ?_; (case hd => rfl); (case hg => rfl); (case hr => first | (go_simp; done) | (go_simp; rfl)); (case hp => exact (Reps.one (show Kd.M (Kd.int .u8) _ _ _ ((wrap64 (97 + r)) % 256) [.int .u8 ((wrap64 (97 + r)) % 256)] from rfl) (Reps.none _ _)))
        intro vs wz10 ho hb hg_ hnew_
        have HO := Aside0.mk ho
        replace HS := Aside0.mk (HS.out.step hb); replace HX := Aside0.mk (blk_below HX.out hb)
        clear ho hb hg_ hnew_
        refine hK.out _ _ (HK.out _ HS.out) (fun hHeld => ?_)
        clear hK K
        refine norm_ (a' := ?_) ?_ ?_
        rotate_left
        · show Act.put _ (some 15) _ = _
          simp only [Act.put, List.setIfInBounds_toArray, List.set_cons_zero, List.set_cons_succ, i64_w, i32_w]
          rfl
        refine one_ (i := 9) (N := some 16) #[true, true, true, true, true, true, true, true, true, true, false, false, true, false] rfl rfl (one_of HT_.out (by kernel_rfl)) (by decide) (fun K hK => ?_)
        have hcv := own_string (P := Tryz.prog) Tryz.underlying91 Tryz.underlying5 Tryz.underlying9 (Kd.own_of_R HO.out)
        refine value_ (w1 := ?_) (v := ?_) (by rfl) rfl ?_ ?_
        rotate_left 2
        · go_simp
          constructor
          · rfl
          · rfl
        clear hcv
        refine hK.out _ _ (HK.out _ HS.out) (fun hHeld => ?_)
        clear hK K
        refine norm_ (a' := ?_) ?_ ?_
        rotate_left
        · show Act.put _ (some 16) _ = _
          simp only [Act.put, List.setIfInBounds_toArray, List.set_cons_zero, List.set_cons_succ, i64_w, i32_w]
          rfl
        refine pS_ 10 17 (fa 14 6143) HT_ ?_
        refine pS_ 11 18 (fa 14 8191) HT_ ?_
        refine one_ (i := 13) (N := none) #[true, true, true, true, true, true, true, true, true, true, true, true, true, true] rfl rfl (one_of HT_.out (by kernel_rfl)) (by decide) (fun K hK => ?_)
        obtain ⟨x0, x1, x2, x3, y0, y1, y2, y3⟩ := zE_cells HX.out
        refine skip_ (w1 := ?_) (by rfl) rfl ?_ ?_
        rotate_left
        · go_simp
          rfl
        have HSF := Aside0.mk (put4 HX.out (.string kd) (.string (strOfNums [(wrap64 (97 + r)) % 256])) (.slice none 0 0) (.slice none 0 0))
        replace HS := Aside0.mk ((((HS.out.far HG.out 0 (.string kd)).far HG.out 1 (.string (strOfNums [(wrap64 (97 + r)) % 256]))).far HG.out 2 (.slice none 0 0)).far HG.out 3 (.slice none 0 0))
        refine hK.out _ _ (HK.out _ HS.out) (fun hHeld => ?_)
        clear hK K
        refine done_ (done_of HT_.out (by kernel_rfl)) ?_
        clear x0 x1 x2 x3 y0 y1 y2 y3
        try go_wp2
        go_meet
        exact ⟨⟨be, kd, _, rfl, GP.okU_of H0.out (GP.str_one _), HS.out, HG.out, HSF.out, Kd.R_nil _ _ _ _ _, Kd.N_nil _ _ _ _ _⟩⟩
    · refine box_step ?hg (N := 3) ?hd (cs := #[.string ⟨#[]⟩, .string ⟨#[]⟩, .slice none 0 0, .slice none 0 0]) (t := 32) ?hr ?_; (case hd => rfl); (case hg => rfl); (case hr => first | (go_simp; done) | (go_simp; rfl))
      intro be hg wz11 hbox hb
      have HX := Aside0.mk hbox
      have HG : Aside0 (w.heap.size + 1 < be) := ⟨by rw [hg]; exact GT.lt_of_heapT HS.out.b1⟩
      replace HS := Aside0.mk (HS.out.step hb)
      clear hbox hg hb
      refine hK.out _ _ (HK.out _ HS.out) (fun hHeld => ?_)
      clear hK K
      refine norm_ (a' := ?_) ?_ ?_
      rotate_left
      · show Act.put _ (some 3) _ = _
        simp only [Act.put, List.setIfInBounds_toArray, List.set_cons_zero, List.set_cons_succ, i64_w, i32_w]
        rfl
      refine one_ (i := 2) (N := some 9) #[true, true, true, true, true, false, false, false, false, false, false, false, true, false] rfl rfl (one_of HT_.out (by kernel_rfl)) (by decide) (fun K hK => ?_)
      refine goes_ Tryz.func27 (by kernel_rfl) rfl #[.int .i64 a] (by rfl) rfl rfl gm_ ?_
      refine (kind5_calls _ _).mono ?_
      rintro e wz12 ⟨kd, rfl, h0, hb⟩
      refine ⟨_, rfl, ?_⟩
      have H0 := Aside0.mk h0
      replace HS := Aside0.mk (HS.out.step hb); replace HX := Aside0.mk (blk_below HX.out hb)
      clear h0 hb
      refine hK.out _ _ (HK.out _ HS.out) (fun hHeld => ?_)
      clear hK K
      refine norm_ (a' := ?_) ?_ ?_
      rotate_left
      · show Act.put _ (some 9) _ = _
        simp only [Act.put, List.setIfInBounds_toArray, List.set_cons_zero, List.set_cons_succ, i64_w, i32_w]
        rfl
      refine one_ (i := 5) (N := some 12) #[true, true, true, true, true, true, false, false, false, false, false, false, true, false] rfl rfl (one_of HT_.out (by kernel_rfl)) (by decide) (fun K hK => ?_)
      refine goes_ Tryz.func24 (by kernel_rfl) rfl #[.int .i64 n, .int .i64 5] (by rfl) rfl rfl gm_ ?_
      refine (within5_calls _ 5 (by decide) (by decide) _).mono ?_
      rintro e wz13 ⟨r, rfl, h0, h1, hb⟩
      refine ⟨_, rfl, ?_⟩
      replace HS := Aside0.mk (HS.out.step hb); replace HX := Aside0.mk (blk_below HX.out hb)
      clear h0 h1 hb
      refine hK.out _ _ (HK.out _ HS.out) (fun hHeld => ?_)
      clear hK K
      refine norm_ (a' := ?_) ?_ ?_
      rotate_left
      · show Act.put _ (some 12) _ = _
        simp only [Act.put, List.setIfInBounds_toArray, List.set_cons_zero, List.set_cons_succ, i64_w, i32_w]
        rfl
      refine pS_ 6 13 (fa 14 4223) HT_ ?_
      refine pS_ 7 14 (fa 14 4351) HT_ ?_
      refine one_ (i := 8) (N := some 15) #[true, true, true, true, true, true, true, true, true, false, false, false, true, false] rfl rfl (one_of HT_.out (by kernel_rfl)) (by decide) (fun K hK => ?_)
      refine Kd.R_lit_step (Kd.int .u8) _ 5 ?hg (N := 15) ?hd (xs := ([(wrap64 (97 + r)) % 256] : List Int)) (inner := [.int .u8 ((wrap64 (97 + r)) % 256)]) (ok := fun _ => True) (okp := fun _ => True) ?hr ?hp (fun _ hk => hk) trivial (Below.refl _ _) (Nat.le_refl _) (by simp) ?_; (case hd => rfl); (case hg => rfl); (case hr => first | (go_simp; done) | (go_simp; rfl)); (case hp => exact (Reps.one (show Kd.M (Kd.int .u8) _ _ _ ((wrap64 (97 + r)) % 256) [.int .u8 ((wrap64 (97 + r)) % 256)] from rfl) (Reps.none _ _)))
      intro vs wz14 ho hb hg_ hnew_
      have HO := Aside0.mk ho
      replace HS := Aside0.mk (HS.out.step hb); replace HX := Aside0.mk (blk_below HX.out hb)
      clear ho hb hg_ hnew_
      refine hK.out _ _ (HK.out _ HS.out) (fun hHeld => ?_)
      clear hK K
      refine norm_ (a' := ?_) ?_ ?_
      rotate_left
      · show Act.put _ (some 15) _ = _
        simp only [Act.put, List.setIfInBounds_toArray, List.set_cons_zero, List.set_cons_succ, i64_w, i32_w]
        rfl
      refine one_ (i := 9) (N := some 16) #[true, true, true, true, true, true, true, true, true, true, false, false, true, false] rfl rfl (one_of HT_.out (by kernel_rfl)) (by decide) (fun K hK => ?_)
      have hcv := own_string (P := Tryz.prog) Tryz.underlying91 Tryz.underlying5 Tryz.underlying9 (Kd.own_of_R HO.out)
      refine value_ (w1 := ?_) (v := ?_) (by rfl) rfl ?_ ?_
      rotate_left 2
      · go_simp
        constructor
        · rfl
        · rfl
      clear hcv
      refine hK.out _ _ (HK.out _ HS.out) (fun hHeld => ?_)
      clear hK K
      refine norm_ (a' := ?_) ?_ ?_
      rotate_left
      · show Act.put _ (some 16) _ = _
        simp only [Act.put, List.setIfInBounds_toArray, List.set_cons_zero, List.set_cons_succ, i64_w, i32_w]
        rfl
      refine pS_ 10 17 (fa 14 6143) HT_ ?_
      refine pS_ 11 18 (fa 14 8191) HT_ ?_
      refine one_ (i := 13) (N := none) #[true, true, true, true, true, true, true, true, true, true, true, true, true, true] rfl rfl (one_of HT_.out (by kernel_rfl)) (by decide) (fun K hK => ?_)
      obtain ⟨x0, x1, x2, x3, y0, y1, y2, y3⟩ := zE_cells HX.out
      refine skip_ (w1 := ?_) (by rfl) rfl ?_ ?_
      rotate_left
      · go_simp
        rfl
      have HSF := Aside0.mk (put4 HX.out (.string kd) (.string (strOfNums [(wrap64 (97 + r)) % 256])) (.slice none 0 0) (.slice none 0 0))
      replace HS := Aside0.mk ((((HS.out.far HG.out 0 (.string kd)).far HG.out 1 (.string (strOfNums [(wrap64 (97 + r)) % 256]))).far HG.out 2 (.slice none 0 0)).far HG.out 3 (.slice none 0 0))
      refine hK.out _ _ (HK.out _ HS.out) (fun hHeld => ?_)
      clear hK K
      refine done_ (done_of HT_.out (by kernel_rfl)) ?_
      clear x0 x1 x2 x3 y0 y1 y2 y3
      try go_wp2
      go_meet
      exact ⟨⟨be, kd, _, rfl, GP.okU_of H0.out (GP.str_one _), HS.out, HG.out, HSF.out, Kd.R_nil _ _ _ _ _, Kd.N_nil _ _ _ _ _⟩⟩
  case rest =>
    clear HK HS
    obtain ⟨be, kd, id, rfl, huk, hsb⟩ := hcut.out
    have HS := Aside0.mk hsb
    have HU := Aside0.mk huk
    clear hcut hsb huk
    try go_wp2
    go_loopg [4] 3 (fun g v4 wx => ∃ (i : Nat) (us : List U) (v2 : Value), v4 = .int .i64 (i : Int) ∧ i ≤ 3 ∧ us.length = i ∧ g = 3 - i ∧ Aside0 (∀ p ∈ us, okU p = true) ∧ Aside0 (SB w cs be kd id v2 (.slice none 0 0) us [] wx))
    case atStart => exact ⟨0, [], _, rfl, by omega, rfl, rfl, ⟨by simp⟩, HS⟩
    case round =>
      clear HS
      obtain ⟨i, us, v2, rfl, hi, ho, rfl, HUS, HS⟩ := hrel
      obtain ⟨A5, c5, rfl⟩ := Kd.R_slice HS.out.r2
      have Hi := Aside0.mk hi
      have Ho := Aside0.mk ho
      have q2 : wr.cell? ⟨w.heap.size, 2, none⟩ = some (.slice A2 ps.length c2) := (HP.out _ HS.out.s).1
      clear hi ho
      go_upto_region 3 with (fail)
      go_cut [27] (fun v27 wc => (∃ b, v27 = .bool b ∧ (b = true → i < ps.length ∧ i < 3)) ∧ Aside0 (SB w cs be kd id (.slice A5 us.length c5) (.slice none 0 0) us [] wc))
      case first =>
        by_cases ht0 : i < ps.length
        · have p1 : ((i : Int) < (ps.length : Int)) = True := eq_true (by omega)
          have Hx0 := Aside0.mk ht0
          clear ht0
          by_cases ht1 : i < 3
          · have p2 : ((i : Int) < 3) = True := eq_true (by omega)
            have Hx1 := Aside0.mk ht1
            clear ht1
            go_wp2
            go_meet
            case rel => exact ⟨⟨_, rfl, fun _ => ⟨Hx0.out, Hx1.out⟩⟩, HS⟩
          · have p2 : ((i : Int) < 3) = False := eq_false (by omega)
            clear ht1
            go_wp2
            go_meet
            case rel => exact ⟨⟨_, rfl, fun h => by cases h⟩, HS⟩
        · have p1 : ((i : Int) < (ps.length : Int)) = False := eq_false (by omega)
          clear ht0
          go_wp2
          go_meet
          case rel => exact ⟨⟨_, rfl, fun h => by cases h⟩, HS⟩
      case rest =>
        clear q2 HS
        obtain ⟨⟨b, rfl, hb⟩, HS⟩ := hcut
        have Hb := Aside0.mk hb
        clear hb
        cases b with
        | true =>
          have HI := Aside0.mk (Hb.out rfl)
          clear Hb
          obtain ⟨ad, rfl, g0⟩ := Kd.at_int HR2.out (i : Int) (by omega) (by have := HI.out.1; omega)
          rw [Int.toNat_natCast] at g0
          obtain ⟨x, hx⟩ : ∃ x, rd ps (i : Int) = x := ⟨_, rfl⟩
          rw [hx] at g0
          clear hx
          have G0 := Aside0.mk g0
          clear g0
          have p0 : (0 ≤ (i : Int)) = True := eq_true (by omega)
          have p1 : ((i : Int) < (ps.length : Int)) = True := eq_true (by have := HI.out.1; omega)
          have HK5 : Aside0 (∀ v2 W, W.heap[be]? = some (.cells #[.string kd, .string id, v2, .slice none 0 0] 32 (0, 0)) → SE w cs W → W.cell? ⟨be, 2, none⟩ = some v2 ∧ W.cell? ⟨w.heap.size, 2, none⟩ = some (.slice (some ad) ps.length c2) ∧ W.cell? (ad.add i) = some (.int .i64 x)) := ⟨fun v2 W h1 h2 => ⟨(blk_cell h1 2).trans rfl, (HP.out _ h2).1, (h2.be.cell (World.block_lt_of_cell? _ _ G0.out)).trans G0.out⟩⟩
          try go_wp2
          replace HS := Aside0.mk (HS.out.step (below_drew1 (Below.refl _ _)))
          refine start_ (n := 24) (S := fun W => W.cell? ⟨be, 2, none⟩ = some (.slice A5 us.length c5) ∧ W.cell? ⟨w.heap.size, 2, none⟩ = some (.slice (some ad) ps.length c2) ∧ W.cell? (ad.add i) = some (.int .i64 x)) (ds := [23]) #[false, false, false, false, false, false, false, false, false, false, false, false, false, false, false, false, false, false, false, false, false, false, false, false] (by kernel_rfl) rfl rfl (HK5.out _ _ HS.out.b3 HS.out.s) (fun hHeld => ?_)
          refine with_tabW re_tab5 re_bits5 (fun HT_ HW_ => ?_)
          generalize wc.drew = wd at HS hHeld ⊢
          refine pS_ 0 30 (fa 24 1) HT_ ?_
          refine pS_ 2 32 (fa 24 5) HT_ ?_
          refine pS_ 4 34 (fa 24 21) HT_ ?_
          refine pS_ 8 38 (fa 24 277) HT_ ?_
          refine pS_ 10 40 (fa 24 1301) HT_ ?_
          refine tS_ 1 31 (fa 24 1303) HT_ HW_ hHeld ?_
          refine tS_ 3 33 (fa 24 1311) HT_ HW_ hHeld ?_
          refine pS_ 5 35 (fa 24 1343) HT_ ?_
          refine tS_ 6 36 (fa 24 1407) HT_ HW_ hHeld ?_
          refine tS_ 9 39 (fa 24 1919) HT_ HW_ hHeld ?_
          refine pS_ 11 41 (fa 24 3967) HT_ ?_
          refine tS_ 12 42 (fa 24 8063) HT_ HW_ hHeld ?_
          refine pS_ 13 43 (fa 24 16255) HT_ ?_
          refine one_ (i := 7) (N := some 37) #[true, true, true, true, true, true, true, true, true, true, true, true, true, true, false, false, false, false, false, false, false, false, false, false] rfl rfl (one_of HT_.out (by kernel_rfl)) (by decide) (fun K hK => ?_)
          refine goes_ Tryz.func27 (by kernel_rfl) rfl #[.int .i64 x] (by rfl) rfl rfl gm_ ?_
          refine (kind5_calls _ _).mono ?_
          rintro e wz1 ⟨kd2, rfl, h0, hb⟩
          refine ⟨_, rfl, ?_⟩
          have H0 := Aside0.mk h0
          replace HS := Aside0.mk (HS.out.step hb)
          clear h0 hb
          refine hK.out _ _ (HK5.out _ _ HS.out.b3 HS.out.s) (fun hHeld => ?_)
          clear hK K
          refine norm_ (a' := ?_) ?_ ?_
          rotate_left
          · show Act.put _ (some 37) _ = _
            simp only [Act.put, List.setIfInBounds_toArray, List.set_cons_zero, List.set_cons_succ, i64_w, i32_w]
            rfl
          refine one_ (i := 14) (N := some 44) #[true, true, true, true, true, true, true, true, true, true, true, true, true, true, true, false, false, false, false, false, false, false, false, false] rfl rfl (one_of HT_.out (by kernel_rfl)) (by decide) (fun K hK => ?_)
          refine goes_ Tryz.func24 (by kernel_rfl) rfl #[.int .i64 (wrap64 (Int.tdiv x 4)), .int .i64 5] (by rfl) rfl rfl gm_ ?_
          refine (within5_calls _ 5 (by decide) (by decide) _).mono ?_
          rintro e wz2 ⟨r, rfl, h0, h1, hb⟩
          refine ⟨_, rfl, ?_⟩
          replace HS := Aside0.mk (HS.out.step hb)
          clear h0 h1 hb
          refine hK.out _ _ (HK5.out _ _ HS.out.b3 HS.out.s) (fun hHeld => ?_)
          clear hK K
          refine norm_ (a' := ?_) ?_ ?_
          rotate_left
          · show Act.put _ (some 44) _ = _
            simp only [Act.put, List.setIfInBounds_toArray, List.set_cons_zero, List.set_cons_succ, i64_w, i32_w]
            rfl
          refine pS_ 15 45 (fa 24 65535) HT_ ?_
          refine pS_ 16 46 (fa 24 131071) HT_ ?_
          refine one_ (i := 17) (N := some 47) #[true, true, true, true, true, true, true, true, true, true, true, true, true, true, true, true, true, true, false, false, false, false, false, false] rfl rfl (one_of HT_.out (by kernel_rfl)) (by decide) (fun K hK => ?_)
          refine Kd.R_lit_step (Kd.int .u8) _ 5 ?hg (N := 47) ?hd (xs := ([(wrap64 (97 + r)) % 256] : List Int)) (inner := [.int .u8 ((wrap64 (97 + r)) % 256)]) (ok := fun _ => True) (okp := fun _ => True) ?hr ?hp (fun _ hk => hk) trivial (Below.refl _ _) (Nat.le_refl _) (by simp) ?_; (case hd => rfl); (case hg => rfl); (case hr => first | (go_simp; done) | (go_simp; rfl)); (case hp => exact (Reps.one (show Kd.M (Kd.int .u8) _ _ _ ((wrap64 (97 + r)) % 256) [.int .u8 ((wrap64 (97 + r)) % 256)] from rfl) (Reps.none _ _)))
          intro vs wz3 ho hb hg_ hnew_
          have HO := Aside0.mk ho
          replace HS := Aside0.mk (HS.out.step hb)
          clear ho hb hg_ hnew_
          refine hK.out _ _ (HK5.out _ _ HS.out.b3 HS.out.s) (fun hHeld => ?_)
          clear hK K
          refine norm_ (a' := ?_) ?_ ?_
          rotate_left
          · show Act.put _ (some 47) _ = _
            simp only [Act.put, List.setIfInBounds_toArray, List.set_cons_zero, List.set_cons_succ, i64_w, i32_w]
            rfl
          refine one_ (i := 18) (N := some 48) #[true, true, true, true, true, true, true, true, true, true, true, true, true, true, true, true, true, true, true, false, false, false, false, false] rfl rfl (one_of HT_.out (by kernel_rfl)) (by decide) (fun K hK => ?_)
          have hcv := own_string (P := Tryz.prog) Tryz.underlying91 Tryz.underlying5 Tryz.underlying9 (Kd.own_of_R HO.out)
          refine value_ (w1 := ?_) (v := ?_) (by rfl) rfl ?_ ?_
          rotate_left 2
          · go_simp
            constructor
            · rfl
            · rfl
          clear hcv HO
          refine hK.out _ _ (HK5.out _ _ HS.out.b3 HS.out.s) (fun hHeld => ?_)
          clear hK K
          refine norm_ (a' := ?_) ?_ ?_
          rotate_left
          · show Act.put _ (some 48) _ = _
            simp only [Act.put, List.setIfInBounds_toArray, List.set_cons_zero, List.set_cons_succ, i64_w, i32_w]
            rfl
          refine pS_ 19 49 (fa 24 1048575) HT_ ?_
          refine one_ (i := 20) (N := some 50) #[true, true, true, true, true, true, true, true, true, true, true, true, true, true, true, true, true, true, true, true, true, false, false, false] rfl rfl (one_of HT_.out (by kernel_rfl)) (by decide) (fun K hK => ?_)
          refine value_ (w1 := ?_) (v := ?_) (by rfl) rfl ?_ ?_
          rotate_left 2
          · go_simp
            constructor
            · rfl
            · rfl
          refine hK.out _ _ (HK5.out _ _ (blk_alloc HS.out.b3 _) (HS.out.s.step (below_alloc (Below.refl _ _) _))) (fun hHeld => ?_)
          clear hK K
          refine norm_ (a' := ?_) ?_ ?_
          rotate_left
          · show Act.put _ (some 50) _ = _
            simp only [Act.put, List.setIfInBounds_toArray, List.set_cons_zero, List.set_cons_succ, i64_w, i32_w]
            rfl
          refine one_ (i := 21) (N := some 51) #[true, true, true, true, true, true, true, true, true, true, true, true, true, true, true, true, true, true, true, true, true, true, false, false] rfl rfl (one_of HT_.out (by kernel_rfl)) (by decide) (fun K hK => ?_)
          refine Kd.R_append_step k28 (w0 := w) w.heap.size (by rfl) (.tmp 31) (.tmp 50) 29 28 (.agg #[(.string ⟨#[]⟩), (.string ⟨#[]⟩)]) 32 rfl Tryz.underlying29 info28 rfl (by decide) (by omega) (.slice A5 us.length c5) us (⟨kd2, strOfNums [(wrap64 (97 + r)) % 256]⟩ : U) [.string kd2, .string (strOfNums [(wrap64 (97 + r)) % 256])] (fun q => w.heap.size + 1 < q ∧ q ≠ be) (fun _ => False) rfl rfl ?aP (fun _ hk => hk.elim) ?aF ?aO ?aB ?aS ?aL ?_
          (case aP => exact k28_mkM _ _ _ (⟨kd2, strOfNums [(wrap64 (97 + r)) % 256]⟩ : U))
          (case aF => intro q hq; have h1 := GT.lt_of_heapT HS.out.s.b1; have h2 := GT.lt_of_heapT HS.out.b3; exact ⟨by omega, by omega⟩)
          (case aO => exact HS.out.r2)
          (case aB => exact HS.out.s.be)
          (case aS => exact HS.out.s.be.size)
          (case aL => have := Ho.out; have := Hi.out; omega)
          intro v6 w6 ho hb hg hat
          have HS6 := Aside0.mk (SB.up HS.out ho hb hg)
          have HB6 := Aside0.mk (blk_grown HS.out.b3 hg (fun e => (HS.out.r2.1 be e.symm).2 rfl))
          have HE6 := Aside0.mk (HS.out.s.grown (fun k hk => (HS.out.r2.1 k hk).1) hg hb)
          obtain ⟨A6, c6, rfl⟩ := Kd.R_slice ho
          clear ho hb hg hat HS
          have e6 : (us ++ [(⟨kd2, strOfNums [(wrap64 (97 + r)) % 256]⟩ : U)]).length = us.length + 1 := by simp
          have HS7 : Aside0 (SB w cs be kd id (.slice A6 (us.length + 1) c6) (.slice none 0 0) (us ++ [(⟨kd2, strOfNums [(wrap64 (97 + r)) % 256]⟩ : U)]) [] (w6.setCell ⟨be, 2, none⟩ (.slice A6 (us.length + 1) c6))) := ⟨by rw [← e6]; exact HS6.out⟩
          clear HS6 e6
          refine hK.out _ _ (HK5.out _ _ HB6.out HE6.out) (fun hHeld => ?_)
          clear hK K
          refine norm_ (a' := ?_) ?_ ?_
          rotate_left
          · show Act.put _ (some 51) _ = _
            simp only [Act.put, List.setIfInBounds_toArray, List.set_cons_zero, List.set_cons_succ, i64_w, i32_w]
            rfl
          refine pS_ 22 52 (fa 24 8388607) HT_ ?_
          refine last_ (i := 23) (N := none) #[true, true, true, true, true, true, true, true, true, true, true, true, true, true, true, true, true, true, true, true, true, true, true, true] rfl rfl (one_of HT_.out (by kernel_rfl)) (by decide) (fun K hK => ?_)
          have x2 : w6.cell? ⟨be, 2, none⟩ = some (.slice A5 us.length c5) := (blk_cell HB6.out 2).trans rfl
          have y2 := blk_frozen HB6.out 2
          refine skip_ (w1 := ?_) (by rfl) rfl ?_ ?_
          rotate_left
          · go_simp
            rfl
          refine hK.out _ _ ?_
          clear hK K x2 y2
          refine done_ (done_of HT_.out (by kernel_rfl)) ?_
          try go_wp2
          go_roundg (3 - (i + 1))
          case rel => exact ⟨i + 1, us ++ [(⟨kd2, strOfNums [(wrap64 (97 + r)) % 256]⟩ : U)], _, by rw [GP.wr_succ (by have := Hi.out; omega)], HI.out.2, by have := Ho.out; simp; omega, rfl, ⟨fun p hp => by (rcases List.mem_append.1 hp with hp | hp; exact HUS.out p hp; obtain rfl := List.mem_singleton.1 hp; exact GP.okU_of H0.out (GP.str_one _))⟩, HS7⟩
          case measure => have := HI.out.2; omega
        | false =>
          clear Hb
          try go_wp2
          go_loopg [5] 3 (fun g v5 wx => ∃ (i : Nat) (ats : List S67) (v3 : Value), v5 = .int .i64 (i : Int) ∧ i ≤ 3 ∧ ats.length = i ∧ g = 3 - i ∧ Aside0 (∀ p ∈ ats, GP.Low p.f1) ∧ Aside0 (SB w cs be kd id (.slice A5 us.length c5) v3 us ats wx))
          case atStart => exact ⟨0, [], _, rfl, by omega, rfl, rfl, ⟨by simp⟩, HS⟩
          case round =>
            clear HS
            obtain ⟨j, ats, v3, rfl, hi, ho, rfl, HAS, HS⟩ := hrel
            obtain ⟨A6, c6, rfl⟩ := Kd.N_slice HS.out.n3
            have Hj := Aside0.mk hi
            have Hoa := Aside0.mk ho
            have q3 : wr.cell? ⟨w.heap.size, 3, none⟩ = some (.slice A3 ns.length c3) := (HP.out _ HS.out.s).2.1
            have q4 : wr.cell? ⟨w.heap.size, 4, none⟩ = some (.slice A4 l.length c4) := (HP.out _ HS.out.s).2.2
            clear hi ho
            go_upto_region 7 with (fail)
            go_cut [68] (fun v68 wc => (∃ b, v68 = .bool b ∧ (b = true → j < ns.length ∧ j < l.length ∧ j < 3)) ∧ Aside0 (SB w cs be kd id (.slice A5 us.length c5) (.slice A6 ats.length c6) us ats wc))
            case first =>
              by_cases ht0 : j < ns.length
              · have p1 : ((j : Int) < (ns.length : Int)) = True := eq_true (by omega)
                have Hx0 := Aside0.mk ht0
                clear ht0
                by_cases ht1 : j < l.length
                · have p2 : ((j : Int) < (l.length : Int)) = True := eq_true (by omega)
                  have Hx1 := Aside0.mk ht1
                  clear ht1
                  by_cases ht2 : j < 3
                  · have p3 : ((j : Int) < 3) = True := eq_true (by omega)
                    have Hx2 := Aside0.mk ht2
                    clear ht2
                    go_wp2
                    go_meet
                    case rel => exact ⟨⟨_, rfl, fun _ => ⟨Hx0.out, Hx1.out, Hx2.out⟩⟩, HS⟩
                  · have p3 : ((j : Int) < 3) = False := eq_false (by omega)
                    clear ht2
                    go_wp2
                    go_meet
                    case rel => exact ⟨⟨_, rfl, fun h => by cases h⟩, HS⟩
                · have p2 : ((j : Int) < (l.length : Int)) = False := eq_false (by omega)
                  clear ht1
                  go_wp2
                  go_meet
                  case rel => exact ⟨⟨_, rfl, fun h => by cases h⟩, HS⟩
              · have p1 : ((j : Int) < (ns.length : Int)) = False := eq_false (by omega)
                clear ht0
                go_wp2
                go_meet
                case rel => exact ⟨⟨_, rfl, fun h => by cases h⟩, HS⟩
            case rest =>
              clear q3 q4 HS
              obtain ⟨⟨b, rfl, hb⟩, HS⟩ := hcut
              have Hb := Aside0.mk hb
              clear hb
              cases b with
              | true =>
                have HI := Aside0.mk (Hb.out rfl)
                clear Hb
                obtain ⟨ad, B2, d2, B3, d3, rfl, g0, g1, g2, g3, e2, E2, e3, E3⟩ := at_T94 HR4.out (j : Int) (by omega) (by have := HI.out.2.1; omega)
                rw [Int.toNat_natCast] at g0 g1 g2 g3
                obtain ⟨x, hx⟩ : ∃ x, rd_T94 l (j : Int) = x := ⟨_, rfl⟩
                rw [hx] at g0 g1 g2 g3 e2 E2 e3 E3
                have He2 := Aside0.mk e2
                have He3 := Aside0.mk e3
                have HE2 := Aside0.mk E2
                have HE3 := Aside0.mk E3
                clear e2 E2 e3 E3 hx
                have k0 := (HS.out.s.be.cell (World.block_lt_of_cell? _ _ g0)).trans g0
                have k1 := (HS.out.s.be.cell (World.block_lt_of_cell? _ _ g1)).trans g1
                have k2 := (HS.out.s.be.cell (World.block_lt_of_cell? _ _ g2)).trans g2
                have k3 := (HS.out.s.be.cell (World.block_lt_of_cell? _ _ g3)).trans g3
                have q4 : wc.cell? ⟨w.heap.size, 4, none⟩ = some (.slice (some ad) l.length c4) := (HP.out _ HS.out.s).2.2
                clear g0 g1 g2 g3
                have p0 : (0 ≤ (j : Int)) = True := eq_true (by omega)
                have p1 : ((j : Int) < (l.length : Int)) = True := eq_true (by have := HI.out.2.1; omega)
                go_upto_region 10 with (first | (go_at_call 28; refine (rgood x.f0 x.f1 x.f2 x.f3 B2 B3 d2 d3 _ (Kd.C_below HE2.out HS.out.s.be) He2.out (Kd.C_below HE3.out HS.out.s.be) He3.out).mono ?_; rintro e w5 ⟨k', n', b', s', t', u', v', r', rfl, hn, hfl, hl8, hb⟩; obtain ⟨A', c', rfl⟩ := Kd.N_slice hn; have HN := Aside0.mk hn; have HFL := Aside0.mk hfl; have HL8 := Aside0.mk hl8; have HB5 := Aside0.mk hb; clear hn hfl hl8 hb k0 k1 k2 k3 q4))
                have HOK : Aside0 (∀ q, wc.heap.size ≤ q → (w.heap.size + 1 < q ∧ q ≠ be) ∧ some q ≠ (Value.slice A6 ats.length c6).ownBlock) := ⟨fun q hq => ⟨⟨by have := GT.lt_of_heapT HS.out.s.b1; omega, by have := GT.lt_of_heapT HS.out.b3; omega⟩, Kd.fresh' (Kd.N_lt HS.out.n3) q hq⟩⟩
                have HX : Aside0 ((w5.alloc (.cells #[.int .i64 k', .bool b', .int .i64 n', .string s', .string t', .string u', .slice A' r'.length c'] 39 (0, 0))).heap[w5.heap.size]? = some (.cells #[.int .i64 k', .bool b', .int .i64 n', .string s', .string t', .string u', .slice A' r'.length c'] 39 (0, 0))) := ⟨blk_new _ _⟩
                have HQ : Aside0 (Below wc.heap.size wc (w5.alloc (.cells #[.int .i64 k', .bool b', .int .i64 n', .string s', .string t', .string u', .slice A' r'.length c'] 39 (0, 0)))) := ⟨below_alloc HB5.out _⟩
                have HNq := Aside0.mk (Kd.N_alloc (Kd.N_elderB HN.out w5.heap.size (Nat.le_refl _)) (.cells #[.int .i64 k', .bool b', .int .i64 n', .string s', .string t', .string u', .slice A' r'.length c'] 39 (0, 0)))
                have Hgv : Aside0 (wc.heap.size ≤ w5.heap.size) := ⟨HB5.out.size⟩
                clear HN HB5
                generalize w5.alloc (.cells #[.int .i64 k', .bool b', .int .i64 n', .string s', .string t', .string u', .slice A' r'.length c'] 39 (0, 0)) = wq at HX HQ HNq ⊢
                generalize w5.heap.size = gv at HX HNq Hgv ⊢
                have q6 : wq.cell? ⟨gv, 6, none⟩ = some (.slice A' r'.length c') := (blk_cell HX.out 6).trans rfl
                have f6 := blk_frozen HX.out 6
                by_cases h3 : 3 < r'.length
                case' pos =>
                  have d3 : ((3 : Int) < (r'.length : Int)) = True := eq_true (by omega)
                  obtain ⟨i072, hi072, _, hsz72, _⟩ := info_parts info39
                  have hcut72 := cut_to (P := Tryz.prog) 37 39 .i64 Tryz.underlying37 hi072 A' r'.length c' 3 (by omega) (by omega) (Kd.N_reads' HNq.out).2.1
                  have H3 := Aside0.mk h3
                  clear hi072 hsz72 h3
                  go_upto_region 12 with (fail)
                  obtain ⟨rq, hrq⟩ : ∃ rq, rq = r'.take 3 := ⟨_, rfl⟩
                  have el : rq.length = 3 := by rw [hrq, List.length_take]; have := H3.out; omega
                  have HFQ : Aside0 (∀ y ∈ rq, FlatV y) := ⟨fun y hy => HFL.out y (List.mem_of_mem_take (by rw [← hrq]; exact hy))⟩
                  have HLQ : Aside0 (rq.length ≤ 8) := ⟨by omega⟩
                  have hnt := Kd.N_take (m := 3) HNq.out (by have := H3.out; omega)
                  rw [← hrq] at hnt
                  have HNV := Aside0.mk (Kd.N_far (p := ⟨gv, 6, none⟩) hnt (fun k hk => hk.2) (.slice A' 3 c'))
                  have HXV := Aside0.mk (blk_put (cs' := #[.int .i64 k', .bool b', .int .i64 n', .string s', .string t', .string u', .slice A' 3 c']) HX.out 6 (.slice A' 3 c') rfl)
                  have HQV := Aside0.mk (below_set (j := 6) (v := (.slice A' 3 c')) HQ.out Hgv.out)
                  clear hnt hrq HNq HX HQ HFL HL8 H3 q6 f6 hcut72 d3
                  generalize wq.setCell ⟨gv, 6, none⟩ (.slice A' 3 c') = wv at HNV HXV HQV ⊢
                  have HNV' : Aside0 (Kd.N k39 39 wv wc.heap.size (fun q => wc.heap.size ≤ q ∧ q ≠ gv) (.slice A' rq.length c') rq) := ⟨by rw [el]; exact HNV.out⟩
                  have HXV' : Aside0 (wv.heap[gv]? = some (.cells #[.int .i64 k', .bool b', .int .i64 n', .string s', .string t', .string u', .slice A' rq.length c'] 39 (0, 0))) := ⟨by rw [el]; exact HXV.out⟩
                  clear el HNV HXV
                  have HNV := HNV'
                  have HXV := HXV'
                  clear HNV' HXV'
                case' neg =>
                  have d3 : ((3 : Int) < (r'.length : Int)) = False := eq_false (by omega)
                  clear h3
                  go_upto_region 12 with (fail)
                  have HFQ := HFL
                  have HLQ := HL8
                  have HNV := HNq
                  have HXV := HX
                  have HQV := HQ
                  clear HNq HX HQ HFL HL8 q6 f6 d3
                  obtain ⟨wv, hwv⟩ : ∃ wv, wv = wq := ⟨_, rfl⟩
                  obtain ⟨rq, hrq⟩ : ∃ rq, rq = r' := ⟨_, rfl⟩
                  subst hwv
                  subst hrq
                all_goals
                  have HSV := Aside0.mk (HS.out.step HQV.out)
                  obtain ⟨an, rfl, g0⟩ := Kd.at_int HR3.out (j : Int) (by omega) (by have := HI.out.1; omega)
                  rw [Int.toNat_natCast] at g0
                  obtain ⟨y, hy⟩ : ∃ y, rd ns (j : Int) = y := ⟨_, rfl⟩
                  rw [hy] at g0
                  clear hy
                  have G0 := Aside0.mk g0
                  clear g0 p1
                  have p1 : ((j : Int) < (ns.length : Int)) = True := eq_true (by have := HI.out.1; omega)
                  have HK12 : Aside0 (∀ v3 W, W.heap[be]? = some (.cells #[.string kd, .string id, .slice A5 us.length c5, v3] 32 (0, 0)) → SE w cs W → W.heap[gv]? = some (.cells #[.int .i64 k', .bool b', .int .i64 n', .string s', .string t', .string u', .slice A' rq.length c'] 39 (0, 0)) → W.cell? ⟨be, 3, none⟩ = some (v3) ∧ W.cell? ⟨w.heap.size, 3, none⟩ = some (.slice (some an) ns.length c3) ∧ W.cell? (an.add j) = some (.int .i64 y) ∧ W.cell? ⟨gv, 0, none⟩ = some (.int .i64 k') ∧ W.cell? ⟨gv, 1, none⟩ = some (.bool b') ∧ W.cell? ⟨gv, 2, none⟩ = some (.int .i64 n') ∧ W.cell? ⟨gv, 3, none⟩ = some (.string s') ∧ W.cell? ⟨gv, 4, none⟩ = some (.string t') ∧ W.cell? ⟨gv, 5, none⟩ = some (.string u') ∧ W.cell? ⟨gv, 6, none⟩ = some (.slice A' rq.length c')) := ⟨fun v3 W h1 h2 h3 => ⟨(blk_cell h1 3).trans rfl, (HP.out _ h2).2.1, (h2.be.cell (World.block_lt_of_cell? _ _ G0.out)).trans G0.out, (blk_cell h3 0).trans rfl, (blk_cell h3 1).trans rfl, (blk_cell h3 2).trans rfl, (blk_cell h3 3).trans rfl, (blk_cell h3 4).trans rfl, (blk_cell h3 5).trans rfl, (blk_cell h3 6).trans rfl⟩⟩
                  clear HS HQV
                  try go_wp2
                  replace HSV := Aside0.mk (HSV.out.step (below_drew1 (Below.refl _ _)))
                  replace HNV := Aside0.mk (Kd.N_below HNV.out (below_drew1 (Below.refl _ _)))
                  replace HXV := Aside0.mk (blk_drew HXV.out)
                  refine start_ (n := 14) (S := fun W => W.cell? ⟨be, 3, none⟩ = some (.slice A6 ats.length c6) ∧ W.cell? ⟨w.heap.size, 3, none⟩ = some (.slice (some an) ns.length c3) ∧ W.cell? (an.add j) = some (.int .i64 y) ∧ W.cell? ⟨gv, 0, none⟩ = some (.int .i64 k') ∧ W.cell? ⟨gv, 1, none⟩ = some (.bool b') ∧ W.cell? ⟨gv, 2, none⟩ = some (.int .i64 n') ∧ W.cell? ⟨gv, 3, none⟩ = some (.string s') ∧ W.cell? ⟨gv, 4, none⟩ = some (.string t') ∧ W.cell? ⟨gv, 5, none⟩ = some (.string u') ∧ W.cell? ⟨gv, 6, none⟩ = some (.slice A' rq.length c')) (ds := [13]) #[false, false, false, false, false, false, false, false, false, false, false, false, false, false] (by kernel_rfl) rfl rfl (HK12.out _ _ HSV.out.b3 HSV.out.s HXV.out) (fun hHeld => ?_)
                  refine with_tabW re_tab12 re_bits12 (fun HT_ HW_ => ?_)
                  generalize wv.drew = wd at HSV HNV HXV hHeld ⊢
                  refine pS_ 0 85 (fa 14 1) HT_ ?_
                  refine pS_ 2 87 (fa 14 5) HT_ ?_
                  refine pS_ 4 89 (fa 14 21) HT_ ?_
                  refine tS_ 1 86 (fa 14 23) HT_ HW_ hHeld ?_
                  refine tS_ 3 88 (fa 14 31) HT_ HW_ hHeld ?_
                  refine pS_ 5 90 (fa 14 63) HT_ ?_
                  refine tS_ 6 91 (fa 14 127) HT_ HW_ hHeld ?_
                  refine tS_ 8 93 (fa 14 383) HT_ HW_ hHeld ?_
                  refine one_ (i := 7) (N := some 92) #[true, true, true, true, true, true, true, true, true, false, false, false, false, false] rfl rfl (one_of HT_.out (by kernel_rfl)) (by decide) (fun K hK => ?_)
                  refine goes_ Tryz.func29 (by kernel_rfl) rfl #[.int .i64 y] (by rfl) rfl rfl gm_ ?_
                  refine (name5_calls _ _).mono ?_
                  rintro e wz1 ⟨nm, rfl, hb⟩
                  refine ⟨_, rfl, ?_⟩
                  replace HSV := Aside0.mk (HSV.out.step hb)
                  replace HNV := Aside0.mk (Kd.N_below HNV.out hb)
                  replace HXV := Aside0.mk (blk_below HXV.out hb)
                  clear hb
                  refine hK.out _ _ (HK12.out _ _ HSV.out.b3 HSV.out.s HXV.out) (fun hHeld => ?_)
                  clear hK K
                  refine norm_ (a' := ?_) ?_ ?_
                  rotate_left
                  · show Act.put _ (some 92) _ = _
                    simp only [Act.put, List.setIfInBounds_toArray, List.set_cons_zero, List.set_cons_succ, i64_w, i32_w]
                    rfl
                  refine pS_ 9 94 (fa 14 1023) HT_ ?_
                  refine one_ (i := 10) (N := some 95) #[true, true, true, true, true, true, true, true, true, true, true, false, false, false] rfl rfl (one_of HT_.out (by kernel_rfl)) (by decide) (fun K hK => ?_)
                  refine value_ (w1 := ?_) (v := ?_) (by rfl) rfl ?_ ?_
                  rotate_left 2
                  · go_simp
                    constructor
                    · rfl
                    · rfl
                  refine hK.out _ _ (HK12.out _ _ (blk_alloc HSV.out.b3 _) (HSV.out.s.step (below_alloc (Below.refl _ _) _)) (blk_alloc HXV.out _)) (fun hHeld => ?_)
                  clear hK K
                  refine norm_ (a' := ?_) ?_ ?_
                  rotate_left
                  · show Act.put _ (some 95) _ = _
                    simp only [Act.put, List.setIfInBounds_toArray, List.set_cons_zero, List.set_cons_succ, i64_w, i32_w]
                    rfl
                  refine one_ (i := 11) (N := some 96) #[true, true, true, true, true, true, true, true, true, true, true, true, false, false] rfl rfl (one_of HT_.out (by kernel_rfl)) (by decide) (fun K hK => ?_)
                  refine Kd.N_append_step k67 (w0 := w) w.heap.size (by rfl) (.tmp 86) (.tmp 95) 30 67 (.agg #[(.string ⟨#[]⟩), (.int .i64 0), (.bool false), (.int .i64 0), (.string ⟨#[]⟩), (.string ⟨#[]⟩), (.string ⟨#[]⟩), (.slice none 0 0)]) 112 rfl Tryz.underlying30 info67 rfl (by decide) (by omega) (.slice A6 ats.length c6) ats (⟨nm, ⟨k', b', n', s', ⟨t', u'⟩, rq⟩⟩ : S67) [.string nm, .int .i64 k', .bool b', .int .i64 n', .string s', .string t', .string u', .slice A' rq.length c'] (fun q => w.heap.size + 1 < q ∧ q ≠ be) (fun q => wc.heap.size ≤ q) rfl rfl ?aP HOK.out ?aF ?aO ?aB ?aS ?aL ?_
                  (case aP => exact k67_mkF _ _ (⟨nm, ⟨k', b', n', s', ⟨t', u'⟩, rq⟩⟩ : S67) (Kd.N_reads' HNV.out).2.1 (Kd.N_F (Kd.N_mono HNV.out (fun q hq => hq.1))))
                  (case aF => intro q hq; have h1 := GT.lt_of_heapT HSV.out.s.b1; have h2 := GT.lt_of_heapT HSV.out.b3; exact ⟨by omega, by omega⟩)
                  (case aO => exact HSV.out.n3)
                  (case aB => exact HSV.out.s.be)
                  (case aS => exact HSV.out.s.be.size)
                  (case aL => have := Hoa.out; have := Hj.out; omega)
                  intro v6 w6 ho hb hg hat
                  have HS6 := Aside0.mk (SB.at HSV.out ho hb hg)
                  have HB6 := Aside0.mk (blk_grown HSV.out.b3 hg (Kd.N_away HSV.out.n3 (fun k hk => hk.2)))
                  have HE6 := Aside0.mk (HSV.out.s.grown (fun k hk => (HSV.out.n3.1 k hk).1) hg hb)
                  have HX6 := Aside0.mk (blk_grown HXV.out hg (fun e => (HOK.out gv Hgv.out).2 e))
                  obtain ⟨A7, c7, rfl⟩ := Kd.N_slice ho
                  clear ho hb hg hat HSV HNV HXV
                  have e6 : (ats ++ [(⟨nm, ⟨k', b', n', s', ⟨t', u'⟩, rq⟩⟩ : S67)]).length = ats.length + 1 := by simp
                  have HS7 : Aside0 (SB w cs be kd id (.slice A5 us.length c5) (.slice A7 (ats.length + 1) c7) us (ats ++ [(⟨nm, ⟨k', b', n', s', ⟨t', u'⟩, rq⟩⟩ : S67)]) (w6.setCell ⟨be, 3, none⟩ (.slice A7 (ats.length + 1) c7))) := ⟨by rw [← e6]; exact HS6.out⟩
                  clear HS6 e6
                  refine hK.out _ _ (HK12.out _ _ HB6.out HE6.out HX6.out) (fun hHeld => ?_)
                  clear hK K
                  refine norm_ (a' := ?_) ?_ ?_
                  rotate_left
                  · show Act.put _ (some 96) _ = _
                    simp only [Act.put, List.setIfInBounds_toArray, List.set_cons_zero, List.set_cons_succ, i64_w, i32_w]
                    rfl
                  refine pS_ 12 97 (fa 14 8191) HT_ ?_
                  refine last_ (i := 13) (N := none) #[true, true, true, true, true, true, true, true, true, true, true, true, true, true] rfl rfl (one_of HT_.out (by kernel_rfl)) (by decide) (fun K hK => ?_)
                  have x3 : w6.cell? ⟨be, 3, none⟩ = some (.slice A6 ats.length c6) := (blk_cell HB6.out 3).trans rfl
                  have y3 := blk_frozen HB6.out 3
                  refine skip_ (w1 := ?_) (by rfl) rfl ?_ ?_
                  rotate_left
                  · go_simp
                    rfl
                  refine hK.out _ _ ?_
                  clear hK K x3 y3
                  refine done_ (done_of HT_.out (by kernel_rfl)) ?_
                  try go_wp2
                  go_roundg (3 - (j + 1))
                  case rel => exact ⟨j + 1, ats ++ [(⟨nm, ⟨k', b', n', s', ⟨t', u'⟩, rq⟩⟩ : S67)], _, by rw [GP.wr_succ (by have := Hj.out; omega)], HI.out.2.2, by have := Hoa.out; simp; omega, rfl, ⟨fun p hp => by (rcases List.mem_append.1 hp with hp | hp; exact HAS.out p hp; obtain rfl := List.mem_singleton.1 hp; exact ⟨HLQ.out, HFQ.out⟩)⟩, HS7⟩
                  case measure => have := HI.out.2.2; omega
              | false =>
                clear Hb
                obtain ⟨k0, k1, k2, k3, _, _⟩ := HS.out.cells
                obtain ⟨x0, x1, x2, x3, y0, y1, y2, y3⟩ := zE_cells HS.out.s.b1
                go_wp2
                have hlt := GT.lt_of_heapT HS.out.s.b1
                refine bodyPost_ret (results_cell_row rfl _ _ (w.heap.size + 1) 32 #[.string kd, .string id, (.slice A5 us.length c5), .slice A6 ats.length c6] (0, 0) _ rfl (put4 HS.out.s.b1 _ _ _ _) Tryz.underlying32 rfl (by kernel_rfl)) rfl ?_
                exact ⟨⟨⟨kd, id⟩, us, ats⟩, _, _, rfl, ⟨by have := Hi.out; have := Ho.out; show us.length ≤ 3; omega, by have := Hj.out; have := Hoa.out; show ats.length ≤ 3; omega, HAS.out, HU.out, HUS.out⟩, Kd.N_mono (far4 (Kd.R_N HS.out.r2) (fun k hk he => by omega) _ _ _ _) (fun q hq => by omega), Kd.N_mono (far4 HS.out.n3 (fun k hk he => by omega) _ _ _ _) (fun q hq => by omega), below4 HS.out.s.be (by omega) _ _ _ _⟩
end Go.Proofs.YtelibndkkokadaaGreat.GA
namespace Go.Proofs.YtelibndkkokadaaGreat.GA
open Go.RowKit Go.Proofs.YtelibndkkokadaaGreatW.PrintWords Go.Proofs.YtelibndkkokadaaGreatW.PrintLast Go.Proofs.YtelibndkkokadaaGreat.HandV Go.Proofs.YtelibndkkokadaaGreatW.PrintMore
open Go.Proofs.YtelibndkkokadaaGreat.GB
attribute [local go_sem] max2_int min2_int max_two min_two max_three min_three max_four min_four   -- for this text's walks alone
set_option linter.unusedVariables false
set_option linter.unusedSimpArgs false
-- IMPORT .B5
-- IMPORT .GG2s
-- IMPORT .GB1
-- FN chancelref8_Put
abbrev At := S67
abbrev Et := S64
theorem uid_at {W : World} {base : Nat} {ok : Nat → Prop} {A : Option Addr} {c : Nat} {l : List U} (h : Kd.N k28 28 W base ok (.slice A l.length c) l) {i : Nat} (hi : i < l.length) : ∃ ad, A = some ad ∧ W.cell? (ad.add (i * 2)) = some (.string l[i].f0) ∧ W.cell? ⟨(ad.add (i * 2)).block, (ad.add (i * 2)).off + 1, none⟩ = some (.string l[i].f1) := by
  obtain ⟨ad, rfl, g0, g1⟩ := at_T28 (Kd.N_reads' h).2.2 (i : Int) (by omega) (by omega)
  rw [GP.rdU_at hi, Int.toNat_natCast] at g0 g1
  exact ⟨ad, rfl, g0, g1⟩
theorem attr_at {W : World} {base : Nat} {ok : Nat → Prop} {A : Option Addr} {c : Nat} {l : List At} (h : Kd.N k67 67 W base ok (.slice A l.length c) l) (i : Int) (h0 : 0 ≤ i) (h1 : i < (l.length : Int)) : ∃ ad A7 c7 x, A = some ad ∧ x ∈ l ∧ rd_T67 l i = x ∧ W.cell? (ad.add (i.toNat * 8)) = some (.string x.f0) ∧ W.cell? ⟨(ad.add (i.toNat * 8)).block, (ad.add (i.toNat * 8)).off + 1, none⟩ = some (.int .i64 x.f1.f0) ∧ W.cell? ⟨(ad.add (i.toNat * 8)).block, (ad.add (i.toNat * 8)).off + 2, none⟩ = some (.bool x.f1.f1) ∧ W.cell? ⟨(ad.add (i.toNat * 8)).block, (ad.add (i.toNat * 8)).off + 3, none⟩ = some (.int .i64 x.f1.f2) ∧ W.cell? ⟨(ad.add (i.toNat * 8)).block, (ad.add (i.toNat * 8)).off + 4, none⟩ = some (.string x.f1.f3) ∧ W.cell? ⟨(ad.add (i.toNat * 8)).block, (ad.add (i.toNat * 8)).off + 5, none⟩ = some (.string x.f1.f4.f0) ∧ W.cell? ⟨(ad.add (i.toNat * 8)).block, (ad.add (i.toNat * 8)).off + 6, none⟩ = some (.string x.f1.f4.f1) ∧ W.cell? ⟨(ad.add (i.toNat * 8)).block, (ad.add (i.toNat * 8)).off + 7, none⟩ = some (.slice A7 x.f1.f5.length c7) ∧ x.f1.f5.length ≤ c7 ∧ Kd.F k39 W ok A7 x.f1.f5.length x.f1.f5 := by
  obtain ⟨ad, A7, c7, rfl, g0, g1, g2, g3, g4, g5, g6, g7, _, _⟩ := at_T67 (Kd.N_reads' h).2.2 i h0 h1
  obtain ⟨ce, hce, hMe, hcc⟩ := Kd.N_get h z67 i h0 h1
  obtain ⟨ua, uc, rfl, ul, ge⟩ := k67_openF hMe
  have hv := hcc 7 _ rfl
  rw [add_field _ _ 7 (by omega)] at hv
  have hx : rd_T67 l i = l.getD i.toNat z67 := rfl
  rw [← hx] at hv ul ge
  replace hv := Option.some.inj (hv.symm.trans g7)
  injection hv with hva hvn hvc
  rw [hva] at ge
  rw [hvc] at ul
  have hm : rd_T67 l i ∈ l := by
    rw [hx, List.getD_eq_getElem?_getD, List.getElem?_eq_getElem (show i.toNat < l.length by omega)]
    exact List.getElem_mem _
  exact ⟨ad, A7, c7, _, rfl, hm, rfl, g0, g1, g2, g3, g4, g5, g6, g7, ul, Kd.F_mono ge (fun k hk => hk.1)⟩
/-- The entity that is being put right, and its rows. -/
structure SL (W0 : World) (ge : Nat) (kd id : ByteArray) (v2 v3 : Value) (ps : List U) (ats : List At) (W : World) : Prop where
  be : Below W0.heap.size W0 W
  gg : W0.heap.size ≤ ge
  bx : W.heap[ge]? = some (.cells #[.string kd, .string id, v2, v3] 32 (0, 0))
  n2 : Kd.N k28 28 W W0.heap.size (fun q => W0.heap.size ≤ q ∧ q ≠ ge) v2 ps
  n3 : Kd.N k67 67 W W0.heap.size (fun q => W0.heap.size ≤ q ∧ q ≠ ge) v3 ats
abbrev NU (W0 : World) (ge : Nat) (W : World) (v : Value) (up : List U) : Prop := Kd.N k28 28 W W0.heap.size (fun q => W0.heap.size ≤ q ∧ q ≠ ge) v up
theorem SL.step {W0 W W' : World} {ge : Nat} {kd id : ByteArray} {v2 v3 : Value} {ps : List U} {ats : List At} (h : SL W0 ge kd id v2 v3 ps ats W) (hb : Below W.heap.size W W') : SL W0 ge kd id v2 v3 ps ats W' :=
  ⟨below_step h.be hb, h.gg, blk_below h.bx hb, Kd.N_below h.n2 hb, Kd.N_below h.n3 hb⟩
theorem notin_of {up : List U} (hup : GP.Strict up) {p : U} {j : Nat} (hb : ∀ t (h : t < up.length), t < j → ltU up[t] p = true) (hf : ∀ h : j < up.length, ltU up[j] p = false) (hn : ∀ h : j < up.length, up[j] ≠ p) : p ∉ up := by
  intro hmem
  obtain ⟨t, ht, hte⟩ := List.getElem_of_mem hmem
  rcases Nat.lt_trichotomy t j with h1 | h1 | h1
  · have := hb t ht h1
    rw [hte, ltU_irr] at this
    cases this
  · subst h1
    exact hn ht hte
  · have h2 : j < up.length := by omega
    have := List.pairwise_iff_getElem.1 hup j t h2 ht h1
    rw [hte, hf h2] at this
    cases this
def rl_T11 : Bool × List (List Nat × List Nat) := (true, [([], []), ([], []), ([1], [1]), ([0, 2], [0, 2]), ([3], [3]), ([4], [4]), ([4], [4]), ([5, 6, 4], [4, 5, 6]), ([7, 4], [4, 7]), ([4], [4]), ([9, 4], [4, 9]), ([4], [4]), ([10, 11, 4], [4, 10, 11]), ([12, 4], [4, 12]), ([8, 13, 4, 4], [4, 8, 13]), ([4, 14], [4, 14])])
def rl_B11 : List Nat := [0, 0, 2, 7, 15, 31, 31, 127, 255, 31, 543, 31, 3615, 7711, 16383, 32767]
theorem rl_tab11 : rtab .any (opsOf Tryz.f6 11) = rl_T11 := by kernel_rfl
theorem rl_bits11 : waitsOk rl_T11.2 rl_B11 = true := by kernel_rfl
def rl_T13 : Bool × List (List Nat × List Nat) := (true, [([], []), ([], []), ([1], [1]), ([0, 2], [0, 2]), ([3], [3]), ([4], [4]), ([4], [4]), ([5, 6, 4], [4, 5, 6]), ([7, 4], [4, 7]), ([4], [4]), ([9, 4], [4, 9]), ([4], [4]), ([10, 11, 4], [4, 10, 11]), ([12, 4], [4, 12]), ([8, 13, 4], [4, 8, 13]), ([4, 14], [4, 14])])
def rl_B13 : List Nat := [0, 0, 2, 7, 15, 31, 31, 127, 255, 31, 543, 31, 3615, 7711, 16383, 32767]
theorem rl_tab13 : rtab .any (opsOf Tryz.f6 13) = rl_T13 := by kernel_rfl
theorem rl_bits13 : waitsOk rl_T13.2 rl_B13 = true := by kernel_rfl
def rl_T23 : Bool × List (List Nat × List Nat) := (true, [([], []), ([0], [0]), ([1], [1]), ([2], [2]), ([3], [3]), ([3], [3]), ([5, 3], [3, 5]), ([6, 3], [3, 6]), ([4, 7, 3], [3, 4, 7]), ([8, 3], [3, 8]), ([9, 3], [3, 9]), ([3], [3]), ([11, 3], [3, 11]), ([3], [3]), ([12, 13, 3], [3, 12, 13]), ([14, 3], [3, 14]), ([15, 3], [3, 15]), ([10, 16, 3], [3, 10, 16]), ([3, 17], [3, 17])])
def rl_B23 : List Nat := [0, 1, 3, 7, 15, 15, 47, 111, 255, 511, 1023, 15, 2063, 15, 14351, 30735, 63503, 131071, 262143]
theorem rl_tab23 : rtab .any (opsOf Tryz.f6 23) = rl_T23 := by kernel_rfl
theorem rl_bits23 : waitsOk rl_T23.2 rl_B23 = true := by kernel_rfl
attribute [local go_sem high] eqA28
set_option maxRecDepth 100000 in
set_option maxHeartbeats 16000000 in
theorem rgood8 (l : List Et) (A0 : Option Addr) (c0 : Nat) (w : World) (hr : k64.C w A0 l.length l) (hc : l.length ≤ c0) :
    Calls Tryz.prog 6 #[.slice A0 l.length c0] w fun e w' => ∃ v g, e = .returned v ∧ GP.AnyG g ∧ Kd.N k32 32 w' w.heap.size (fun q => w.heap.size ≤ q) v g ∧ Below w.heap.size w w' := by
  have HR := Aside0.mk hr
  clear hr hc
  go_enter Tryz.func6, Tryz.ntmps6
  go_wp2
  go_loopg [3, 4] 12 (fun g v3 v4 wx => ∃ (i : Nat) (out : List En), v4 = .int .i64 (i : Int) ∧ i ≤ 12 ∧ out.length ≤ i ∧ g = 12 - i ∧ Aside0 (GP.SortedE out ∧ ∀ e ∈ out, GP.EP e) ∧ Aside0 (Kd.N k32 32 wx w.heap.size (fun q => w.heap.size ≤ q) v3 out) ∧ Aside0 (Below w.heap.size w wx))
  case atStart => exact ⟨0, [], rfl, by omega, by simp, rfl, ⟨⟨List.Pairwise.nil, by simp⟩⟩, ⟨Kd.N_nil _ _ _ _ _⟩, ⟨Below.refl _ _⟩⟩
  case round =>
    obtain ⟨i, out, rfl, hi, ho, rfl, HG, HN, HB⟩ := hrel
    obtain ⟨A3, c3, rfl⟩ := Kd.N_slice HN.out
    have Hi := Aside0.mk hi
    have Ho := Aside0.mk ho
    clear hi ho
    go_upto_region 3 with (fail)
    go_cut [19] (fun v19 wc => (∃ b, v19 = .bool b ∧ (b = true → i < l.length ∧ i < 12)) ∧ Aside0 (Kd.N k32 32 wc w.heap.size (fun q => w.heap.size ≤ q) (.slice A3 out.length c3) out) ∧ Aside0 (Below w.heap.size w wc))
    case first =>
      by_cases ht0 : i < l.length
      · have p1 : ((i : Int) < (l.length : Int)) = True := eq_true (by omega)
        have Hx0 := Aside0.mk ht0
        clear ht0
        by_cases ht1 : i < 12
        · have p2 : ((i : Int) < 12) = True := eq_true (by omega)
          have Hx1 := Aside0.mk ht1
          clear ht1
          go_wp2
          go_meet
          case rel => exact ⟨⟨_, rfl, fun _ => ⟨Hx0.out, Hx1.out⟩⟩, HN, HB⟩
        · have p2 : ((i : Int) < 12) = False := eq_false (by omega)
          clear ht1
          go_wp2
          go_meet
          case rel => exact ⟨⟨_, rfl, fun h => by cases h⟩, HN, HB⟩
      · have p1 : ((i : Int) < (l.length : Int)) = False := eq_false (by omega)
        clear ht0
        go_wp2
        go_meet
        case rel => exact ⟨⟨_, rfl, fun h => by cases h⟩, HN, HB⟩
    case rest =>
      clear HN HB
      obtain ⟨⟨b, rfl, hb⟩, HN, HB⟩ := hcut
      have Hb := Aside0.mk hb
      clear hb
      cases b with
      | false =>
        clear Hb
        go_wp2
        go_ret
        exact ⟨_, out, rfl, ⟨HG.out.1, HG.out.2, by have := Ho.out; have := Hi.out; omega⟩, HN.out, HB.out⟩
      | true =>
        have HI := Aside0.mk (Hb.out rfl)
        clear Hb
        obtain ⟨W0, hW0⟩ : ∃ W0, W0 = wc := ⟨_, rfl⟩
        subst hW0
        obtain ⟨ad, B2, d2, B3, d3, B4, d4, rfl, g0, g1, g2, g3, g4, e2, E2, e3, E3, e4, E4⟩ := at_T64 HR.out (i : Int) (by omega) (by have := HI.out.1; omega)
        rw [Int.toNat_natCast] at g0 g1 g2 g3 g4
        obtain ⟨x, hx⟩ : ∃ x, rd_T64 l (i : Int) = x := ⟨_, rfl⟩
        rw [hx] at g0 g1 g2 g3 g4 e2 E2 e3 E3 e4 E4
        have He2 := Aside0.mk e2
        have He3 := Aside0.mk e3
        have He4 := Aside0.mk e4
        have HE2 := Aside0.mk E2
        have HE3 := Aside0.mk E3
        have HE4 := Aside0.mk E4
        clear e2 E2 e3 E3 e4 E4 hx
        have k0 := (HB.out.cell (World.block_lt_of_cell? _ _ g0)).trans g0
        have k1 := (HB.out.cell (World.block_lt_of_cell? _ _ g1)).trans g1
        have k2 := (HB.out.cell (World.block_lt_of_cell? _ _ g2)).trans g2
        have k3 := (HB.out.cell (World.block_lt_of_cell? _ _ g3)).trans g3
        have k4 := (HB.out.cell (World.block_lt_of_cell? _ _ g4)).trans g4
        clear g0 g1 g2 g3 g4
        have p0 : (0 ≤ (i : Int)) = True := eq_true (by omega)
        have p1 : ((i : Int) < (l.length : Int)) = True := eq_true (by have := HI.out.1; omega)
        go_upto_region 6 with (first | (go_at_call 15; refine (rentity x.f0 x.f1 x.f2 x.f3 x.f4 B2 B3 B4 d2 d3 d4 _ (Kd.C_below HE2.out HB.out) He2.out (Kd.C_below HE3.out HB.out) He3.out (Kd.C_below HE4.out HB.out) He4.out).mono ?_; rintro e w5 ⟨⟨⟨kd, id⟩, ps, ats⟩, v2, v3, rfl, hep, hn2, hn3, hb⟩; have hn2 : Kd.N k28 28 w5 W0.heap.size (fun q => W0.heap.size ≤ q) v2 ps := hn2; have hn3 : Kd.N k67 67 w5 W0.heap.size (fun q => W0.heap.size ≤ q) v3 ats := hn3; obtain ⟨Av, cv, rfl⟩ := Kd.N_slice hn2; obtain ⟨A4, c4, rfl⟩ := Kd.N_slice hn3; have HEP := Aside0.mk hep; have HN2 := Aside0.mk hn2; have HN3 := Aside0.mk hn3; have HB5 := Aside0.mk hb; clear hep hn2 hn3 hb k0 k1 k2 k3 k4))
        have HSL : Aside0 (SL W0 w5.heap.size kd id (.slice Av ps.length cv) (.slice A4 ats.length c4) ps ats (w5.alloc (.cells #[.string kd, .string id, .slice Av ps.length cv, .slice A4 ats.length c4] 32 (0, 0)))) := ⟨below_alloc HB5.out _, HB5.out.size, blk_new _ _, Kd.N_alloc (Kd.N_elderB HN2.out w5.heap.size (Nat.le_refl _)) _, Kd.N_alloc (Kd.N_elderB HN3.out w5.heap.size (Nat.le_refl _)) _⟩
        have HPL : Aside0 (ps.length ≤ 3 ∧ ats.length ≤ 3 ∧ (∀ a ∈ ats, GP.Low a.f1) ∧ okU ⟨kd, id⟩ = true ∧ ∀ p ∈ ps, okU p = true) := ⟨HEP.out⟩
        clear HN2 HN3 HEP HE2 HE3 HE4 He2 He3 He4 p1
        generalize w5.alloc (.cells #[.string kd, .string id, .slice Av ps.length cv, .slice A4 ats.length c4] 32 (0, 0)) = w6 at HSL ⊢
        clear HB5
        generalize w5.heap.size = ge at HSL ⊢
        try go_wp2
        go_loopg [6, 7] ps.length (fun g v6 v7 wx => ∃ (k : Nat) (up : List U), v7 = .int .i64 (k : Int) ∧ k ≤ ps.length ∧ up.length ≤ k ∧ g = ps.length - k ∧ Aside0 (GP.Strict up ∧ ∀ p ∈ up, okU p = true) ∧ Aside0 (NU W0 ge wx v6 up) ∧ Aside0 (SL W0 ge kd id (.slice Av ps.length cv) (.slice A4 ats.length c4) ps ats wx))
        case atStart => exact ⟨0, [], rfl, by omega, by simp, rfl, ⟨⟨List.Pairwise.nil, by simp⟩⟩, ⟨Kd.N_nil _ _ _ _ _⟩, HSL⟩
        case round =>
          clear HSL
          obtain ⟨k, up, rfl, hk, hul, rfl, HUP, HNU, HSL⟩ := hrel
          obtain ⟨A6, c6, rfl⟩ := Kd.N_slice HNU.out
          have Hk := Aside0.mk hk
          have HUk := Aside0.mk hul
          have HUL : Aside0 (up.length ≤ 3) := ⟨by have := HPL.out.1; omega⟩
          have q2 : wr.cell? ⟨ge, 2, none⟩ = some (.slice Av ps.length cv) := (blk_cell HSL.out.bx 2).trans rfl
          clear hk hul
          by_cases hkl : k < ps.length
          · have p1 : ((k : Int) < (ps.length : Int)) = True := eq_true (by omega)
            obtain ⟨ad2, rfl, hq0, hq1⟩ := uid_at HSL.out.n2 hkl
            clear hq0 hq1
            obtain ⟨p, hp⟩ : ∃ p, ps[k] = p := ⟨_, rfl⟩
            have HPK : Aside0 (∃ h : k < ps.length, ps[k] = p) := ⟨⟨hkl, hp⟩⟩
            have HPO : Aside0 (okU p = true) := ⟨HPL.out.2.2.2.2 p (by rw [← hp]; exact List.getElem_mem _)⟩
            have HPC : Aside0 (∀ W, SL W0 ge kd id (.slice (some ad2) ps.length cv) (.slice A4 ats.length c4) ps ats W → W.cell? ⟨ge, 2, none⟩ = some (.slice (some ad2) ps.length cv) ∧ W.cell? (ad2.add (k * 2)) = some (.string p.f0) ∧ W.cell? ⟨(ad2.add (k * 2)).block, (ad2.add (k * 2)).off + 1, none⟩ = some (.string p.f1)) := ⟨fun W hW => by
              obtain ⟨hk2, rfl⟩ := HPK.out
              obtain ⟨ad', e', h0, h1⟩ := uid_at hW.n2 hk2
              cases e'
              exact ⟨(blk_cell hW.bx 2).trans rfl, h0, h1⟩⟩
            clear hp hkl
            try go_wp2
            go_loopg [8] up.length (fun g v8 wx => ∃ (j : Nat), v8 = .int .i64 (j : Int) ∧ j ≤ up.length ∧ g = up.length - j ∧ Aside0 (∀ t (h : t < up.length), t < j → ltU up[t] p = true) ∧ Aside0 (NU W0 ge wx (.slice A6 up.length c6) up) ∧ Aside0 (SL W0 ge kd id (.slice (some ad2) ps.length cv) (.slice A4 ats.length c4) ps ats wx))
            case atStart => exact ⟨0, rfl, by omega, rfl, ⟨fun t _ h => by omega⟩, HNU, HSL⟩
            case round =>
              clear HNU HSL q2 p1
              obtain ⟨j, rfl, hj, rfl, HLT, HNU, HSL⟩ := hrel
              have HJ := Aside0.mk hj
              clear hj
              go_upto_region 11 with (fail)
              go_cut [49] (fun v49 wx => (∃ b, v49 = .bool b ∧ (b = true → ∃ h : j < up.length, ltU up[j] p = true) ∧ (b = false → ∀ h : j < up.length, ltU up[j] p = false)) ∧ Aside0 (NU W0 ge wx (.slice A6 up.length c6) up) ∧ Aside0 (SL W0 ge kd id (.slice (some ad2) ps.length cv) (.slice A4 ats.length c4) ps ats wx))
              case first =>
                by_cases hjl : j < up.length
                · have p0 : (0 ≤ (j : Int)) = True := eq_true (by omega)
                  have p1 : ((j : Int) < (up.length : Int)) = True := eq_true (by omega)
                  have pk0 : (0 ≤ (k : Int)) = True := eq_true (by omega)
                  have pk1 : ((k : Int) < (ps.length : Int)) = True := eq_true (by obtain ⟨h, _⟩ := HPK.out; omega)
                  obtain ⟨ad6, rfl, hq0, hq1⟩ := uid_at HNU.out hjl
                  clear hq0 hq1
                  obtain ⟨x, hx⟩ : ∃ x, up[j] = x := ⟨_, rfl⟩
                  have HJX : Aside0 (∃ h : j < up.length, up[j] = x) := ⟨⟨hjl, hx⟩⟩
                  obtain ⟨bb, hbb⟩ : ∃ bb, ltU x p = bb := ⟨_, rfl⟩
                  have HLC := Aside0.mk (less_calls x p)
                  rw [hbb] at HLC
                  have HBB := Aside0.mk hbb
                  have HK : Aside0 (∀ W, NU W0 ge W (.slice (some ad6) up.length c6) up → SL W0 ge kd id (.slice (some ad2) ps.length cv) (.slice A4 ats.length c4) ps ats W → W.cell? (ad6.add (j * 2)) = some (.string x.f0) ∧ W.cell? ⟨(ad6.add (j * 2)).block, (ad6.add (j * 2)).off + 1, none⟩ = some (.string x.f1) ∧ W.cell? ⟨ge, 2, none⟩ = some (.slice (some ad2) ps.length cv) ∧ W.cell? (ad2.add (k * 2)) = some (.string p.f0) ∧ W.cell? ⟨(ad2.add (k * 2)).block, (ad2.add (k * 2)).off + 1, none⟩ = some (.string p.f1)) := ⟨fun W h1 h2 => by
                    obtain ⟨hj2, rfl⟩ := HJX.out
                    obtain ⟨ad', e', h0, h1⟩ := uid_at h1 hj2
                    cases e'
                    exact ⟨h0, h1, HPC.out _ h2⟩⟩
                  clear hbb hx hjl
                  replace HSL := Aside0.mk (HSL.out.step (below_drew1 (Below.refl _ _)))
                  replace HNU : Aside0 (NU W0 ge wr.drew (.slice (some ad6) up.length c6) up) := ⟨Kd.N_below HNU.out (below_drew1 (Below.refl _ _))⟩
                  try go_wp2
                  refine start_ (n := 16) (S := fun W => W.cell? (ad6.add (j * 2)) = some (.string x.f0) ∧ W.cell? ⟨(ad6.add (j * 2)).block, (ad6.add (j * 2)).off + 1, none⟩ = some (.string x.f1) ∧ W.cell? ⟨ge, 2, none⟩ = some (.slice (some ad2) ps.length cv) ∧ W.cell? (ad2.add (k * 2)) = some (.string p.f0) ∧ W.cell? ⟨(ad2.add (k * 2)).block, (ad2.add (k * 2)).off + 1, none⟩ = some (.string p.f1)) (ds := []) #[false, false, false, false, false, false, false, false, false, false, false, false, false, false, false, false] (by kernel_rfl) rfl rfl (HK.out _ HNU.out HSL.out) (fun hHeld => ?_)
                  refine with_tabW rl_tab11 rl_bits11 (fun HT_ HW_ => ?_)
                  generalize wr.drew = wd at HNU HSL hHeld ⊢
                  refine pS_ 0 34 (fa 16 1) HT_ ?_
                  refine pS_ 1 35 (fa 16 3) HT_ ?_
                  refine pS_ 2 36 (fa 16 7) HT_ ?_
                  refine pS_ 3 37 (fa 16 15) HT_ ?_
                  refine pS_ 4 38 (fa 16 31) HT_ ?_
                  refine pS_ 5 39 (fa 16 63) HT_ ?_
                  refine pS_ 6 40 (fa 16 127) HT_ ?_
                  refine pS_ 7 41 (fa 16 255) HT_ ?_
                  refine pS_ 9 43 (fa 16 767) HT_ ?_
                  refine pS_ 11 45 (fa 16 2815) HT_ ?_
                  refine tS_ 8 42 (fa 16 3071) HT_ HW_ hHeld ?_
                  refine tS_ 10 44 (fa 16 4095) HT_ HW_ hHeld ?_
                  refine pS_ 12 46 (fa 16 8191) HT_ ?_
                  refine tS_ 13 47 (fa 16 16383) HT_ HW_ hHeld ?_
                  refine one_ (i := 14) (N := some 48) #[true, true, true, true, true, true, true, true, true, true, true, true, true, true, true, false] rfl rfl (one_of HT_.out (by kernel_rfl)) (by decide) (fun K hK => ?_)
                  refine goes_ Tryz.func16 (by kernel_rfl) rfl #[.agg #[.string x.f0, .string x.f1], .agg #[.string p.f0, .string p.f1]] (by rfl) rfl rfl gm_ ?_
                  refine (HLC.out _).mono ?_
                  rintro e wz1 ⟨rfl, hb⟩
                  refine ⟨_, rfl, ?_⟩
                  replace HSL := Aside0.mk (HSL.out.step hb)
                  replace HNU : Aside0 (NU W0 ge wz1 (.slice (some ad6) up.length c6) up) := ⟨Kd.N_below HNU.out hb⟩
                  clear hb
                  refine hK.out _ _ (HK.out _ HNU.out HSL.out) (fun hHeld => ?_)
                  clear hK K
                  refine norm_ (a' := ?_) ?_ ?_
                  rotate_left
                  · show Act.put _ (some 48) _ = _
                    simp only [Act.put, List.setIfInBounds_toArray, List.set_cons_zero, List.set_cons_succ, i64_w, i32_w]
                    rfl
                  refine pS_ 15 49 (fa 16 65535) HT_ ?_
                  refine done_ (done_of HT_.out (by kernel_rfl)) ?_
                  try go_wp2
                  go_meet
                  case rel => exact ⟨⟨_, rfl, fun h => by obtain ⟨hj2, rfl⟩ := HJX.out; exact ⟨hj2, by rw [HBB.out]; exact h⟩, fun h hj3 => by obtain ⟨hj2, rfl⟩ := HJX.out; rw [HBB.out]; exact h⟩, HNU, HSL⟩
                · have p1 : ((j : Int) < (up.length : Int)) = False := eq_false (by omega)
                  have p2 : decide ((j : Int) < (up.length : Int)) = false := decide_eq_false (by omega)
                  have HJN := Aside0.mk hjl
                  clear hjl
                  go_quiet (fail)
                  all_goals (go_wp2_with fail)
                  all_goals go_meet
                  all_goals exact ⟨⟨_, rfl, (fun h => by cases h), fun _ h => absurd h HJN.out⟩, ⟨Kd.N_below HNU.out (pw_below_drewN (Below.refl _ _) _)⟩, ⟨HSL.out.step (pw_below_drewN (Below.refl _ _) _)⟩⟩
              case rest =>
                clear HNU HSL
                obtain ⟨⟨b, rfl, hbt, hbf⟩, HNU, HSL⟩ := hcut
                have Hbt := Aside0.mk hbt
                have Hbf := Aside0.mk hbf
                clear hbt hbf
                cases b with
                | true =>
                  have HJ1 := Aside0.mk (Hbt.out rfl)
                  clear Hbt Hbf
                  go_wp2
                  go_roundg (up.length - (j + 1))
                  case rel => exact ⟨j + 1, by rw [GP.wr_succ (by have := HJ.out; have := HUL.out; omega)], by obtain ⟨h, _⟩ := HJ1.out; omega, rfl, ⟨fun t ht hlt => by
                      obtain ⟨h, h2⟩ := HJ1.out
                      by_cases htj : t = j
                      · subst htj; exact h2
                      · exact HLT.out t ht (by omega)⟩, HNU, HSL⟩
                  case measure => obtain ⟨h, _⟩ := HJ1.out; omega
                | false =>
                  have HLF := Aside0.mk (Hbf.out rfl)
                  clear Hbt Hbf
                  go_upto_region 13 with (fail)
                  go_cut [67] (fun v67 wx => (∃ b, v67 = .bool b ∧ (b = false → p ∉ up)) ∧ Aside0 (NU W0 ge wx (.slice A6 up.length c6) up) ∧ Aside0 (SL W0 ge kd id (.slice (some ad2) ps.length cv) (.slice A4 ats.length c4) ps ats wx))
                  case first =>
                    by_cases hjl : j < up.length
                    · have p0 : (0 ≤ (j : Int)) = True := eq_true (by omega)
                      have p1 : ((j : Int) < (up.length : Int)) = True := eq_true (by omega)
                      have pk0 : (0 ≤ (k : Int)) = True := eq_true (by omega)
                      have pk1 : ((k : Int) < (ps.length : Int)) = True := eq_true (by obtain ⟨h, _⟩ := HPK.out; omega)
                      obtain ⟨ad6, rfl, hq0, hq1⟩ := uid_at HNU.out hjl
                      clear hq0 hq1
                      obtain ⟨x, hx⟩ : ∃ x, up[j] = x := ⟨_, rfl⟩
                      have HJX : Aside0 (∃ h : j < up.length, up[j] = x) := ⟨⟨hjl, hx⟩⟩
                      have HK : Aside0 (∀ W, NU W0 ge W (.slice (some ad6) up.length c6) up → SL W0 ge kd id (.slice (some ad2) ps.length cv) (.slice A4 ats.length c4) ps ats W → W.cell? (ad6.add (j * 2)) = some (.string x.f0) ∧ W.cell? ⟨(ad6.add (j * 2)).block, (ad6.add (j * 2)).off + 1, none⟩ = some (.string x.f1) ∧ W.cell? ⟨ge, 2, none⟩ = some (.slice (some ad2) ps.length cv) ∧ W.cell? (ad2.add (k * 2)) = some (.string p.f0) ∧ W.cell? ⟨(ad2.add (k * 2)).block, (ad2.add (k * 2)).off + 1, none⟩ = some (.string p.f1)) := ⟨fun W h1 h2 => by
                        obtain ⟨hj2, rfl⟩ := HJX.out
                        obtain ⟨ad', e', h0, h1⟩ := uid_at h1 hj2
                        cases e'
                        exact ⟨h0, h1, HPC.out _ h2⟩⟩
                      clear hx hjl
                      replace HSL := Aside0.mk (HSL.out.step (below_drew1 (Below.refl _ _)))
                      replace HNU : Aside0 (NU W0 ge wc.drew (.slice (some ad6) up.length c6) up) := ⟨Kd.N_below HNU.out (below_drew1 (Below.refl _ _))⟩
                      try go_wp2
                      refine start_ (n := 16) (S := fun W => W.cell? (ad6.add (j * 2)) = some (.string x.f0) ∧ W.cell? ⟨(ad6.add (j * 2)).block, (ad6.add (j * 2)).off + 1, none⟩ = some (.string x.f1) ∧ W.cell? ⟨ge, 2, none⟩ = some (.slice (some ad2) ps.length cv) ∧ W.cell? (ad2.add (k * 2)) = some (.string p.f0) ∧ W.cell? ⟨(ad2.add (k * 2)).block, (ad2.add (k * 2)).off + 1, none⟩ = some (.string p.f1)) (ds := []) #[false, false, false, false, false, false, false, false, false, false, false, false, false, false, false, false] (by kernel_rfl) rfl rfl (HK.out _ HNU.out HSL.out) (fun hHeld => ?_)
                      refine with_tabW rl_tab13 rl_bits13 (fun HT_ HW_ => ?_)
                      generalize wc.drew = wd at HNU HSL hHeld ⊢
                      refine pS_ 0 52 (fa 16 1) HT_ ?_
                      refine pS_ 1 53 (fa 16 3) HT_ ?_
                      refine pS_ 2 54 (fa 16 7) HT_ ?_
                      refine pS_ 3 55 (fa 16 15) HT_ ?_
                      refine pS_ 4 56 (fa 16 31) HT_ ?_
                      refine pS_ 5 57 (fa 16 63) HT_ ?_
                      refine pS_ 6 58 (fa 16 127) HT_ ?_
                      refine pS_ 7 59 (fa 16 255) HT_ ?_
                      refine pS_ 9 61 (fa 16 767) HT_ ?_
                      refine pS_ 11 63 (fa 16 2815) HT_ ?_
                      refine tS_ 8 60 (fa 16 3071) HT_ HW_ hHeld ?_
                      refine tS_ 10 62 (fa 16 4095) HT_ HW_ hHeld ?_
                      refine pS_ 12 64 (fa 16 8191) HT_ ?_
                      refine tS_ 13 65 (fa 16 16383) HT_ HW_ hHeld ?_
                      refine pS_ 14 66 (fa 16 32767) HT_ ?_
                      refine pS_ 15 67 (fa 16 65535) HT_ ?_
                      refine done_ (done_of HT_.out (by kernel_rfl)) ?_
                      try go_wp2
                      go_meet
                      case rel => exact ⟨⟨_, rfl, fun h => by
                          obtain ⟨hj2, rfl⟩ := HJX.out
                          exact notin_of HUP.out.1 HLT.out HLF.out (fun _ he => by rw [(GP.eqU_iff _ _).2 he] at h; cases h)⟩, HNU, HSL⟩
                    · have p1 : ((j : Int) < (up.length : Int)) = False := eq_false (by omega)
                      have p2 : decide ((j : Int) < (up.length : Int)) = false := decide_eq_false (by omega)
                      have HJN := Aside0.mk hjl
                      clear hjl
                      go_quiet (fail)
                      all_goals (go_wp2_with fail)
                      all_goals go_meet
                      all_goals exact ⟨⟨_, rfl, fun _ => notin_of HUP.out.1 HLT.out HLF.out (fun h => absurd h HJN.out)⟩, ⟨Kd.N_below HNU.out (pw_below_drewN (Below.refl _ _) _)⟩, ⟨HSL.out.step (pw_below_drewN (Below.refl _ _) _)⟩⟩
                  case rest =>
                    clear HNU HSL
                    obtain ⟨⟨b, rfl, hbf⟩, HNU, HSL⟩ := hcut
                    have Hbf := Aside0.mk hbf
                    clear hbf
                    cases b with
                    | true =>
                      clear Hbf
                      go_wp2
                      go_roundg (ps.length - (k + 1))
                      case rel => exact ⟨k + 1, up, by rw [GP.wr_succ (by have := Hk.out; have := HPL.out.1; omega)], by obtain ⟨h, _⟩ := HPK.out; omega, by have := HUk.out; omega, rfl, HUP, HNU, HSL⟩
                      case measure => obtain ⟨h, _⟩ := HPK.out; omega
                    | false =>
                      have HNI := Aside0.mk (Hbf.out rfl)
                      clear Hbf
                      obtain ⟨wy, hwy⟩ : ∃ wy, wy = wc := ⟨_, rfl⟩
                      subst hwy
                      have HIA : Aside0 (GP.InsAt up p (up.take j ++ [p] ++ up.drop j)) := ⟨⟨j, HJ.out, HLT.out, HLF.out, rfl⟩⟩
                      have HKP : Aside0 (∀ W, Below wy.heap.size wy W → W.cell? ⟨ge, 2, none⟩ = some (.slice (some ad2) ps.length cv) ∧ W.cell? (ad2.add (k * 2)) = some (.string p.f0) ∧ W.cell? ⟨(ad2.add (k * 2)).block, (ad2.add (k * 2)).off + 1, none⟩ = some (.string p.f1)) := ⟨fun W hW => HPC.out W (HSL.out.step hW)⟩
                      have pk0 : (0 ≤ (k : Int)) = True := eq_true (by omega)
                      have pk1 : ((k : Int) < (ps.length : Int)) = True := eq_true (by obtain ⟨h, _⟩ := HPK.out; omega)
                      cases A6 with
                      | some ad6 =>
                        have HFW : Aside0 (∀ W, Below wy.heap.size wy W → Kd.F k28 W (fun q => q < wy.heap.size) (some ad6) up.length up) := ⟨fun W hW => Kd.N_F (Kd.N_below (Kd.N_mono (Kd.N_bound HNU.out) (fun q hq => hq.2)) hW)⟩
                        have Hc6 := Aside0.mk (Kd.N_reads' HNU.out).2.1
                        obtain ⟨AD, hAD, HC3⟩ : ∃ AD, (if c6 = j then some ad6 else some (ad6.add (j * 2))) = AD ∧ Aside0 (∀ W, Below wy.heap.size wy W → Kd.F k28 W (fun q => q < wy.heap.size) AD (up.length - j) (up.drop j)) := ⟨_, rfl, ⟨fun W hW => by
                          have h := Kd.F_cut (HFW.out W hW) HJ.out Hc6.out
                          rw [List.length_drop] at h
                          exact h⟩⟩
                        have HT : Aside0 (∀ W, Below wy.heap.size wy W → Kd.F k28 W (fun q => q < wy.heap.size) (some ad6) j (up.take j)) := ⟨fun W hW => by
                          have h := Kd.F_take (HFW.out W hW) HJ.out
                          rwa [List.length_take, Nat.min_eq_left HJ.out] at h⟩
                        have pi0 : (0 ≤ (j : Int)) = True := eq_true (by omega)
                        have pi1 : ((j : Int) ≤ (up.length : Int)) = True := eq_true (by have := HJ.out; omega)
                        have pi2 : ((j : Int) ≤ (c6 : Int)) = True := eq_true (by have := HJ.out; have := Hc6.out; omega)
                        have pi3 : ((up.length : Int) ≤ (c6 : Int)) = True := eq_true (by have := Hc6.out; omega)
                        go_wp2_with (first | (at_builtin; refine Kd.N_append_rows k28 (w0 := wy) wy.heap.size rfl (.tmp 68) (.tmp 71) 29 28 (.agg #[(.string ⟨#[]⟩), (.string ⟨#[]⟩)]) 32 rfl Tryz.underlying29 info28 rfl (by decide) (by omega) (.slice none 0 0) [] (up.take j) (some ad6) j _ (fun _ => True) (fun q => q < wy.heap.size) rfl rfl ?aO ?aR ?aP ?aF ?aB ?aS ?aL ?_; (case aO => exact Kd.N_nil _ _ _ _ _); (case aR => exact HT.out _ (Below.refl _ _)); (case aP => intro q _; exact ⟨trivial, by simp [Value.ownBlock]⟩); (case aF => intro q _; trivial); (case aB => exact Below.refl _ _); (case aS => exact Nat.le_refl _); (case aL => have := HUL.out; have := HJ.out; simp; omega); intro v3' w3 hN3 hB3 hg3 hat3; rw [List.nil_append] at hN3; have hl3 : (up.take j).length = j := (by rw [List.length_take]; have := HJ.out; omega); obtain ⟨A8, c8, rfl⟩ := Kd.N_slice hN3; rw [hl3] at hN3 ⊢; have HN3 := Aside0.mk hN3; have HB3 := Aside0.mk hB3; obtain ⟨z0, z1, z2⟩ := HKP.out _ hB3; clear hN3 hB3 hg3 hat3 hl3) | (at_builtin; refine Kd.N_append k28 (w0 := wy) wy.heap.size rfl (.tmp 73) (.tmp 79) 29 28 (.agg #[(.string ⟨#[]⟩), (.string ⟨#[]⟩)]) 32 rfl Tryz.underlying29 info28 rfl (by decide) (by omega) (.slice A8 j c8) (up.take j) p [.string p.f0, .string p.f1] (fun _ => True) (fun _ => False) rfl ?aX ?aK (fun _ h => h.elim) ?aF ?aO ?aB ?aS ?aL ?_; (case aX => rfl); (case aK => exact k28_mkF _ _ p); (case aF => intro q _; trivial); (case aO => exact HN3.out); (case aB => exact HB3.out); (case aS => exact HB3.out.size); (case aL => have := HUL.out; have := HJ.out; rw [List.length_take]; omega); intro v4' w4 hN4 hB4 hg4 hat4; obtain ⟨A9, c9, rfl⟩ := Kd.N_slice hN4; have hl4 : (up.take j ++ [p]).length = j + 1 := (by rw [List.length_append, List.length_take]; have := HJ.out; simp; omega); rw [hl4] at hN4 ⊢; have HN4 := Aside0.mk hN4; have HB4 := Aside0.mk hB4; clear hN4 hB4 hg4 hat4 hl4) | (at_builtin; refine Kd.N_append_rows k28 (w0 := wy) wy.heap.size rfl (.tmp 81) (.tmp 84) 29 28 (.agg #[(.string ⟨#[]⟩), (.string ⟨#[]⟩)]) 32 rfl Tryz.underlying29 info28 rfl (by decide) (by omega) (.slice A9 (j + 1) c9) ((up.take j) ++ [p]) (up.drop j) AD (up.length - j) (c6 - j) (fun _ => True) (fun q => q < wy.heap.size) rfl rfl ?aO ?aR ?aP ?aF ?aB ?aS ?aL ?_; (case aO => exact HN4.out); (case aR => exact HC3.out _ HB4.out); (case aP => intro q hq; exact ⟨trivial, fun e => by have := Kd.N_base HN4.out q e.symm; omega⟩); (case aF => intro q _; trivial); (case aB => exact HB4.out); (case aS => exact HB4.out.size); (case aL => have := HUL.out; have := HJ.out; rw [List.length_append, List.length_take]; simp; omega); intro v5' w5' hN5 hB5 hg5 hat5; have HN5 := Aside0.mk hN5; have HB5 := Aside0.mk hB5; clear hN5 hB5 hg5 hat5))
                        have HSL5 := Aside0.mk (HSL.out.step HB5.out)
                        have HNU5 : Aside0 (NU W0 ge w5' v5' (up.take j ++ [p] ++ up.drop j)) := ⟨N_of_own (own_uc (Kd.N_lower HN5.out HSL.out.be.size)) (fun q hq => ⟨by have := Kd.N_base HN5.out q hq; have := HSL.out.be.size; omega, by have := Kd.N_base HN5.out q hq; have := GT.lt_of_heapT HSL.out.bx; omega⟩)⟩
                        have HP5 : Aside0 (GP.Strict (up.take j ++ [p] ++ up.drop j) ∧ ∀ y ∈ (up.take j ++ [p] ++ up.drop j), okU y = true) := ⟨(GP.insAt_spec HUP.out.1 HNI.out HIA.out).1, fun y hy => by
                          rcases ((GP.insAt_spec HUP.out.1 HNI.out HIA.out).2 y).1 hy with rfl | hy
                          · exact HPO.out
                          · exact HUP.out.2 y hy⟩
                        have HL5 : Aside0 ((up.take j ++ [p] ++ up.drop j).length ≤ k + 1) := ⟨by have := HUk.out; have := HJ.out; simp; omega⟩
                        go_roundg (ps.length - (k + 1))
                        case rel => exact ⟨k + 1, _, by rw [GP.wr_succ (by have := Hk.out; have := HPL.out.1; omega)], by obtain ⟨h, _⟩ := HPK.out; omega, HL5.out, rfl, HP5, HNU5, HSL5⟩
                        case measure => obtain ⟨h, _⟩ := HPK.out; omega
                      | none =>
                        have hl0 : up = [] := List.eq_nil_of_length_eq_zero (by
                          rcases Nat.eq_zero_or_pos up.length with h | h
                          · exact h
                          · obtain ⟨ad, he, _⟩ := (Kd.N_reads' HNU.out).2.2.2.2 h
                            cases he)
                        subst hl0
                        obtain rfl : j = 0 := by have := HJ.out; simpa using this
                        go_wp2_with (first | (at_builtin; refine Kd.N_append_rows k28 (w0 := wy) wy.heap.size rfl (.tmp 68) (.tmp 71) 29 28 (.agg #[(.string ⟨#[]⟩), (.string ⟨#[]⟩)]) 32 rfl Tryz.underlying29 info28 rfl (by decide) (by omega) (.slice none 0 0) [] [] _ 0 _ (fun _ => True) (fun q => q < wy.heap.size) rfl rfl ?aO ?aR ?aP ?aF ?aB ?aS ?aL ?_; (case aO => exact Kd.N_nil _ _ _ _ _); (case aR => exact fun W' _ => ⟨rfl, by omega, fun h => absurd h (by omega)⟩); (case aP => intro q _; exact ⟨trivial, by simp [Value.ownBlock]⟩); (case aF => intro q _; trivial); (case aB => exact Below.refl _ _); (case aS => exact Nat.le_refl _); (case aL => simp); intro v3' w3 hN3 hB3 hg3 hat3; rw [List.nil_append] at hN3; obtain ⟨A8, c8, rfl⟩ := Kd.N_slice hN3; rw [List.length_nil] at hN3 ⊢; have HN3 := Aside0.mk hN3; have HB3 := Aside0.mk hB3; obtain ⟨z0, z1, z2⟩ := HKP.out _ hB3; clear hN3 hB3 hg3 hat3) | (at_builtin; refine Kd.N_append k28 (w0 := wy) wy.heap.size rfl (.tmp 73) (.tmp 79) 29 28 (.agg #[(.string ⟨#[]⟩), (.string ⟨#[]⟩)]) 32 rfl Tryz.underlying29 info28 rfl (by decide) (by omega) (.slice A8 0 c8) [] p [.string p.f0, .string p.f1] (fun _ => True) (fun _ => False) rfl ?aX ?aK (fun _ h => h.elim) ?aF ?aO ?aB ?aS ?aL ?_; (case aX => rfl); (case aK => exact k28_mkF _ _ p); (case aF => intro q _; trivial); (case aO => exact HN3.out); (case aB => exact HB3.out); (case aS => exact HB3.out.size); (case aL => simp); intro v4' w4 hN4 hB4 hg4 hat4; obtain ⟨A9, c9, rfl⟩ := Kd.N_slice hN4; rw [show (([] : List U) ++ [p]).length = 1 from rfl] at hN4 ⊢; have HN4 := Aside0.mk hN4; have HB4 := Aside0.mk hB4; clear hN4 hB4 hg4 hat4) | (at_builtin; refine Kd.N_append_rows k28 (w0 := wy) wy.heap.size rfl (.tmp 81) (.tmp 84) 29 28 (.agg #[(.string ⟨#[]⟩), (.string ⟨#[]⟩)]) 32 rfl Tryz.underlying29 info28 rfl (by decide) (by omega) (.slice A9 1 c9) ([] ++ [p]) [] _ 0 _ (fun _ => True) (fun q => q < wy.heap.size) rfl rfl ?aO ?aR ?aP ?aF ?aB ?aS ?aL ?_; (case aO => exact HN4.out); (case aR => exact fun W' _ => ⟨rfl, by omega, fun h => absurd h (by omega)⟩); (case aP => intro q hq; exact ⟨trivial, fun e => by have := Kd.N_base HN4.out q e.symm; omega⟩); (case aF => intro q _; trivial); (case aB => exact HB4.out); (case aS => exact HB4.out.size); (case aL => simp); intro v5' w5' hN5 hB5 hg5 hat5; have HN5 := Aside0.mk hN5; have HB5 := Aside0.mk hB5; clear hN5 hB5 hg5 hat5))
                        all_goals (
                          have HSL5 := Aside0.mk (HSL.out.step HB5.out)
                          have HNU5 : Aside0 (NU W0 ge w5' v5' ([] ++ [p] ++ [])) := ⟨N_of_own (own_uc (Kd.N_lower HN5.out HSL.out.be.size)) (fun q hq => ⟨by have := Kd.N_base HN5.out q hq; have := HSL.out.be.size; omega, by have := Kd.N_base HN5.out q hq; have := GT.lt_of_heapT HSL.out.bx; omega⟩)⟩
                          have HP5 : Aside0 (GP.Strict ([] ++ [p] ++ [] : List U) ∧ ∀ y ∈ ([] ++ [p] ++ [] : List U), okU y = true) := ⟨by simp [GP.Strict], fun y hy => by simp at hy; subst hy; exact HPO.out⟩
                          go_roundg (ps.length - (k + 1))
                          case rel => exact ⟨k + 1, _, by rw [GP.wr_succ (by have := Hk.out; have := HPL.out.1; omega)], by obtain ⟨h, _⟩ := HPK.out; omega, by simp, rfl, HP5, HNU5, HSL5⟩
                          case measure => obtain ⟨h, _⟩ := HPK.out; omega)
          · have p1 : ((k : Int) < (ps.length : Int)) = False := eq_false (by omega)
            have f2 := blk_frozen HSL.out.bx 2
            clear hkl
            go_upto_region 19 with (fail)
            have HSL2 : Aside0 (SL W0 ge kd id (.slice A6 up.length c6) (.slice A4 ats.length c4) up ats (wr.setCell ⟨ge, 2, none⟩ (.slice A6 up.length c6))) := ⟨below_set HSL.out.be HSL.out.gg, HSL.out.gg, blk_put (cs := #[.string kd, .string id, .slice Av ps.length cv, .slice A4 ats.length c4]) HSL.out.bx 2 _ rfl, Kd.N_far (p := ⟨ge, 2, none⟩) HNU.out (fun q hq => hq.2) _, Kd.N_far (p := ⟨ge, 2, none⟩) HSL.out.n3 (fun q hq => hq.2) _⟩
            clear HNU HSL q2 f2 p1
            generalize wr.setCell ⟨ge, 2, none⟩ (.slice A6 up.length c6) = W2 at HSL2 ⊢
            have H3 : Aside0 (Kd.N k67 67 W2 W0.heap.size (fun q => (W0.heap.size ≤ q ∧ q ≠ ge) ∧ q < W2.heap.size) (.slice A4 ats.length c4) ats) := ⟨Kd.N_bound HSL2.out.n3⟩
            have H3W : Aside0 (∀ W, Below W2.heap.size W2 W → Kd.N k67 67 W W0.heap.size (fun q => (W0.heap.size ≤ q ∧ q ≠ ge) ∧ q < W2.heap.size) (.slice A4 ats.length c4) ats) := ⟨fun W hW => Kd.N_below H3.out hW⟩
            clear H3
            try go_wp2
            go_loopg [10, 11] ats.length (fun g v10 v11 wx => ∃ (k : Nat) (as' : List At), v11 = .int .i64 (k : Int) ∧ k ≤ ats.length ∧ as'.length ≤ k ∧ g = ats.length - k ∧ Aside0 (∀ a ∈ as', GP.Low a.f1) ∧ Aside0 (Kd.N k67 67 wx W2.heap.size (fun q => W0.heap.size ≤ q ∧ q ≠ ge) v10 as') ∧ Aside0 (Below W2.heap.size W2 wx))
            case atStart => exact ⟨0, [], rfl, by omega, by simp, rfl, ⟨by simp⟩, ⟨Kd.N_nil _ _ _ _ _⟩, ⟨Below.refl _ _⟩⟩
            case round =>
              obtain ⟨k, as', rfl, hk, hal, rfl, HAL, H10, HBW⟩ := hrel
              obtain ⟨A10, c10, rfl⟩ := Kd.N_slice H10.out
              have HK4 := Aside0.mk hk
              have HAk := Aside0.mk hal
              have q3 : wr.cell? ⟨ge, 3, none⟩ = some (.slice A4 ats.length c4) := (blk_cell (HSL2.out.step HBW.out).bx 3).trans rfl
              clear hk hal
              by_cases hkl : k < ats.length
              · have p0 : (0 ≤ (k : Int)) = True := eq_true (by omega)
                have p1 : ((k : Int) < (ats.length : Int)) = True := eq_true (by omega)
                have HKL := Aside0.mk hkl
                obtain ⟨aA, A7, c7, xa, ea, hxm, hxe, a0, a1, a2, a3, a4, a5, a6, a7, al, aF⟩ := attr_at (H3W.out _ HBW.out) (k : Int) (by omega) (by omega)
                cases ea
                have HXM := Aside0.mk hxm
                have HXE := Aside0.mk hxe
                clear hkl a0 a1 a2 a3 a4 a5 a6 a7 al aF hxm hxe
                go_upto_region 23 with (fail)
                go_cut [113] (fun v113 wx => (∃ b, v113 = .bool b) ∧ Aside0 (Kd.N k67 67 wx W2.heap.size (fun q => W0.heap.size ≤ q ∧ q ≠ ge) (.slice A10 as'.length c10) as') ∧ Aside0 (Below W2.heap.size W2 wx))
                case first =>
                  rcases Nat.eq_zero_or_pos as'.length with h0 | h0
                  · have e0 : ((as'.length : Int) == 0) = true := by rw [h0]; rfl
                    clear h0
                    replace H10 := Aside0.mk (Kd.N_drew H10.out)
                    replace HBW := Aside0.mk (below_drew1 HBW.out)
                    try go_wp2
                    refine start_ (n := 19) (S := fun W => True) (ds := []) #[false, false, false, false, false, false, false, false, false, false, false, false, false, false, false, false, false, false, false] (by kernel_rfl) rfl rfl (trivial) (fun hHeld => ?_)
                    refine with_tabW rl_tab23 rl_bits23 (fun HT_ HW_ => ?_)
                    generalize wr.drew = wd at H10 HBW hHeld ⊢
                    refine pS_ 0 95 (fa 19 1) HT_ ?_
                    refine pS_ 1 96 (fa 19 3) HT_ ?_
                    refine pS_ 2 97 (fa 19 7) HT_ ?_
                    refine pS_ 3 98 (fa 19 15) HT_ ?_
                    refine pU_ 4 99 (fa 19 31) HT_ ?_
                    refine pU_ 5 100 (fa 19 63) HT_ ?_
                    refine pU_ 6 101 (fa 19 127) HT_ ?_
                    refine pU_ 7 102 (fa 19 255) HT_ ?_
                    refine pU_ 8 103 (fa 19 511) HT_ ?_
                    refine pU_ 9 104 (fa 19 1023) HT_ ?_
                    refine pU_ 10 105 (fa 19 2047) HT_ ?_
                    refine pU_ 11 106 (fa 19 4095) HT_ ?_
                    refine pU_ 12 107 (fa 19 8191) HT_ ?_
                    refine pU_ 13 108 (fa 19 16383) HT_ ?_
                    refine pU_ 14 109 (fa 19 32767) HT_ ?_
                    refine pU_ 15 110 (fa 19 65535) HT_ ?_
                    refine pU_ 16 111 (fa 19 131071) HT_ ?_
                    refine pU_ 17 112 (fa 19 262143) HT_ ?_
                    refine pS_ 18 113 (fa 19 524287) HT_ ?_
                    refine done_ (done_of HT_.out (by kernel_rfl)) ?_
                    try go_wp2
                    go_meet
                    case rel => exact ⟨⟨_, rfl⟩, H10, HBW⟩
                  · obtain ⟨ji, hji⟩ : ∃ ji : Int, wrap64 ((as'.length : Int) - 1) = ji := ⟨_, rfl⟩
                    have hjw : IntKind.i64.wrap ((as'.length : Int) - 1) = ji := (i64_w _).trans hji
                    have hjv : ji = (as'.length : Int) - 1 := by rw [← hji]; exact GP.wr_id (by omega) (by have := HAk.out; have := HK4.out; have := HPL.out.2.1; omega)
                    have hj0 : 0 ≤ ji := by rw [hjv]; omega
                    have hj1 : ji < (as'.length : Int) := by rw [hjv]; omega
                    clear hjv
                    have e0 : ((as'.length : Int) == 0) = false := beq_eq_false_iff_ne.mpr (by omega)
                    have HJ0 := Aside0.mk hj0
                    have HJ1 := Aside0.mk hj1
                    have pj0 := eq_true hj0
                    have pj1 := eq_true hj1
                    obtain ⟨aE, A8, c8, xe, ee, hxm2, hxe2, b0, b1, b2, b3, b4, b5, b6, b7, bl, bF⟩ := attr_at H10.out ji hj0 hj1
                    cases ee
                    have HXE2 := Aside0.mk hxe2
                    clear h0 hji hj0 hj1 b0 b1 b2 b3 b4 b5 b6 b7 bl bF hxm2 hxe2
                    have HK : Aside0 (∀ W, Kd.N k67 67 W W2.heap.size (fun q => W0.heap.size ≤ q ∧ q ≠ ge) (.slice (some aE) as'.length c10) as' → Below W2.heap.size W2 W → W.cell? (aE.add (ji.toNat * 8)) = some (.string xe.f0) ∧ W.cell? ⟨ge, 3, none⟩ = some (.slice (some aA) ats.length c4) ∧ W.cell? (aA.add (k * 8)) = some (.string xa.f0)) := ⟨fun W h1 h2 => by
                      obtain ⟨aE', _, _, _, ee, _, he, g0, _⟩ := attr_at h1 ji HJ0.out HJ1.out
                      cases ee
                      obtain ⟨aA', _, _, _, ea, _, hf, f0, _⟩ := attr_at (H3W.out W h2) (k : Int) (by omega) (by have := HKL.out; omega)
                      cases ea
                      rw [← he, HXE2.out] at g0
                      rw [← hf, HXE.out, Int.toNat_natCast] at f0
                      exact ⟨g0, (blk_cell (HSL2.out.step h2).bx 3).trans rfl, f0⟩⟩
                    replace H10 := Aside0.mk (Kd.N_drew H10.out)
                    replace HBW := Aside0.mk (below_drew1 HBW.out)
                    try go_wp2
                    refine start_ (n := 19) (S := fun W => W.cell? (aE.add (ji.toNat * 8)) = some (.string xe.f0) ∧ W.cell? ⟨ge, 3, none⟩ = some (.slice (some aA) ats.length c4) ∧ W.cell? (aA.add (k * 8)) = some (.string xa.f0)) (ds := []) #[false, false, false, false, false, false, false, false, false, false, false, false, false, false, false, false, false, false, false] (by kernel_rfl) rfl rfl (HK.out _ H10.out HBW.out) (fun hHeld => ?_)
                    refine with_tabW rl_tab23 rl_bits23 (fun HT_ HW_ => ?_)
                    generalize wr.drew = wd at H10 HBW hHeld ⊢
                    refine pS_ 0 95 (fa 19 1) HT_ ?_
                    refine pS_ 1 96 (fa 19 3) HT_ ?_
                    refine pS_ 2 97 (fa 19 7) HT_ ?_
                    refine pS_ 3 98 (fa 19 15) HT_ ?_
                    refine pS_ 4 99 (fa 19 31) HT_ ?_
                    refine pS_ 5 100 (fa 19 63) HT_ ?_
                    refine pS_ 6 101 (fa 19 127) HT_ ?_
                    refine pS_ 7 102 (fa 19 255) HT_ ?_
                    refine pS_ 8 103 (fa 19 511) HT_ ?_
                    refine pS_ 9 104 (fa 19 1023) HT_ ?_
                    refine pS_ 11 106 (fa 19 3071) HT_ ?_
                    refine pS_ 13 108 (fa 19 11263) HT_ ?_
                    refine tS_ 10 105 (fa 19 12287) HT_ HW_ hHeld ?_
                    refine tS_ 12 107 (fa 19 16383) HT_ HW_ hHeld ?_
                    refine pS_ 14 109 (fa 19 32767) HT_ ?_
                    refine pS_ 15 110 (fa 19 65535) HT_ ?_
                    refine tS_ 16 111 (fa 19 131071) HT_ HW_ hHeld ?_
                    refine pS_ 17 112 (fa 19 262143) HT_ ?_
                    refine pS_ 18 113 (fa 19 524287) HT_ ?_
                    refine done_ (done_of HT_.out (by kernel_rfl)) ?_
                    try go_wp2
                    go_meet
                    case rel => exact ⟨⟨_, rfl⟩, H10, HBW⟩
                case rest =>
                  clear H10 HBW q3
                  obtain ⟨⟨b, rfl⟩, H10, HBW⟩ := hcut
                  cases b with
                  | false =>
                    go_wp2
                    go_roundg (ats.length - (k + 1))
                    case rel => exact ⟨k + 1, as', by rw [GP.wr_succ (by have := HK4.out; have := HPL.out.2.1; omega)], HKL.out, by have := HAk.out; omega, rfl, HAL, H10, HBW⟩
                    case measure => have := HKL.out; omega
                  | true =>
                    have q3 : wc.cell? ⟨ge, 3, none⟩ = some (.slice (some aA) ats.length c4) := (blk_cell (HSL2.out.step HBW.out).bx 3).trans rfl
                    obtain ⟨aA', A7', c7', xa', ea, _, hf, a0, a1, a2, a3, a4, a5, a6, a7, al, aF⟩ := attr_at (H3W.out _ HBW.out) (k : Int) (by omega) (by have := HKL.out; omega)
                    cases ea
                    obtain rfl : xa = xa' := by rw [← hf, HXE.out]
                    rw [Int.toNat_natCast] at a0 a1 a2 a3 a4 a5 a6 a7
                    have HXL : Aside0 (GP.Low xa.f1) := ⟨HPL.out.2.2.1 xa HXM.out⟩
                    clear hf HXE HXM
                    obtain ⟨nm, ⟨k', b', n', s', ⟨t', u'⟩, rr⟩⟩ := xa
                    have Hal := Aside0.mk al
                    have HaF := Aside0.mk aF
                    have HOK : Aside0 (∀ q, ((W0.heap.size ≤ q ∧ q ≠ ge) ∧ q < W2.heap.size) → (W0.heap.size ≤ q ∧ q ≠ ge) ∧ some q ≠ (Value.slice A10 as'.length c10).ownBlock) := ⟨fun q hq => ⟨hq.1, fun e => by have := Kd.N_base H10.out q e.symm; omega⟩⟩
                    clear al aF
                    go_wp2_with (first | (at_builtin; refine Kd.N_append k67 (w0 := W2) W2.heap.size rfl (.tmp 114) (.tmp 120) 30 67 (.agg #[(.string ⟨#[]⟩), (.int .i64 0), (.bool false), (.int .i64 0), (.string ⟨#[]⟩), (.string ⟨#[]⟩), (.string ⟨#[]⟩), (.slice none 0 0)]) 112  rfl Tryz.underlying30 info67 rfl (by decide) (by omega) (.slice A10 as'.length c10) as' (⟨nm, ⟨k', b', n', s', ⟨t', u'⟩, rr⟩⟩ : At) [.string nm, .int .i64 k', .bool b', .int .i64 n', .string s', .string t', .string u', .slice A7' rr.length c7'] (fun q => W0.heap.size ≤ q ∧ q ≠ ge) (fun q => (W0.heap.size ≤ q ∧ q ≠ ge) ∧ q < W2.heap.size) rfl ?aX ?aK HOK.out ?aF ?aO ?aB ?aS ?aL ?_; (case aX => rfl); (case aK => exact k67_mkF _ _ (⟨nm, ⟨k', b', n', s', ⟨t', u'⟩, rr⟩⟩ : At) Hal.out HaF.out); (case aF => intro q hq; have h1 := HSL2.out.be.size; have h2 := GT.lt_of_heapT HSL2.out.bx; have h3 := HBW.out.size; exact ⟨by omega, by omega⟩); (case aO => exact H10.out); (case aB => exact HBW.out); (case aS => exact HBW.out.size); (case aL => have := HAk.out; have := HK4.out; have := HPL.out.2.1; omega); intro v9 w9 hN9 hB9 hg9 hat9; have HN9 := Aside0.mk hN9; have HB9 := Aside0.mk hB9; clear hN9 hB9 hg9 hat9))
                    go_roundg (ats.length - (k + 1))
                    case rel => exact ⟨k + 1, _, by rw [GP.wr_succ (by have := HK4.out; have := HPL.out.2.1; omega)], HKL.out, by have := HAk.out; simp; omega, rfl, ⟨fun y hy => by
                        rcases List.mem_append.1 hy with hy | hy
                        · exact HAL.out y hy
                        · obtain rfl := List.mem_singleton.1 hy
                          exact HXL.out⟩, HN9, HB9⟩
                    case measure => have := HKL.out; omega
              · have p1 : ((k : Int) < (ats.length : Int)) = False := eq_false (by omega)
                have f3 := blk_frozen (HSL2.out.step HBW.out).bx 3
                clear hkl
                go_upto_region 26 with (fail)
                have HSL3 : Aside0 (SL W0 ge kd id (.slice A6 up.length c6) (.slice A10 as'.length c10) up as' (wr.setCell ⟨ge, 3, none⟩ (.slice A10 as'.length c10))) := by
                  have h := HSL2.out.step HBW.out
                  exact ⟨below_set h.be h.gg, h.gg, blk_put (cs := #[.string kd, .string id, .slice A6 up.length c6, .slice A4 ats.length c4]) h.bx 3 _ rfl, Kd.N_far (p := ⟨ge, 3, none⟩) h.n2 (fun q hq => hq.2) _, Kd.N_far (p := ⟨ge, 3, none⟩) (Kd.N_lower H10.out HSL2.out.be.size) (fun q hq => hq.2) _⟩
                clear H10 HBW q3 f3 p1 HSL2 H3W
                generalize wr.setCell ⟨ge, 3, none⟩ (.slice A10 as'.length c10) = W3 at HSL3 ⊢
                have x0 : W3.cell? ⟨ge, 0, none⟩ = some (.string kd) := (blk_cell HSL3.out.bx 0).trans rfl
                have x1 : W3.cell? ⟨ge, 1, none⟩ = some (.string id) := (blk_cell HSL3.out.bx 1).trans rfl
                have x2 : W3.cell? ⟨ge, 2, none⟩ = some (.slice A6 up.length c6) := (blk_cell HSL3.out.bx 2).trans rfl
                have x3 : W3.cell? ⟨ge, 3, none⟩ = some (.slice A10 as'.length c10) := (blk_cell HSL3.out.bx 3).trans rfl
                have HN3 := Aside0.mk (Kd.N_below HN.out HSL3.out.be)
                have HEP : Aside0 (GP.EP ⟨⟨kd, id⟩, up, as'⟩) := ⟨⟨HUL.out, (by have := HAk.out; have := HK4.out; have := HPL.out.2.1; show as'.length ≤ 3; omega), HAL.out, HPL.out.2.2.2.1, HUP.out.2⟩, HUP.out.1⟩
                obtain ⟨r, hr, hsr⟩ := GP.put_tot8 out HG.out.1 (by have := Ho.out; have := Hi.out; omega) ⟨⟨kd, id⟩, up, as'⟩
                obtain ⟨kk, hkk⟩ := hr.rounds
                have HKK := Aside0.mk hkk
                have HSR := Aside0.mk hsr
                have HBS := Aside0.mk HB.out.size
                clear hr hkk hsr
                go_wp2_with (first | (go_at_call 17; refine (chancelref8_Put.calls kk (fun q => w.heap.size ≤ q) A3 c3 out kd id (fun q => w.heap.size ≤ q) A6 c6 up (fun q => w.heap.size ≤ q) A10 c10 as' r _ (Kd.N_V HN3.out) (Kd.N_V (Kd.N_mono HSL3.out.n2 (fun q hq => Nat.le_trans HBS.out hq.1))) (Kd.N_V (Kd.N_mono HSL3.out.n3 (fun q hq => Nat.le_trans HBS.out hq.1))) HKK.out).mono ?_; rintro e w8 ⟨v8, rfl, hn, hb⟩; have HN8 := Aside0.mk hn; have HB8 := Aside0.mk hb; clear hn hb x0 x1 x2 x3))
                have hle := Nat.le_trans HBS.out HSL3.out.be.size
                go_roundg (12 - (i + 1))
                case rel => exact ⟨i + 1, r, by rw [GP.wr_succ (by have := Hi.out; omega)], HI.out.2, by have := HSR.out.2.2; have := Ho.out; omega, rfl, ⟨HSR.out.1, fun y hy => ((HSR.out.2.1 y).1 hy).elim (fun e => e ▸ HEP.out) (fun h => HG.out.2 y h.1)⟩, ⟨Kd.N_lower (Kd.N_mono HN8.out (fun q hq => hq.elim (fun h => h.elim (fun z => z) (fun h => h.elim (fun z => z) (fun z => z))) (fun h => Nat.le_trans hle h))) hle⟩, ⟨below_step (below_step HB.out HSL3.out.be) HB8.out⟩⟩
                case measure => have := HI.out.2; omega
end Go.Proofs.YtelibndkkokadaaGreat.GA
