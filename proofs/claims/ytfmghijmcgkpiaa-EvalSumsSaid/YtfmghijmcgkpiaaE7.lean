import Derived.Test.YtfmghijmcgkpiaaGS0
import Derived.Test.YtfmghijmcgkpiaaE6
namespace Go.Proofs.Ytfmghijmcgkpiaa.GE
open Go.RowKit Go.Proofs.YtfmghijmcgkpiaaW.PrintWords Go.Proofs.YtfmghijmcgkpiaaW.PrintLast Go.Proofs.Ytfmghijmcgkpiaa.HandV Go.Proofs.YtfmghijmcgkpiaaW.PrintMore
open Go.Proofs.Ytfmghijmcgkpiaa.GS
attribute [local go_sem] max2_int min2_int max_two min_two max_three min_three max_four min_four   -- for this text's walks alone
set_option linter.unusedVariables false
set_option linter.unusedSimpArgs false
-- IMPORT .E6
set_option maxRecDepth 100000 in
set_option maxHeartbeats 16000000 in
/-- (world).set of trees of which the first m come to values. -/
theorem set_walk_ (p0 p1 p2 p3 p4 p5 : ByteArray) (ks : List S67) (vs : List S31) (m : Nat) (hm : m ≤ ks.length) (hvl : vs.length = m) (hn : ks.length ≤ 1000) (hk : ∀ (i : Nat) (x : S67) (v : S31), ks[i]? = some x → vs[i]? = some v → ExprOk p0 p1 p2 p3 p4 p5 x v 0)
    (er : Int) (hbad : ∀ x, ks[m]? = some x → er ≠ 0 ∧ ∃ r, ExprOk p0 p1 p2 p3 p4 p5 x r er) (r : S31) (rc : Int) (hend : m = ks.length → value_Set.f vs = some (r.f0, r.f1, r.f2, r.f3, r.f4.f0, r.f4.f1, r.f5, rc)) (hend2 : m < ks.length → r = zV ∧ rc = er)
    (A : Option Addr) (c : Nat) (B : Option Addr) (kc : Nat) (w : World) (hl : ks.length ≤ kc) (hC : k67.C w B ks.length ks) :
    Calls Try.prog 136 #[.agg #[.slice A 0 c, .string p0, .string p1, .string p2, .string p3, .string p4, .string p5], .slice B ks.length kc] w (Gives w r rc) := by
  have HK := Aside0.mk hk
  have HBAD := Aside0.mk hbad
  have HEND := Aside0.mk hend
  have HEND2 := Aside0.mk hend2
  have HCC := Aside0.mk hC
  clear hk hbad hend hend2 hC
  go_enter Try.func136, Try.ntmps136
  go_wp2
  go_loopw [6, 13] (fun u v wr => ∃ k : Nat, v = .int .i64 (k : Int) ∧ k ≤ m ∧ Aside0 (Kd.N k31 31 wr w.heap.size (fun k_ => w.heap.size + 2 ≤ k_) u (vs.take k)) ∧ Aside0 (wr.heap[w.heap.size]? = some (.cells #[Value.slice A 0 c, Value.string p0, Value.string p1, Value.string p2, Value.string p3, Value.string p4, Value.string p5] 151 (0, 0))) ∧ Aside0 (Box wr (w.heap.size + 1)) ∧ Aside0 (Below w.heap.size w wr)) (fun _ v _ => match v with | .int _ x => ks.length - x.toNat | _ => 0)
  case atStart => exact ⟨0, rfl, Nat.zero_le _, ⟨Kd.N_nil _ _ _ _ _⟩, ⟨(by repeat (first | exact blk_at _ _ _ (by simp; done) | (refine (Below.heap_alloc _ _ _ (by first | (simp; done) | (simp; omega))).trans ?_)))⟩, ⟨(by repeat (first | exact blk_at _ _ _ (by simp; done) | (refine (Below.heap_alloc _ _ _ (by first | (simp; done) | (simp; omega))).trans ?_)))⟩, ⟨by repeat (first | exact Below.refl _ _ | apply below_alloc)⟩⟩
  case round =>
    obtain ⟨k, rfl, hk, HN, HW, HX, HB⟩ := hrel
    have g0 := hcell HW.out 0 _ rfl
    have g1 := hcell HW.out 1 _ rfl
    have g2 := hcell HW.out 2 _ rfl
    have g3 := hcell HW.out 3 _ rfl
    have g4 := hcell HW.out 4 _ rfl
    have g5 := hcell HW.out 5 _ rfl
    have g6 := hcell HW.out 6 _ rfl
    have hgs := lt_of_heap HW.out
    have hgn : ¬ w.heap.size = wr.heap.size := Nat.ne_of_lt hgs
    have hwle := HB.out.size
    by_cases hlt : k < ks.length
    · have hlt0 : decide ((k : Int) < (ks.length : Int)) = true := decide_eq_true (by omega)
      have p0_ : (0 ≤ (k : Int)) = True := eq_true (by omega)
      have p1_ : ((k : Int) < (ks.length : Int)) = True := eq_true (by omega)
      obtain ⟨x, hx⟩ : ∃ x, ks[k]? = some x := ⟨_, List.getElem?_eq_getElem hlt⟩
      obtain ⟨ad, Ax, cx, rfl, z0, z1, z2, z3, z4, z5, z6, hlx, hcx⟩ := exp_at (Kd.C_below HCC.out HB.out) k x hx
      have HL := Aside0.mk hlx
      have HC := Aside0.mk hcx
      have hab : (ad.add (k * 7)).block < wr.heap.size := World.block_lt_of_cell? _ _ z0
      have han : ¬ (ad.add (k * 7)).block = wr.heap.size := Nat.ne_of_lt hab
      clear hlx hcx
      by_cases hkm : k < m
      · obtain ⟨v, hv⟩ : ∃ v, vs[k]? = some v := ⟨_, List.getElem?_eq_getElem (by omega)⟩
        have HE := Aside0.mk (HK.out k x v hx hv)
        have HTK : Aside0 (vs.take (k + 1) = vs.take k ++ [v]) := ⟨by rw [List.take_add_one, hv]; rfl⟩
        have htl : (vs.take k).length ≤ 1000 := by rw [List.length_take]; omega
        clear hx hv
        generalize vs.take k = acc at HN HTK htl
        go_wp2_with (first | (go_at_call 97; refine (HE.out _ _ _ _ _ HL.out (Kd.C_below HC.out (by repeat (first | exact Below.refl _ _ | apply below_alloc)))).mono ?_; rintro e w1 ⟨v6, rfl, hV, hb⟩; obtain ⟨A6, c6, rfl⟩ := Kd.V_slice hV; have HS0 : Aside0 (wr.heap.size + 1 ≤ w1.heap.size) := ⟨by have := hb.size; simpa using this⟩; have HV := Aside0.mk (Kd.V_mono hV (ok' := fun k_ => wr.heap.size + 1 ≤ k_) (fun k_ hk => by simpa using hk)); have HB1 : Aside0 (Below w.heap.size w w1) := ⟨below_step (below_alloc HB.out _) hb⟩; have HN1 := Aside0.mk (Kd.N_below (Kd.N_alloc HN.out (Obj.cells #[.int .i64 x.f0, .bool x.f1, .int .i64 x.f2, .string x.f3, .string x.f4.f0, .string x.f4.f1, .slice Ax x.f5.length cx] 67)) hb); have HW1 : Aside0 (w1.heap[w.heap.size]? = some (.cells #[Value.slice A 0 c, Value.string p0, Value.string p1, Value.string p2, Value.string p3, Value.string p4, Value.string p5] 151 (0, 0))) := ⟨(hb.block _ (by have := lt_of_heap HW.out; simp; omega)).trans ((Below.heap_alloc _ _ _ (lt_of_heap HW.out)).trans HW.out)⟩; have HX1 : Aside0 (Box w1 (w.heap.size + 1)) := ⟨Box.mono (Box.alloc HX.out _) hb⟩; have HSX := Aside0.mk (lt_of_heap HX1.out); have q0 := HX1.out.c0; have q1 := HX1.out.c1; have q2 := HX1.out.c2; have q3 := HX1.out.c3; have q4 := HX1.out.c4; have q5 := HX1.out.c5; have q6 := HX1.out.c6; have q7 := HX1.out.fr; have hsx := lt_of_heap HX1.out; clear hV hb) | ((with_reducible refine gate_builtin (b := .append) (xs := #[.tmp 27, .tmp 29]) rfl ?_); at_builtin; refine Kd.N_append k31 (w0 := w) w.heap.size rfl (.tmp 27) (.tmp 29) 29 31 (.agg #[.int .i64 0, .bool false, .int .i64 0, .string ⟨#[]⟩, .string ⟨#[]⟩, .string ⟨#[]⟩, .slice none 0 0]) 96 rfl Try.underlying29 info31 rfl (by decide) (by omega) u6 acc v [.int .i64 v.f0, .bool v.f1, .int .i64 v.f2, .string v.f3, .string v.f4.f0, .string v.f4.f1, .slice A6 v.f5.length c6] (fun k_ => w.heap.size + 2 ≤ k_) (fun k_ => wr.heap.size + 1 ≤ k_) rfl ?aX ?aP ?aK (fun k_ hk_ => by have := HB1.out.size; have := HSX.out; simp at hk_; omega) ?aO ?aB ?aS ?aL ?_; (case aX => first | rfl | (show Value.slice (some ⟨w1.heap.size + 1, 0, none⟩) 1 1 = _; simp)); (case aP => obtain ⟨_, hl6, hF⟩ := Kd.V_at HV.out; exact Kd.FK_below (k31_mkF w1 _ v hl6 hF) (below_alloc (Below.refl _ _) _)); (case aK => exact (fun k_ hk_ => ⟨by have := HB.out.size; omega, fun he => by have := Kd.N_lt HN.out k_ he.symm; omega⟩)); (case aO => exact Kd.N_alloc HN1.out _); (case aB => exact below_alloc HB1.out _); (case aS => have := HB1.out.size; simp; omega); (case aL => omega); intro v1 w2 ho hb hg hat; have HN2 := Aside0.mk ho; have HB2 := Aside0.mk hb; have HG2 := Aside0.mk hg; clear ho hb hg hat))
        go_roundw
        case rel => exact ⟨k + 1, by first | rfl | (simp; done) | (simp; omega), by omega, ⟨by rw [HTK.out]; exact HN2.out⟩, ⟨(HG2.out.block _ (by have := lt_of_heap HW1.out; simp; omega) (fun he => by have := HN.out.1 _ he.symm; omega)).trans ((Below.heap_alloc _ _ _ (lt_of_heap HW1.out)).trans HW1.out)⟩, ⟨(HG2.out.block _ (by have := HSX.out; simp; omega) (fun he => by have := HN.out.1 _ he.symm; omega)).trans ((Below.heap_alloc _ _ _ HSX.out).trans HX1.out)⟩, HB2⟩
        case measure => simp; omega
      · obtain rfl : k = m := by omega
        clear hkm
        obtain ⟨her, rr, hEr⟩ := HBAD.out x hx
        obtain ⟨hrz, hrc⟩ := HEND2.out hlt
        subst hrz hrc
        have HE := Aside0.mk hEr
        have her1 : (rc != 0) = true := bne_iff_ne.mpr her
        clear hx hEr her
        go_wp2_with (go_at_call 97; refine (HE.out _ _ _ _ _ HL.out (Kd.C_below HC.out (by repeat (first | exact Below.refl _ _ | apply below_alloc)))).mono ?_; rintro e w1 ⟨v6, rfl, hV, hb⟩; obtain ⟨A6, c6, rfl⟩ := Kd.V_slice hV; have HS0 : Aside0 (wr.heap.size + 1 ≤ w1.heap.size) := ⟨by have := hb.size; simpa using this⟩; have HV := Aside0.mk (Kd.V_mono hV (ok' := fun k_ => wr.heap.size + 1 ≤ k_) (fun k_ hk => by simpa using hk)); have HB1 : Aside0 (Below w.heap.size w w1) := ⟨below_step (below_alloc HB.out _) hb⟩; have HN1 := Aside0.mk (Kd.N_below (Kd.N_alloc HN.out (Obj.cells #[.int .i64 x.f0, .bool x.f1, .int .i64 x.f2, .string x.f3, .string x.f4.f0, .string x.f4.f1, .slice Ax x.f5.length cx] 67)) hb); have HW1 : Aside0 (w1.heap[w.heap.size]? = some (.cells #[Value.slice A 0 c, Value.string p0, Value.string p1, Value.string p2, Value.string p3, Value.string p4, Value.string p5] 151 (0, 0))) := ⟨(hb.block _ (by have := lt_of_heap HW.out; simp; omega)).trans ((Below.heap_alloc _ _ _ (lt_of_heap HW.out)).trans HW.out)⟩; have HX1 : Aside0 (Box w1 (w.heap.size + 1)) := ⟨Box.mono (Box.alloc HX.out _) hb⟩; have HSX := Aside0.mk (lt_of_heap HX1.out); have q0 := HX1.out.c0; have q1 := HX1.out.c1; have q2 := HX1.out.c2; have q3 := HX1.out.c3; have q4 := HX1.out.c4; have q5 := HX1.out.c5; have q6 := HX1.out.c6; have q7 := HX1.out.fr; have hsx := lt_of_heap HX1.out; clear hV hb)
        (try simp only [Exit.inBlock, Exit.then])
        have hd := HX1.out.done (.int .i64 0) (.bool false) (.int .i64 0) (.string ⟨#[]⟩) (.string ⟨#[]⟩) (.string ⟨#[]⟩) (.slice none 0 0)
        have hbl := HB1.out.trans (below_cells (B := w.heap.size) (w.heap.size + 1) (by omega) [.int .i64 0, .bool false, .int .i64 0, .string ⟨#[]⟩, .string ⟨#[]⟩, .string ⟨#[]⟩, .slice none 0 0] 0 w1)
        simp only [World.setCells] at hd hbl
        refine bodyPost_ret (results_row_tmp rfl _ _ (w.heap.size + 1) 31 _ (0, 0) _ rfl ((Below.heap_alloc _ _ _ (lt_of_heap hd)).trans hd) Try.underlying31 rfl (by kernel_rfl)) rfl ?_
        exact ⟨_, rfl, Kd.V_nil _ _ _ _ _, below_alloc hbl _⟩
    · have hlt0 : decide ((k : Int) < (ks.length : Int)) = false := decide_eq_false (by omega)
      obtain rfl : k = m := by omega
      have hml : k = ks.length := by omega
      have hvs := HEND.out hml
      have hn := HN.out
      rw [show vs.take k = vs from List.take_of_length_le (by omega)] at hn
      obtain ⟨A0, c0, rfl⟩ := Kd.N_slice hn
      have HVV := Aside0.mk (Kd.N_V (base' := wr.heap.size) hn)
      have HSET := Aside0.mk hvs
      have HCS := Aside0.mk (value_Set.calls_ (fun k_ => w.heap.size + 2 ≤ k_) A0 c0 vs r.f0 r.f1 r.f2 r.f3 r.f4.f0 r.f4.f1 r.f5 rc wr HVV.out HSET.out)
      clear hn hvs hml HSET HVV hvl
      go_wp2_with (go_at_call 21; (with_reducible refine HCS.out.mono ?_); rintro e w1 ⟨v6, rfl, hV, hb⟩; obtain ⟨A6, c6, rfl⟩ := Kd.N_slice hV; have HV := Aside0.mk (Kd.V_mono (Kd.N_V (base' := w.heap.size) hV) (ok' := fun k_ => w.heap.size + 2 ≤ k_) (fun k_ hk => by have := lt_of_heap HX.out; rcases hk with h | h <;> omega)); have HB1 : Aside0 (Below w.heap.size w w1) := ⟨below_step HB.out hb⟩; have HX1 : Aside0 (Box w1 (w.heap.size + 1)) := ⟨Box.mono HX.out hb⟩; have q0 := HX1.out.c0; have q1 := HX1.out.c1; have q2 := HX1.out.c2; have q3 := HX1.out.c3; have q4 := HX1.out.c4; have q5 := HX1.out.c5; have q6 := HX1.out.c6; have q7 := HX1.out.fr; clear hV hb)
      (try simp only [Exit.inBlock, Exit.then])
      have hd := HX1.out.done (.int .i64 r.f0) (.bool r.f1) (.int .i64 r.f2) (.string r.f3) (.string r.f4.f0) (.string r.f4.f1) (.slice A6 r.f5.length c6)
      have hbl := HB1.out.trans (below_cells (B := w.heap.size) (w.heap.size + 1) (by omega) [.int .i64 r.f0, .bool r.f1, .int .i64 r.f2, .string r.f3, .string r.f4.f0, .string r.f4.f1, .slice A6 r.f5.length c6] 0 w1)
      simp only [World.setCells] at hd hbl
      refine bodyPost_ret (results_row_tmp rfl _ _ (w.heap.size + 1) 31 _ (0, 0) _ rfl hd Try.underlying31 rfl (by kernel_rfl)) rfl ?_
      exact ⟨_, rfl, Kd.V_mono (Kd.V_step HV.out (fun k_ hk _ => heap_after7 _ _ _ _ _ _ _ (by omega))) (fun k_ hk => by omega), hbl⟩
end Go.Proofs.Ytfmghijmcgkpiaa.GE
