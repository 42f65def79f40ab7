import Derived.Test.YtfmghijmcgkpiaaGS0
import Derived.Test.YtfmghijmcgkpiaaE13
namespace Go.Proofs.Ytfmghijmcgkpiaa.GE
open Go.RowKit Go.Proofs.YtfmghijmcgkpiaaW.PrintWords Go.Proofs.YtfmghijmcgkpiaaW.PrintLast Go.Proofs.Ytfmghijmcgkpiaa.HandV Go.Proofs.YtfmghijmcgkpiaaW.PrintMore
open Go.Proofs.Ytfmghijmcgkpiaa.GS
attribute [local go_sem] max2_int min2_int max_two min_two max_three min_three max_four min_four   -- for this text's walks alone
set_option linter.unusedVariables false
set_option linter.unusedSimpArgs false
-- IMPORT .E13
set_option maxRecDepth 100000 in
set_option maxHeartbeats 16000000 in
theorem Expr_ok (p0 p1 p2 p3 p4 p5 : ByteArray) (x : S67) (r : S31) (er : Int) (h : ExprOk p0 p1 p2 p3 p4 p5 x r er) (A : Option Addr) (c : Nat) (B : Option Addr) (kc : Nat) (w : World) (hl : x.f5.length ≤ kc) (hC : k67.C w B x.f5.length x.f5) :
    Calls Try.prog 41 #[.slice A 0 c, .agg #[.string p0, .string p1, .string p2, .string p3, .string p4, .string p5], .agg #[.int .i64 x.f0, .bool x.f1, .int .i64 x.f2, .string x.f3, .string x.f4.f0, .string x.f4.f1, .slice B x.f5.length kc]] w (Gives w r er) := by
  unfold ExprOk at h
  have he := (fun W (hW : Below w.heap.size w W) => h A c B kc W hl (Kd.C_below hC hW))
  have HE := Aside0.mk he
  clear h hC he
  go_enter Try.func41, Try.ntmps41
  go_wp2_with (go_at_call 97; (with_reducible refine (HE.out _ (by repeat (first | exact Below.refl _ _ | apply below_alloc))).mono ?_); rintro e w1 ⟨v6, rfl, hV, hb⟩; obtain ⟨A6, c6, rfl⟩ := Kd.V_slice hV; have HS0 := hb.size; have HV := Aside0.mk (Kd.V_mono hV (ok' := fun k_ => w.heap.size + 3 ≤ k_) (fun k_ hk => by simp at hk; omega)); have HB1 : Aside0 (Below w.heap.size w w1) := ⟨below_step (by repeat (first | exact Below.refl _ _ | apply below_alloc)) hb⟩; have HX1 : Aside0 (Box w1 (w.heap.size + 1 + 1)) := ⟨(hb.block _ (by first | (simp; done) | (simp; omega))).trans (by repeat (first | exact blk_at _ _ _ (by simp; done) | (refine (Below.heap_alloc _ _ _ (by first | (simp; done) | (simp; omega))).trans ?_)))⟩; have q0 := HX1.out.c0; have q1 := HX1.out.c1; have q2 := HX1.out.c2; have q3 := HX1.out.c3; have q4 := HX1.out.c4; have q5 := HX1.out.c5; have q6 := HX1.out.c6; have q7 := HX1.out.fr; clear hV hb)
  (try simp only [Exit.inBlock, Exit.then])
  have hd := HX1.out.done (.int .i64 r.f0) (.bool r.f1) (.int .i64 r.f2) (.string r.f3) (.string r.f4.f0) (.string r.f4.f1) (.slice A6 r.f5.length c6)
  have hbl := HB1.out.trans (below_cells (B := w.heap.size) (w.heap.size + 1 + 1) (by omega) [.int .i64 r.f0, .bool r.f1, .int .i64 r.f2, .string r.f3, .string r.f4.f0, .string r.f4.f1, .slice A6 r.f5.length c6] 0 w1)
  simp only [World.setCells] at hd hbl
  refine bodyPost_ret (results_row_tmp rfl _ _ (w.heap.size + 1 + 1) 31 _ (0, 0) _ rfl hd Try.underlying31 rfl (by kernel_rfl)) rfl ?_
  exact ⟨_, rfl, Kd.V_mono (Kd.V_step HV.out (fun k_ hk _ => heap_after7 _ _ _ _ _ _ _ (by omega))) (fun k_ hk => by omega), hbl⟩
end Go.Proofs.Ytfmghijmcgkpiaa.GE
