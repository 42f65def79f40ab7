import Derived.Test.YtnjlggpidkbjcaaProg
import Derived.Below
import Derived.Deep.Draws
import Derived.Deep.AppendLies
import Derived.Maps.AppendAt
import Derived.OwnWalk
import Derived.Laws.BytesArg
import Derived.Laws.MakeOwn
import Derived.Laws.OwnMore
import Derived.Deep.OwnRows
import Derived.Tactics
import Derived.Lib.ConvBytes
import Derived.Laws.Slices
import Derived.WalkKit
import Derived.KernelRfl
import Derived.RowKit3
import Derived.Deep.LoopGhost
import Derived.Deep.QuietTactic
import Derived.BigQuiet
import Derived.WideLaws
import Derived.Deep.DeepCutAuto
import Derived.Deep.CutBlock
import Derived.Deep.RegionHeld3
import Derived.Laws.Rows
import Derived.Lib.AppendStr
import Derived.ArgAppend
import Derived.Laws.IdiomCopy
import Derived.OrdersHeld
import Derived.Laws.BitsLemmas
import Derived.RowKit
import Derived.Test.YtnjlggpidkbjcaaHandV
import Derived.Test.YtnjlggpidkbjcaaWWords
import Derived.Test.YtnjlggpidkbjcaaWLast
import Derived.Test.YtnjlggpidkbjcaaWTab
import Derived.Test.YtnjlggpidkbjcaaWFour
import Derived.Test.YtnjlggpidkbjcaaWQPut
import Derived.Test.YtnjlggpidkbjcaaWApart
import Derived.Test.YtnjlggpidkbjcaaWArr
import Derived.Test.YtnjlggpidkbjcaaWZeros
import Derived.Test.YtnjlggpidkbjcaaGV0
import Derived.Test.YtnjlggpidkbjcaaVAsc2
namespace Go.Proofs.Ytnjlggpidkbjcaa.GV
open Go.RowKit Go.Proofs.YtnjlggpidkbjcaaW.PrintWords Go.Proofs.YtnjlggpidkbjcaaW.PrintLast Go.Proofs.Ytnjlggpidkbjcaa.HandV Go.Proofs.YtnjlggpidkbjcaaW.PrintMore
attribute [local go_sem] max2_int min2_int max_two min_two max_three min_three max_four min_four   -- for this text's walks alone
set_option maxRecDepth 100000 in
set_option maxHeartbeats 8000000 in
theorem set_check_pv (K : Int) (hK : K ≠ 5) (xs : List PV) (hn : xs.length ≤ 8) (hk : ∀ x ∈ xs, x.kind = K) (hf : ∀ x ∈ xs, x.Fine) (hr : ∀ i (h : i + 1 < xs.length), (xs[i]'(by omega)).cmp (xs[i + 1]'h) < 0) (p0 : Option Addr) (c : Nat) (w : World) (hx : ∀ i x, xs[i]? = some x → ∃ g, p0 = some ⟨g, 0, none⟩ ∧ PV.Lies w ⟨g, i * 7, none⟩ x) :
    Calls Try.prog 75 #[.slice p0 xs.length c] w fun e w' => e = .returned (.int .i64 0) ∧ Below w.heap.size w w' := by
  have HB := Aside0.mk (Below.refl w.heap.size w)
  have hn0 : decide (8 < (xs.length : Int)) = false := decide_eq_false (by omega)
  have HX := Aside0.mk hx
  have HR := Aside0.mk hr
  have HK := Aside0.mk hk
  have HF := Aside0.mk hf
  clear hx hr hk hf
  go_enter Try.func75, Try.ntmps75
  go_wp2
  go_loopw [11] (fun v wr => ∃ k : Nat, v = .int .i64 (k : Int) ∧ k ≤ xs.length ∧ Aside0 (Below w.heap.size w wr)) (fun v _ => match v with | .int _ x => xs.length - x.toNat | _ => 0)
  case atStart => exact ⟨0, rfl, Nat.zero_le _, HB⟩
  case round =>
    obtain ⟨k, rfl, hk, HB⟩ := hrel
    by_cases hlt : k < xs.length
    · have hlt0 : decide ((k : Int) < (xs.length : Int)) = true := decide_eq_true (by omega)
      have p0 : (0 ≤ (k : Int)) = True := eq_true (by omega)
      have p1 : ((k : Int) < (xs.length : Int)) = True := eq_true (by omega)
      have p2 : ((0 : Int) < (xs.length : Int)) = True := eq_true (by omega)
      have p3 : (0 < xs.length) = True := eq_true (by omega)
      obtain ⟨g, rfl, hlx⟩ := HX.out k _ (List.getElem?_eq_getElem hlt)
      have HLx := Aside0.mk (hlx.below HB.out)
      clear hlx
      have z0 : wr.cell? ⟨g, 0, none⟩ = some (.int .i64 K) := by
        have h0 : 0 < xs.length := by omega
        obtain ⟨g', hg', hl0⟩ := HX.out 0 _ (List.getElem?_eq_getElem h0)
        obtain rfl : g = g' := by injection hg' with hg'; injection hg'
        have h1 := (hl0.below HB.out) 0 (by decide)
        rw [PV.cell0, HK.out _ (List.getElem_mem h0)] at h1
        exact h1
      have hkk := HK.out _ (List.getElem_mem hlt)
      have hck := check_pv _ (HF.out _ (List.getElem_mem hlt))
      generalize hxk : xs[k]'hlt = xk at HLx hkk hck
      have x0 : wr.cell? ⟨g, k * 7, none⟩ = some (.int .i64 K) := by have := HLx.out.at 0 (by decide); rwa [PV.cell0, hkk] at this
      have x1 := HLx.out.at 1 (by decide)
      have x2 := HLx.out.at 2 (by decide)
      have x3 := HLx.out.at 3 (by decide)
      have x4 := HLx.out.at 4 (by decide)
      have x5 := HLx.out.at 5 (by decide)
      have x6 := HLx.out.at 6 (by decide)
      have s1 := store_of (PV.one xk 1 (by decide))
      have s2 := store_of (PV.one xk 2 (by decide))
      have s3 := store_of (PV.one xk 3 (by decide))
      have s4 := store_of (PV.one xk 4 (by decide))
      have s5 := store_of (PV.one xk 5 (by decide))
      have s6 := store_of (PV.one xk 6 (by decide))
      have hy0 : xk.cell 0 = .int .i64 K := by rw [PV.cell0, hkk]
      have k5 : (K == 5) = false := by simpa using hK
      unfold PV.arr at hck
      rw [hy0] at hck
      generalize hy1 : xk.cell 1 = y1 at x1 s1 hck
      generalize hy2 : xk.cell 2 = y2 at x2 s2 hck
      generalize hy3 : xk.cell 3 = y3 at x3 s3 hck
      generalize hy4 : xk.cell 4 = y4 at x4 s4 hck
      generalize hy5 : xk.cell 5 = y5 at x5 s5 hck
      generalize hy6 : xk.cell 6 = y6 at x6 s6 hck
      go_wp2_with fail
      have hg : g < wr.heap.size := World.block_lt_of_cell? _ _ x0
      have hg1 : g ≠ wr.heap.size := Nat.ne_of_lt hg
      go_quiet ((fail))
      go_wp2_with (go_at_call 27; refine (hck _).mono ?_; rintro e w' ⟨rfl, hb⟩; have b0 := (hb.cell (p := ⟨wr.heap.size, 0, none⟩) (by simp)).trans (show _ = some (Value.int .i64 K) by simp); have b1 := (hb.cell (p := ⟨wr.heap.size, 1, none⟩) (by simp)).trans (show _ = some (y1) by simp); have b2 := (hb.cell (p := ⟨wr.heap.size, 2, none⟩) (by simp)).trans (show _ = some (y2) by simp); have b3 := (hb.cell (p := ⟨wr.heap.size, 3, none⟩) (by simp)).trans (show _ = some (y3) by simp); have b4 := (hb.cell (p := ⟨wr.heap.size, 4, none⟩) (by simp)).trans (show _ = some (y4) by simp); have b5 := (hb.cell (p := ⟨wr.heap.size, 5, none⟩) (by simp)).trans (show _ = some (y5) by simp); have b6 := (hb.cell (p := ⟨wr.heap.size, 6, none⟩) (by simp)).trans (show _ = some (y6) by simp); have HB2 := Aside0.mk (below_step (by repeat (first | exact HB.out | apply below_alloc | apply pw_below_drewN | apply below_drew1)) hb); clear hb)
      by_cases hk0 : k = 0
      · have hk1 : decide (0 < (k : Int)) = false := decide_eq_false (by omega)
        go_quiet ((fail))
        go_wp2
        go_roundw
        case rel => exact ⟨k + 1, by first | rfl | (simp; done) | (simp; omega), by omega, ⟨by repeat (first | exact HB2.out | apply below_alloc | apply pw_below_drewN | apply below_drew1)⟩⟩
        case measure => simp; omega
      · have hk1 : decide (0 < (k : Int)) = true := decide_eq_true (by omega)
        have hk2 : 0 < (k : Int) := by omega
        have hk3 : (0 < (k : Int)) = True := eq_true hk2
        have hk4 : (0 < k) = True := eq_true (by omega)
        obtain ⟨m, hkm⟩ : ∃ m, k = m + 1 := ⟨k - 1, by omega⟩
        have hm : m < xs.length := by omega
        have hlt2 : (xs[m]'hm).cmp xk < 0 := by
          subst hkm
          rw [← hxk]
          exact HR.out m hlt
        have hsub : IntKind.i64.wrap ((k : Int) - 1) = (m : Int) := (i64_w _).trans (by unfold wrap64; omega)
        clear hkm
        have hm0 : (0 ≤ (m : Int)) = True := eq_true (by omega)
        have hm1 : ((m : Int) < (xs.length : Int)) = True := eq_true (by omega)
        have HLm : Aside0 (PV.Lies w' ⟨g, m * 7, none⟩ (xs[m]'hm)) := ⟨by
          obtain ⟨g', hg', hl0⟩ := HX.out m _ (List.getElem?_eq_getElem hm)
          obtain rfl : g = g' := by injection hg' with hg'; injection hg'
          exact hl0.below HB2.out⟩
        have hkm2 := HK.out _ (List.getElem_mem hm)
        generalize xs[m]'hm = xm at hlt2 HLm hkm2
        have hl := less_pv xm xk (hkm2.trans hkk.symm)
        rw [decide_eq_true hlt2] at hl
        unfold PV.arr at hl
        rw [hy0, hy1, hy2, hy3, hy4, hy5, hy6, show xm.cell 0 = .int .i64 K by rw [PV.cell0, hkm2]] at hl
        have e0 : w'.cell? ⟨g, m * 7, none⟩ = some (Value.int .i64 K) := by have := HLm.out.at 0 (by decide); rwa [PV.cell0, hkm2] at this
        have e1 := HLm.out.at 1 (by decide)
        have e2 := HLm.out.at 2 (by decide)
        have e3 := HLm.out.at 3 (by decide)
        have e4 := HLm.out.at 4 (by decide)
        have e5 := HLm.out.at 5 (by decide)
        have e6 := HLm.out.at 6 (by decide)
        generalize xm.cell 1 = a1 at e1 hl
        generalize xm.cell 2 = a2 at e2 hl
        generalize xm.cell 3 = a3 at e3 hl
        generalize xm.cell 4 = a4 at e4 hl
        generalize xm.cell 5 = a5 at e5 hl
        generalize xm.cell 6 = a6 at e6 hl
        have hB2 := HB2.out
        go_region_held3 (fun W => W.cell? ⟨g, m * 7, none⟩ = some (Value.int .i64 K) ∧ W.cell? ⟨g, m * 7 + 1, none⟩ = some (a1) ∧ W.cell? ⟨g, m * 7 + 2, none⟩ = some (a2) ∧ W.cell? ⟨g, m * 7 + 3, none⟩ = some (a3) ∧ W.cell? ⟨g, m * 7 + 4, none⟩ = some (a4) ∧ W.cell? ⟨g, m * 7 + 5, none⟩ = some (a5) ∧ W.cell? ⟨g, m * 7 + 6, none⟩ = some (a6) ∧ W.cell? ⟨wr.heap.size, 0, none⟩ = some (Value.int .i64 K) ∧ W.cell? ⟨wr.heap.size, 1, none⟩ = some (y1) ∧ W.cell? ⟨wr.heap.size, 2, none⟩ = some (y2) ∧ W.cell? ⟨wr.heap.size, 3, none⟩ = some (y3) ∧ W.cell? ⟨wr.heap.size, 4, none⟩ = some (y4) ∧ W.cell? ⟨wr.heap.size, 5, none⟩ = some (y5) ∧ W.cell? ⟨wr.heap.size, 6, none⟩ = some (y6) ∧ Below w.heap.size w W)
          ((first | (go_split_ands; refine ⟨?_, ?_, ?_, ?_, ?_, ?_, ?_, ?_, ?_, ?_, ?_, ?_, ?_, ?_, ?_⟩ <;> first | assumption | (apply below_drew1; assumption) | (simp; assumption) | exact (hb.cell (World.block_lt_of_cell? _ _ (by assumption))).trans (by assumption) | exact below_step (by assumption) hb) | (refine ⟨?_, ?_, ?_, ?_, ?_, ?_, ?_, ?_, ?_, ?_, ?_, ?_, ?_, ?_, ?_⟩ <;> first | assumption | (apply below_drew1; assumption) | (simp; assumption))))
          ((go_at_call 12; refine (hl _).mono ?_; rintro e w' ⟨rfl, hb⟩))
        go_split_ands
        go_wp2
        go_roundw
        case rel => exact ⟨k + 1, by first | rfl | (simp; done) | (simp; omega), by omega, ⟨by assumption⟩⟩
        case measure => simp; omega
    · have hlt0 : decide ((k : Int) < (xs.length : Int)) = false := decide_eq_false (by omega)
      go_wp2
      go_ret
      exact ⟨rfl, HB.out⟩
set_option maxRecDepth 100000 in
set_option maxHeartbeats 4000000 in
/-- value.Check of a set of plain values of one kind, in order. -/
theorem check5_pv (K : Int) (hK : K ≠ 5) (xs : List PV) (hn : xs.length ≤ 8) (hk : ∀ x ∈ xs, x.kind = K) (hf : ∀ x ∈ xs, x.Fine) (hr : ∀ i (h : i + 1 < xs.length), (xs[i]'(by omega)).cmp (xs[i + 1]'h) < 0) (p0 : Option Addr) (c : Nat) (w : World) (hx : ∀ i x, xs[i]? = some x → ∃ g, p0 = some ⟨g, 0, none⟩ ∧ PV.Lies w ⟨g, i * 7, none⟩ x) :
    Calls Try.prog 27 #[.agg #[.int .i64 5, .bool false, .int .i64 0, .string ⟨#[]⟩, .string ⟨#[]⟩, .string ⟨#[]⟩, .slice p0 xs.length c]] w fun e w' => e = .returned (.int .i64 0) ∧ Below w.heap.size w w' := by
  have HB := Aside0.mk (Below.refl w.heap.size w)
  have hE : ofRest false 0 (⟨#[]⟩ : ByteArray).toList (⟨#[]⟩ : ByteArray).toList (⟨#[]⟩ : ByteArray).toList 0 = 0 := by decide +kernel
  have hm : ∀ (v : Value) (w : World), Sem.run Try.prog (method 248 64 v "chancel/value.check") w = .ok (75, v) w := fun v w => by first | kernel_rfl | rfl
  have hsc := fun W hW => set_check_pv K hK xs hn hk hf hr p0 c W hW
  have HX := Aside0.mk hx
  clear hx hr hk hf
  go_enter Try.func27, Try.ntmps27
  go_wp2_with (first | (go_at_call 75; refine (hsc _ (fun i x hx => Exists.imp (fun _ h => ⟨h.1, h.2.below HB.out⟩) (HX.out i x hx))).mono ?_; rintro e w' ⟨rfl, hb⟩; have n1_ := Aside0.mk (below_step (by repeat (first | (with_reducible first | exact HB.out | apply below_alloc | apply pw_below_drewN | apply below_drew1) | exact HB.out)) hb); clear HB; have HB := n1_; clear n1_ hb) | (go_at_call 31; refine (value_of5 _ _ _ _ _ _ _ _ _).mono ?_; rw [hE]; rintro e w' ⟨rfl, hb⟩; have n1_ := Aside0.mk (below_step (by repeat (first | (with_reducible first | exact HB.out | apply below_alloc | apply pw_below_drewN | apply below_drew1) | exact HB.out)) hb); clear HB; have HB := n1_; clear n1_ hb))
  go_ret
  exact ⟨rfl, by repeat (first | (with_reducible first | exact HB.out | apply below_alloc | apply pw_below_drewN | apply below_drew1) | exact HB.out)⟩
end Go.Proofs.Ytnjlggpidkbjcaa.GV
