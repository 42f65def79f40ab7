import Derived.Test.YtnjlggpidkbjcaaProg
import Derived.Below
import Derived.Deep.Draws
import Derived.Deep.AppendLies
import Derived.Maps.AppendAt
import Derived.OwnWalk
import Derived.Laws.BytesArg
import Derived.Laws.MakeOwn
import Derived.Laws.OwnMore
import Derived.Deep.OwnRows
import Derived.Tactics
import Derived.Lib.ConvBytes
import Derived.Laws.Slices
import Derived.WalkKit
import Derived.KernelRfl
import Derived.RowKit3
import Derived.Deep.LoopGhost
import Derived.Deep.QuietTactic
import Derived.BigQuiet
import Derived.WideLaws
import Derived.Deep.DeepCutAuto
import Derived.Deep.CutBlock
import Derived.Deep.RegionHeld3
import Derived.Laws.Rows
import Derived.Lib.AppendStr
import Derived.ArgAppend
import Derived.Laws.IdiomCopy
import Derived.OrdersHeld
import Derived.Laws.BitsLemmas
import Derived.RowKit
import Derived.Test.YtnjlggpidkbjcaaHandV
import Derived.Test.YtnjlggpidkbjcaaWWords
import Derived.Test.YtnjlggpidkbjcaaWLast
import Derived.Test.YtnjlggpidkbjcaaWTab
import Derived.Test.YtnjlggpidkbjcaaWFour
import Derived.Test.YtnjlggpidkbjcaaWQPut
import Derived.Test.YtnjlggpidkbjcaaWApart
import Derived.Test.YtnjlggpidkbjcaaWArr
import Derived.Test.YtnjlggpidkbjcaaWZeros
import Derived.Test.YtnjlggpidkbjcaaGV0
import Derived.Test.YtnjlggpidkbjcaaVSet
namespace Go.Proofs.Ytnjlggpidkbjcaa.GV
open Go.RowKit Go.Proofs.YtnjlggpidkbjcaaW.PrintWords Go.Proofs.YtnjlggpidkbjcaaW.PrintLast Go.Proofs.Ytnjlggpidkbjcaa.HandV Go.Proofs.YtnjlggpidkbjcaaW.PrintMore
attribute [local go_sem] max2_int min2_int max_two min_two max_three min_three max_four min_four   -- for this text's walks alone
set_option maxRecDepth 100000 in
set_option maxHeartbeats 4000000 in
/-- value.Holds' closure: is the element the value in the box. -/
theorem holds_closure (x y : PV) (h : x.kind = y.kind) (bv : Nat) (w : World) (hy : PV.Lies w ⟨bv, 0, none⟩ y) :
    Calls Try.prog 37 #[.agg x.arr, .pointer (some ⟨bv, 0, none⟩)] w fun e w' => e = .returned (.bool (x.cmp y == 0)) ∧ Below w.heap.size w w' := by
  have hl := same_pv x y h
  have y0 := hy.at 0 (by decide)
  have y1 := hy.at 1 (by decide)
  have y2 := hy.at 2 (by decide)
  have y3 := hy.at 3 (by decide)
  have y4 := hy.at 4 (by decide)
  have y5 := hy.at 5 (by decide)
  have y6 := hy.at 6 (by decide)
  rw [Nat.zero_add] at y0 y1 y2 y3 y4 y5 y6
  clear hy
  have s0 := store_of (PV.one x 0 (by decide))
  have s1 := store_of (PV.one x 1 (by decide))
  have s2 := store_of (PV.one x 2 (by decide))
  have s3 := store_of (PV.one x 3 (by decide))
  have s4 := store_of (PV.one x 4 (by decide))
  have s5 := store_of (PV.one x 5 (by decide))
  have s6 := store_of (PV.one x 6 (by decide))
  unfold PV.arr at hl ⊢
  generalize PV.cell 0 x = a0 at hl s0 ⊢
  generalize PV.cell 1 x = a1 at hl s1 ⊢
  generalize PV.cell 2 x = a2 at hl s2 ⊢
  generalize PV.cell 3 x = a3 at hl s3 ⊢
  generalize PV.cell 4 x = a4 at hl s4 ⊢
  generalize PV.cell 5 x = a5 at hl s5 ⊢
  generalize PV.cell 6 x = a6 at hl s6 ⊢
  generalize PV.cell 0 y = b0 at hl y0
  generalize PV.cell 1 y = b1 at hl y1
  generalize PV.cell 2 y = b2 at hl y2
  generalize PV.cell 3 y = b3 at hl y3
  generalize PV.cell 4 y = b4 at hl y4
  generalize PV.cell 5 y = b5 at hl y5
  generalize PV.cell 6 y = b6 at hl y6
  have hbv : bv < w.heap.size := World.block_lt_of_cell? _ _ y0
  have hbv1 : bv ≠ w.heap.size := Nat.ne_of_lt hbv
  have hbv2 : ¬ (bv = w.heap.size) := hbv1
  go_enter Try.func37, Try.ntmps37
  go_wp2_with (go_at_call 13; refine (hl _).mono ?_; rintro e w' ⟨rfl, hb⟩; have HB : Aside0 (Below w.heap.size w w') := ⟨below_step (by repeat (first | exact Below.refl _ _ | apply below_alloc | apply pw_below_drewN | apply below_drew1)) hb⟩; clear hb)
  go_ret
  exact ⟨rfl, HB.out⟩
set_option maxRecDepth 100000 in
set_option maxHeartbeats 8000000 in
/-- slices.IndexFunc with that closure. -/
theorem holds_index (vs : List PV) (y : PV) (hn : vs.length ≤ 1000) (hk : ∀ x ∈ vs, x.kind = y.kind) (p : Option Addr) (c bv : Nat) (w : World) (hl : ∀ i x, vs[i]? = some x → ∃ g, p = some ⟨g, 0, none⟩ ∧ PV.Lies w ⟨g, i * 7, none⟩ x) (hy : PV.Lies w ⟨bv, 0, none⟩ y) :
    Calls Try.prog 48 #[.slice p vs.length c, .func (.func 37) #[] #[.pointer (some ⟨bv, 0, none⟩)]] w fun e w' => ∃ r : Int, e = .returned (.int .i64 r) ∧ decide (0 ≤ r) = vs.any (fun x => x.cmp y == 0) ∧ Below w.heap.size w w' := by
  have HX := Aside0.mk hl
  have HY := Aside0.mk hy
  have HK := Aside0.mk hk
  have HB := Aside0.mk (Below.refl w.heap.size w)
  clear hl hy hk
  go_enter Try.func48, Try.ntmps48
  go_wp2
  go_loopw [8] (fun v wr => ∃ k : Nat, v = .int .i64 (k : Int) ∧ k ≤ vs.length ∧ Aside0 ((vs.take k).any (fun x => x.cmp y == 0) = false) ∧ Aside0 (Below w.heap.size w wr)) (fun v _ => match v with | .int _ x => vs.length - x.toNat | _ => 0)
  case atStart => exact ⟨0, rfl, Nat.zero_le _, ⟨rfl⟩, HB⟩
  case round =>
    obtain ⟨k, rfl, hk, HA, HB⟩ := hrel
    by_cases hlt : k < vs.length
    · obtain ⟨g, rfl, hlx⟩ := HX.out k _ (List.getElem?_eq_getElem hlt)
      have hlt0 : decide ((k : Int) < (vs.length : Int)) = true := decide_eq_true (by omega)
      have p0 : (0 ≤ (k : Int)) = True := eq_true (by omega)
      have p1 : ((k : Int) < (vs.length : Int)) = True := eq_true (by omega)
      have hcl := fun W hW => holds_closure (vs[k]'hlt) y (HK.out _ (List.getElem_mem hlt)) bv W hW
      have HST : Aside0 ((vs.take (k + 1)).any (fun x => x.cmp y == 0) = ((vs.take k).any (fun x => x.cmp y == 0) || ((vs[k]'hlt).cmp y == 0))) := ⟨by
        rw [List.take_add_one, List.getElem?_eq_getElem hlt, List.any_append]
        simp⟩
      have HIN : Aside0 (((vs[k]'hlt).cmp y == 0) = true → vs.any (fun x => x.cmp y == 0) = true) := ⟨fun h => List.any_eq_true.2 ⟨_, List.getElem_mem hlt, h⟩⟩
      have HLx := Aside0.mk (hlx.below HB.out)
      clear hlx
      generalize vs[k]'hlt = xk at hcl HST HIN HLx
      have x0 := HLx.out.at 0 (by decide)
      have x1 := HLx.out.at 1 (by decide)
      have x2 := HLx.out.at 2 (by decide)
      have x3 := HLx.out.at 3 (by decide)
      have x4 := HLx.out.at 4 (by decide)
      have x5 := HLx.out.at 5 (by decide)
      have x6 := HLx.out.at 6 (by decide)
      rw [Nat.add_zero] at x0
      unfold PV.arr at hcl
      have HYW := Aside0.mk (HY.out.below HB.out)
      generalize (xk.cmp y == 0) = cb at hcl HST HIN
      generalize PV.cell 0 xk = a0 at hcl x0
      generalize PV.cell 1 xk = a1 at hcl x1
      generalize PV.cell 2 xk = a2 at hcl x2
      generalize PV.cell 3 xk = a3 at hcl x3
      generalize PV.cell 4 xk = a4 at hcl x4
      generalize PV.cell 5 xk = a5 at hcl x5
      generalize PV.cell 6 xk = a6 at hcl x6
      cases cb
      · go_wp2_with (go_at_call 37; refine (hcl _ HYW.out).mono ?_; rintro e w' ⟨rfl, hb⟩; have HB2 : Aside0 (Below w.heap.size w w') := ⟨below_step (by repeat (first | exact HB.out | apply below_alloc | apply pw_below_drewN | apply below_drew1)) hb⟩; clear hb)
        go_roundw
        case rel => exact ⟨k + 1, by first | rfl | (simp; done) | (simp; omega), by omega, ⟨by rw [HST.out, HA.out]; rfl⟩, HB2⟩
        case measure => simp; omega
      · go_wp2_with (go_at_call 37; refine (hcl _ HYW.out).mono ?_; rintro e w' ⟨rfl, hb⟩; have HB2 : Aside0 (Below w.heap.size w w') := ⟨below_step (by repeat (first | exact HB.out | apply below_alloc | apply pw_below_drewN | apply below_drew1)) hb⟩; clear hb)
        go_ret
        exact ⟨_, rfl, by rw [HIN.out (by trivial)]; exact decide_eq_true (by omega), HB2.out⟩
    · have hlt0 : decide ((k : Int) < (vs.length : Int)) = false := decide_eq_false (by omega)
      have hke : k = vs.length := by omega
      subst hke
      go_wp2
      go_ret
      have ha := HA.out
      rw [List.take_length] at ha
      exact ⟨_, rfl, by rw [ha]; rfl, HB.out⟩
set_option maxRecDepth 100000 in
set_option maxHeartbeats 8000000 in
/-- slices.ContainsFunc with that closure. -/
theorem holds_contains (vs : List PV) (y : PV) (hn : vs.length ≤ 1000) (hk : ∀ x ∈ vs, x.kind = y.kind) (p : Option Addr) (c bv : Nat) (w : World) (hl : ∀ i x, vs[i]? = some x → ∃ g, p = some ⟨g, 0, none⟩ ∧ PV.Lies w ⟨g, i * 7, none⟩ x) (hy : PV.Lies w ⟨bv, 0, none⟩ y) :
    Calls Try.prog 36 #[.slice p vs.length c, .func (.func 37) #[] #[.pointer (some ⟨bv, 0, none⟩)]] w fun e w' => e = .returned (.bool (vs.any (fun x => x.cmp y == 0))) ∧ Below w.heap.size w w' := by
  have hi := holds_index vs y hn hk p c bv w hl hy
  clear hl hy hk
  go_enter Try.func36, Try.ntmps36
  go_wp2_with (go_at_call 48; refine hi.mono ?_; rintro e w' ⟨r, rfl, hr, hb⟩; have HB := Aside0.mk hb; have HR := Aside0.mk hr; clear hb hr)
  go_ret
  exact ⟨by rw [← HR.out]; rfl, HB.out⟩
set_option maxRecDepth 100000 in
set_option maxHeartbeats 8000000 in
/-- value.Holds of a set of plain values and one of their kind. -/
theorem holds_set (vs : List PV) (y : PV) (hn : vs.length ≤ 1000) (hk : ∀ x ∈ vs, x.kind = y.kind) (p : Option Addr) (c : Nat) (w : World) (hl : ∀ i x, vs[i]? = some x → ∃ g, p = some ⟨g, 0, none⟩ ∧ PV.Lies w ⟨g, i * 7, none⟩ x) :
    Calls Try.prog 18 #[.agg #[.int .i64 5, .bool false, .int .i64 0, .string ⟨#[]⟩, .string ⟨#[]⟩, .string ⟨#[]⟩, .slice p vs.length c], .agg y.arr] w fun e w' => e = .returned (.bool (vs.any (fun x => x.cmp y == 0))) ∧ Below w.heap.size w w' := by
  have hc := fun bv W hW hY => holds_contains vs y hn hk p c bv W hW hY
  have HX := Aside0.mk hl
  clear hl hk
  have s0 := store_of (PV.one y 0 (by decide))
  have s1 := store_of (PV.one y 1 (by decide))
  have s2 := store_of (PV.one y 2 (by decide))
  have s3 := store_of (PV.one y 3 (by decide))
  have s4 := store_of (PV.one y 4 (by decide))
  have s5 := store_of (PV.one y 5 (by decide))
  have s6 := store_of (PV.one y 6 (by decide))
  unfold PV.arr
  generalize hy0 : PV.cell 0 y = a0 at s0 ⊢
  generalize hy1 : PV.cell 1 y = a1 at s1 ⊢
  generalize hy2 : PV.cell 2 y = a2 at s2 ⊢
  generalize hy3 : PV.cell 3 y = a3 at s3 ⊢
  generalize hy4 : PV.cell 4 y = a4 at s4 ⊢
  generalize hy5 : PV.cell 5 y = a5 at s5 ⊢
  generalize hy6 : PV.cell 6 y = a6 at s6 ⊢
  have hta : ∀ (x : Value) (w : World), Sem.run Try.prog (Instr.typeAssert (.iface 64 x) 57 64 true) w = .ok (.tuple #[x, .bool true]) w := by intro x w; simp [Instr.typeAssert, go_sem]
  go_enter Try.func18, Try.ntmps18
  have hE : ofRest false 0 (⟨#[]⟩ : ByteArray).toList (⟨#[]⟩ : ByteArray).toList (⟨#[]⟩ : ByteArray).toList 0 = 0 := by decide +kernel
  have HYL : ∀ O, Aside0 (PV.Lies ((w.alloc O).alloc (Obj.cells #[a0, a1, a2, a3, a4, a5, a6] 31)) ⟨w.heap.size + 1, 0, none⟩ y) := fun O => ⟨PV.Lies.of7 (by rw [hy0]; simp) (by rw [hy1]; simp) (by rw [hy2]; simp) (by rw [hy3]; simp) (by rw [hy4]; simp) (by rw [hy5]; simp) (by rw [hy6]; simp)⟩
  go_wp2_with (first | (go_at_call 36; refine (hc _ _ (fun i x hx => Exists.imp (fun _ h => ⟨h.1, h.2.below HB.out⟩) (HX.out i x hx)) HY.out).mono ?_; rintro e w' ⟨rfl, hb⟩; have HB2 : Aside0 (Below w.heap.size w w') := ⟨below_step HB.out hb⟩; clear hb) | (go_at_call 31; refine (value_of5 _ _ _ _ _ _ _ _ _).mono ?_; rw [hE]; rintro e w' ⟨rfl, hb⟩; have HY := Aside0.mk ((HYL _).out.below hb); have HB : Aside0 (Below w.heap.size w w') := ⟨below_step (by repeat (first | exact Below.refl _ _ | apply below_alloc | apply pw_below_drewN | apply below_drew1)) hb⟩; clear hb HYL))
  go_ret
  exact ⟨rfl, HB2.out⟩
end Go.Proofs.Ytnjlggpidkbjcaa.GV
