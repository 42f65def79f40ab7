import Derived.Test.YtnjlggpidkbjcaaProg
import Derived.Below
import Derived.Deep.Draws
import Derived.Deep.AppendLies
import Derived.Maps.AppendAt
import Derived.OwnWalk
import Derived.Laws.BytesArg
import Derived.Laws.MakeOwn
import Derived.Laws.OwnMore
import Derived.Deep.OwnRows
import Derived.Tactics
import Derived.Lib.ConvBytes
import Derived.Laws.Slices
import Derived.WalkKit
import Derived.KernelRfl
import Derived.RowKit3
import Derived.Deep.LoopGhost
import Derived.Deep.QuietTactic
import Derived.BigQuiet
import Derived.WideLaws
import Derived.Deep.DeepCutAuto
import Derived.Deep.CutBlock
import Derived.Deep.RegionHeld3
import Derived.Laws.Rows
import Derived.Lib.AppendStr
import Derived.ArgAppend
import Derived.Laws.IdiomCopy
import Derived.OrdersHeld
import Derived.Laws.BitsLemmas
import Derived.RowKit
import Derived.Test.YtnjlggpidkbjcaaHandV
import Derived.Test.YtnjlggpidkbjcaaWWords
import Derived.Test.YtnjlggpidkbjcaaWLast
import Derived.Test.YtnjlggpidkbjcaaWTab
import Derived.Test.YtnjlggpidkbjcaaWFour
import Derived.Test.YtnjlggpidkbjcaaWQPut
import Derived.Test.YtnjlggpidkbjcaaWApart
import Derived.Test.YtnjlggpidkbjcaaWArr
import Derived.Test.YtnjlggpidkbjcaaWZeros
import Derived.Test.YtnjlggpidkbjcaaGV0
import Derived.Test.YtnjlggpidkbjcaaVChk
import Derived.Deep.RegionHeld3
import Derived.Deep.QuietTactic
import Derived.BigQuiet
namespace Go.Proofs.Ytnjlggpidkbjcaa.GV
open Go.RowKit Go.Proofs.YtnjlggpidkbjcaaW.PrintWords Go.Proofs.YtnjlggpidkbjcaaW.PrintLast Go.Proofs.Ytnjlggpidkbjcaa.HandV Go.Proofs.YtnjlggpidkbjcaaW.PrintMore
attribute [local go_sem] max2_int min2_int max_two min_two max_three min_three max_four min_four   -- for this text's walks alone
/-- A row of numbers, as values, lies in a block. -/
def RowNu (w : World) (g : Nat) (xs : List Int) : Prop := ∀ i x, xs[i]? = some x → PV.Lies w ⟨g, i * 7, none⟩ (.nu x)
theorem RowNu.at {w : World} {g : Nat} {xs : List Int} (h : RowNu w g xs) {w' : World} (hb : Below w.heap.size w w') (i : Nat) (hi : i < xs.length) (j : Nat) (hj : j < 7) : w'.cell? ⟨g, i * 7 + j, none⟩ = some ((PV.nu (xs[i]'hi)).cell j) := by
  have h1 := h i _ (List.getElem?_eq_getElem hi) j hj
  have h2 : w.cell? ⟨g, i * 7 + j, none⟩ = some ((PV.nu (xs[i]'hi)).cell j) := (congrArg w.cell? (show (⟨g, i * 7 + j, none⟩ : Addr) = Addr.add ⟨g, i * 7, none⟩ j by simp [Addr.add])).trans h1
  exact (hb.cell (World.block_lt_of_cell? _ _ h2)).trans h2
set_option maxRecDepth 100000 in
set_option maxHeartbeats 8000000 in
theorem set_check_nu (xs : List Int) (hn : xs.length ≤ 8) (hr : ∀ i (h : i + 1 < xs.length), xs[i]'(by omega) < xs[i + 1]'h) (g c : Nat) (w : World) (hx : RowNu w g xs) :
    Calls Try.prog 75 #[.slice (some ⟨g, 0, none⟩) xs.length c] w fun e w' => e = .returned (.int .i64 0) ∧ Below w.heap.size w w' := by
  have HB := Aside0.mk (Below.refl w.heap.size w)
  have hn0 : decide (8 < (xs.length : Int)) = false := decide_eq_false (by omega)
  have HX := Aside0.mk hx
  have HR := Aside0.mk hr
  clear hx hr
  go_enter Try.func75, Try.ntmps75
  go_wp2
  go_loopw [11] (fun v wr => ∃ k : Nat, v = .int .i64 (k : Int) ∧ k ≤ xs.length ∧ Aside0 (Below w.heap.size w wr)) (fun v _ => match v with | .int _ x => xs.length - x.toNat | _ => 0)
  case atStart => exact ⟨0, rfl, Nat.zero_le _, HB⟩
  case round =>
    obtain ⟨k, rfl, hk, HB⟩ := hrel
    by_cases hlt : k < xs.length
    · have hlt0 : decide ((k : Int) < (xs.length : Int)) = true := decide_eq_true (by omega)
      have p0 : (0 ≤ (k : Int)) = True := eq_true (by omega)
      have p1 : ((k : Int) < (xs.length : Int)) = True := eq_true (by omega)
      have p2 : ((0 : Int) < (xs.length : Int)) = True := eq_true (by omega)
      have p3 : (0 < xs.length) = True := eq_true (by omega)
      have x0 : wr.cell? ⟨g, k * 7, none⟩ = some (.int .i64 2) := HX.out.at HB.out k hlt 0 (by decide)
      have x1 : wr.cell? ⟨g, k * 7 + 1, none⟩ = some (.bool false) := HX.out.at HB.out k hlt 1 (by decide)
      have x2 : wr.cell? ⟨g, k * 7 + 2, none⟩ = some (.int .i64 (xs[k]'hlt)) := HX.out.at HB.out k hlt 2 (by decide)
      have x3 : wr.cell? ⟨g, k * 7 + 3, none⟩ = some (.string ⟨#[]⟩) := HX.out.at HB.out k hlt 3 (by decide)
      have x4 : wr.cell? ⟨g, k * 7 + 4, none⟩ = some (.string ⟨#[]⟩) := HX.out.at HB.out k hlt 4 (by decide)
      have x5 : wr.cell? ⟨g, k * 7 + 5, none⟩ = some (.string ⟨#[]⟩) := HX.out.at HB.out k hlt 5 (by decide)
      have x6 : wr.cell? ⟨g, k * 7 + 6, none⟩ = some (.slice none 0 0) := HX.out.at HB.out k hlt 6 (by decide)
      have z0 : wr.cell? ⟨g, 0, none⟩ = some (.int .i64 2) := HX.out.at HB.out 0 (by omega) 0 (by decide)
      generalize hxk : xs[k]'hlt = xk at x2
      go_wp2_with fail
      have hg : g < wr.heap.size := World.block_lt_of_cell? _ _ x0
      have hg1 : g ≠ wr.heap.size := Nat.ne_of_lt hg
      go_quiet ((fail))
      go_wp2_with (go_at_call 27; refine (check2 _ _).mono ?_; rintro e w' ⟨rfl, hb⟩; have b0 := (hb.cell (p := ⟨wr.heap.size, 0, none⟩) (by simp)).trans (show _ = some (Value.int .i64 2) by simp); have b1 := (hb.cell (p := ⟨wr.heap.size, 1, none⟩) (by simp)).trans (show _ = some (Value.bool false) by simp); have b2 := (hb.cell (p := ⟨wr.heap.size, 2, none⟩) (by simp)).trans (show _ = some (Value.int .i64 xk) by simp); have b3 := (hb.cell (p := ⟨wr.heap.size, 3, none⟩) (by simp)).trans (show _ = some (Value.string ⟨#[]⟩) by simp); have b4 := (hb.cell (p := ⟨wr.heap.size, 4, none⟩) (by simp)).trans (show _ = some (Value.string ⟨#[]⟩) by simp); have b5 := (hb.cell (p := ⟨wr.heap.size, 5, none⟩) (by simp)).trans (show _ = some (Value.string ⟨#[]⟩) by simp); have b6 := (hb.cell (p := ⟨wr.heap.size, 6, none⟩) (by simp)).trans (show _ = some (Value.slice none 0 0) by simp); have HB2 := Aside0.mk (below_step (by repeat (first | exact HB.out | apply below_alloc | apply pw_below_drewN | apply below_drew1)) hb); clear hb)
      by_cases hk0 : k = 0
      · have hk1 : decide (0 < (k : Int)) = false := decide_eq_false (by omega)
        go_quiet ((fail))
        go_wp2
        go_roundw
        case rel => exact ⟨k + 1, by first | rfl | (simp; done) | (simp; omega), by omega, ⟨by repeat (first | exact HB2.out | apply below_alloc | apply pw_below_drewN | apply below_drew1)⟩⟩
        case measure => simp; omega
      · have hk1 : decide (0 < (k : Int)) = true := decide_eq_true (by omega)
        have hk2 : 0 < (k : Int) := by omega
        have hk3 : (0 < (k : Int)) = True := eq_true hk2
        have hk4 : (0 < k) = True := eq_true (by omega)
        obtain ⟨m, hkm⟩ : ∃ m, k = m + 1 := ⟨k - 1, by omega⟩
        have hm : m < xs.length := by omega
        have hlt2 : xs[m]'hm < xk := by
          subst hkm
          rw [← hxk]
          exact HR.out m hlt
        have hsub : IntKind.i64.wrap ((k : Int) - 1) = (m : Int) := (i64_w _).trans (by unfold wrap64; omega)
        clear hkm
        have hm0 : (0 ≤ (m : Int)) = True := eq_true (by omega)
        have hm1 : ((m : Int) < (xs.length : Int)) = True := eq_true (by omega)
        have e0 : w'.cell? ⟨g, m * 7, none⟩ = some (Value.int .i64 2) := HX.out.at HB2.out m hm 0 (by decide)
        have e1 : w'.cell? ⟨g, m * 7 + 1, none⟩ = some (Value.bool false) := HX.out.at HB2.out m hm 1 (by decide)
        have e2 : w'.cell? ⟨g, m * 7 + 2, none⟩ = some (Value.int .i64 (xs[m]'hm)) := HX.out.at HB2.out m hm 2 (by decide)
        have e3 : w'.cell? ⟨g, m * 7 + 3, none⟩ = some (Value.string ⟨#[]⟩) := HX.out.at HB2.out m hm 3 (by decide)
        have e4 : w'.cell? ⟨g, m * 7 + 4, none⟩ = some (Value.string ⟨#[]⟩) := HX.out.at HB2.out m hm 4 (by decide)
        have e5 : w'.cell? ⟨g, m * 7 + 5, none⟩ = some (Value.string ⟨#[]⟩) := HX.out.at HB2.out m hm 5 (by decide)
        have e6 : w'.cell? ⟨g, m * 7 + 6, none⟩ = some (Value.slice none 0 0) := HX.out.at HB2.out m hm 6 (by decide)
        generalize xs[m]'hm = xm at hlt2 e2
        have hl : ∀ W, Calls Try.prog 12 #[.agg (PV.nu xm).arr, .agg (PV.nu xk).arr] W fun e W' => e = .returned (.bool true) ∧ Below W.heap.size W W' := by
          intro W
          have := less_pv (.nu xm) (.nu xk) rfl W
          rwa [show decide ((PV.nu xm).cmp (PV.nu xk) < 0) = true by show decide (cmpI xm xk < 0) = true; unfold cmpI; rw [if_pos hlt2]; rfl] at this
        have hB2 := HB2.out
        go_region_held3 (fun W => W.cell? ⟨g, m * 7, none⟩ = some (Value.int .i64 2) ∧ W.cell? ⟨g, m * 7 + 1, none⟩ = some (Value.bool false) ∧ W.cell? ⟨g, m * 7 + 2, none⟩ = some (Value.int .i64 xm) ∧ W.cell? ⟨g, m * 7 + 3, none⟩ = some (Value.string ⟨#[]⟩) ∧ W.cell? ⟨g, m * 7 + 4, none⟩ = some (Value.string ⟨#[]⟩) ∧ W.cell? ⟨g, m * 7 + 5, none⟩ = some (Value.string ⟨#[]⟩) ∧ W.cell? ⟨g, m * 7 + 6, none⟩ = some (Value.slice none 0 0) ∧ W.cell? ⟨wr.heap.size, 0, none⟩ = some (Value.int .i64 2) ∧ W.cell? ⟨wr.heap.size, 1, none⟩ = some (Value.bool false) ∧ W.cell? ⟨wr.heap.size, 2, none⟩ = some (Value.int .i64 xk) ∧ W.cell? ⟨wr.heap.size, 3, none⟩ = some (Value.string ⟨#[]⟩) ∧ W.cell? ⟨wr.heap.size, 4, none⟩ = some (Value.string ⟨#[]⟩) ∧ W.cell? ⟨wr.heap.size, 5, none⟩ = some (Value.string ⟨#[]⟩) ∧ W.cell? ⟨wr.heap.size, 6, none⟩ = some (Value.slice none 0 0) ∧ Below w.heap.size w W)
          ((first | (go_split_ands; refine ⟨?_, ?_, ?_, ?_, ?_, ?_, ?_, ?_, ?_, ?_, ?_, ?_, ?_, ?_, ?_⟩ <;> first | assumption | (apply below_drew1; assumption) | (simp; assumption) | exact (hb.cell (World.block_lt_of_cell? _ _ (by assumption))).trans (by assumption) | exact below_step (by assumption) hb) | (refine ⟨?_, ?_, ?_, ?_, ?_, ?_, ?_, ?_, ?_, ?_, ?_, ?_, ?_, ?_, ?_⟩ <;> first | assumption | (apply below_drew1; assumption) | (simp; assumption))))
          ((go_at_call 12; refine (hl _).mono ?_; rintro e w' ⟨rfl, hb⟩))
        go_split_ands
        go_wp2
        go_roundw
        case rel => exact ⟨k + 1, by first | rfl | (simp; done) | (simp; omega), by omega, ⟨by assumption⟩⟩
        case measure => simp; omega
    · have hlt0 : decide ((k : Int) < (xs.length : Int)) = false := decide_eq_false (by omega)
      go_wp2
      go_ret
      exact ⟨rfl, HB.out⟩
end Go.Proofs.Ytnjlggpidkbjcaa.GV
