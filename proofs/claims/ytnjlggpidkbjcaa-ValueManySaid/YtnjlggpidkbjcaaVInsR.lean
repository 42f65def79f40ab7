import Derived.Test.YtnjlggpidkbjcaaProg
import Derived.Below
import Derived.Deep.Draws
import Derived.Deep.AppendLies
import Derived.Maps.AppendAt
import Derived.OwnWalk
import Derived.Laws.BytesArg
import Derived.Laws.MakeOwn
import Derived.Laws.OwnMore
import Derived.Deep.OwnRows
import Derived.Tactics
import Derived.Lib.ConvBytes
import Derived.Laws.Slices
import Derived.WalkKit
import Derived.KernelRfl
import Derived.RowKit3
import Derived.Deep.LoopGhost
import Derived.Deep.QuietTactic
import Derived.BigQuiet
import Derived.WideLaws
import Derived.Deep.DeepCutAuto
import Derived.Deep.CutBlock
import Derived.Deep.RegionHeld3
import Derived.Laws.Rows
import Derived.Lib.AppendStr
import Derived.ArgAppend
import Derived.Laws.IdiomCopy
import Derived.OrdersHeld
import Derived.Laws.BitsLemmas
import Derived.RowKit
import Derived.Test.YtnjlggpidkbjcaaHandV
import Derived.Test.YtnjlggpidkbjcaaWWords
import Derived.Test.YtnjlggpidkbjcaaWLast
import Derived.Test.YtnjlggpidkbjcaaWTab
import Derived.Test.YtnjlggpidkbjcaaWFour
import Derived.Test.YtnjlggpidkbjcaaWQPut
import Derived.Test.YtnjlggpidkbjcaaWApart
import Derived.Test.YtnjlggpidkbjcaaWArr
import Derived.Test.YtnjlggpidkbjcaaWZeros
import Derived.Test.YtnjlggpidkbjcaaGV0
import Derived.Test.YtnjlggpidkbjcaaVInsG
namespace Go.Proofs.Ytnjlggpidkbjcaa.GV
open Go.RowKit Go.Proofs.YtnjlggpidkbjcaaW.PrintWords Go.Proofs.YtnjlggpidkbjcaaW.PrintLast Go.Proofs.Ytnjlggpidkbjcaa.HandV Go.Proofs.YtnjlggpidkbjcaaW.PrintMore
attribute [local go_sem] max2_int min2_int max_two min_two max_three min_three max_four min_four   -- for this text's walks alone
set_option maxRecDepth 100000 in
set_option maxHeartbeats 8000000 in
/-- The walk through slices.Insert in the midst with room. -/
theorem insert_room_walk (g n cap i : Nat) (vb vc : Nat) (w : World) (hi : i < n) (hn : n ≤ 1000) (hroom : n + 1 ≤ cap) (xs news : List Value)
    (hov : ∀ lb cb, (callFunc 46 #[.slice (some ⟨vb, 0, none⟩) 1 vc, .slice (some ⟨g, (i + 1) * 7, none⟩) lb cb]).run Try.prog w = .ok (.value (.bool false)) w)
    (hcpA : ∀ (W : World), (∀ x, W.cell? x = w.cell? x) → (∀ x, W.frozen? x = w.frozen? x) → ∀ ty dc sc, (Builtin.copy_ #[29, 29] ty #[.slice (some ⟨g, (i + 1) * 7, none⟩) (n - i) dc, .slice (some ⟨g, i * 7, none⟩) (n + 1 - i) sc]).run Try.prog W = .ok (goInt ((n - i : Nat) : Int)) (W.setCells g ((i + 1) * 7) xs))
    (hcpB : ∀ (W : World), (∀ x, W.cell? x = (w.drew.setCells g ((i + 1) * 7) xs).cell? x) → (∀ x, W.frozen? x = (w.drew.setCells g ((i + 1) * 7) xs).frozen? x) → ∀ ty dc, (Builtin.copy_ #[29, 29] ty #[.slice (some ⟨g, i * 7, none⟩) (n + 1 - i) dc, .slice (some ⟨vb, 0, none⟩) 1 vc]).run Try.prog W = .ok (goInt 1) (W.setCells g (i * 7) news)) :
    Calls Try.prog 35 #[.slice (some ⟨g, 0, none⟩) n cap, .int .i64 (i : Int), .slice (some ⟨vb, 0, none⟩) 1 vc] w fun e w' => e = .returned (.slice (some ⟨g, 0, none⟩) (n + 1) cap) ∧ w' = (w.drew.setCells g ((i + 1) * 7) xs).setCells g (i * 7) news := by
  have hz1 : ¬ ((1 : Int) = 0) := by omega
  have mixed : Try.prog.follows Departure.mixedOrders = true := by kernel_rfl
  have he : ((i : Int) == (n : Int)) = false := beq_eq_false_iff_ne.mpr (by omega)
  have hgt : decide ((cap : Int) < (n : Int) + 1) = false := decide_eq_false (by omega)
  have hgt2 : decide (cap < n + 1) = false := decide_eq_false (by omega)
  have h0 : (0 ≤ (i : Int)) = True := eq_true (by omega)
  have h2 : ((i : Int) ≤ (n : Int)) = True := eq_true (by omega)
  have h3 : ((i : Int) ≤ (cap : Int)) = True := eq_true (by omega)
  have h4 : i ≤ n := by omega
  have h5 : i ≤ cap := by omega
  have h6 : n + 1 ≤ cap := by omega
  have hkk : (n : Int) + 1 - (i : Int) = ((n + 1 - i : Nat) : Int) := by omega
  have hci : ¬ (cap = i) := by omega
  have hci1 : ¬ (cap = i + 1) := by omega
  have hw1 : IntKind.i64.wrap ((i : Int) + 1) = (i : Int) + 1 := by rw [IntKind.wrap_i64]; omega
  have hb1 : (0 : Int) ≤ (i : Int) + 1 := by omega
  have htn : ((i : Int) + 1).toNat = i + 1 := by omega
  have hb3 : (i : Int) ≤ (n : Int) := by omega
  have hb4 : (i : Int) ≤ (n : Int) + 1 := by omega
  have hA := hcpA w.drew (fun _ => rfl) (fun _ => rfl) 3 (cap - (i + 1)) (cap - i)
  go_enter Try.func35, Try.ntmps35
  go_wp2_with (simp only [hov])
  go_region_law_o (fail)
  have hB := hcpB (w.drew.setCells g ((i + 1) * 7) xs) (fun _ => rfl) (fun _ => rfl) 3 (cap - i)
  go_wp2
  go_ret
  exact ⟨rfl, rfl⟩
end Go.Proofs.Ytnjlggpidkbjcaa.GV
