import Derived.Test.YtnjlggpidkbjcaaProg
import Derived.Below
import Derived.Deep.Draws
import Derived.Deep.AppendLies
import Derived.Maps.AppendAt
import Derived.OwnWalk
import Derived.Laws.BytesArg
import Derived.Laws.MakeOwn
import Derived.Laws.OwnMore
import Derived.Deep.OwnRows
import Derived.Tactics
import Derived.Lib.ConvBytes
import Derived.Laws.Slices
import Derived.WalkKit
import Derived.KernelRfl
import Derived.RowKit3
import Derived.Deep.LoopGhost
import Derived.Deep.QuietTactic
import Derived.BigQuiet
import Derived.WideLaws
import Derived.Deep.DeepCutAuto
import Derived.Deep.CutBlock
import Derived.Deep.RegionHeld3
import Derived.Laws.Rows
import Derived.Lib.AppendStr
import Derived.ArgAppend
import Derived.Laws.IdiomCopy
import Derived.OrdersHeld
import Derived.Laws.BitsLemmas
import Derived.RowKit
import Derived.Test.YtnjlggpidkbjcaaHandV
import Derived.Test.YtnjlggpidkbjcaaWWords
import Derived.Test.YtnjlggpidkbjcaaWLast
import Derived.Test.YtnjlggpidkbjcaaWTab
import Derived.Test.YtnjlggpidkbjcaaWFour
import Derived.Test.YtnjlggpidkbjcaaWQPut
import Derived.Test.YtnjlggpidkbjcaaWApart
import Derived.Test.YtnjlggpidkbjcaaWArr
import Derived.Test.YtnjlggpidkbjcaaWZeros
import Derived.Test.YtnjlggpidkbjcaaGV0
import Derived.Test.YtnjlggpidkbjcaaVInsLib
namespace Go.Proofs.Ytnjlggpidkbjcaa.GV
open Go.RowKit Go.Proofs.YtnjlggpidkbjcaaW.PrintWords Go.Proofs.YtnjlggpidkbjcaaW.PrintLast Go.Proofs.Ytnjlggpidkbjcaa.HandV Go.Proofs.YtnjlggpidkbjcaaW.PrintMore
attribute [local go_sem] max2_int min2_int max_two min_two max_three min_three max_four min_four   -- for this text's walks alone
theorem ins_row2 (R xs news : List Value) (n7 i7 : Nat) (hx : xs.length = n7) (h : R.take i7 = xs.take i7) (hi : i7 ≤ n7) (hn : news.length = 7) :
    (((R.take i7 ++ news ++ R.drop (i7 + 7)).take (i7 + 7)) ++ xs.drop i7 ++ ((R.take i7 ++ news ++ R.drop (i7 + 7)).drop (i7 + 7 + (n7 - i7)))).take (n7 + 7) = xs.take i7 ++ news ++ xs.drop i7 := by
  have e1 : (R.take i7 ++ news ++ R.drop (i7 + 7)).take (i7 + 7) = xs.take i7 ++ news := by
    rw [h]
    exact List.take_left' (by rw [List.length_append, List.length_take]; omega)
  rw [e1]
  exact List.take_left' (by rw [List.length_append, List.length_append, List.length_take, List.length_drop]; omega)
set_option maxRecDepth 100000 in
set_option maxHeartbeats 8000000 in
/-- The walk through slices.Insert in the midst without room. -/
theorem insert_full_walk (g n cap i G N : Nat) (vb vc : Nat) (w W1 : World) (hi : i < n) (hn : n ≤ 1000) (hnc : n ≤ cap) (hfull : cap < n + 1) (hGn : n + 1 ≤ G) (xs news : List Value)
    (hrz : ∀ ty, (Builtin.append_ #[29, 3] ty #[.slice (some ⟨g, 0, none⟩) i cap, .int .i64 ((n + 1 - i : Nat) : Int)]).run Try.prog w = .ok (.slice (some ⟨N, 0, none⟩) (n + 1) G) W1)
    (hcpA : ∀ (W : World), (∀ x, W.cell? x = W1.cell? x) → (∀ x, W.frozen? x = W1.frozen? x) → ∀ ty dc, (Builtin.copy_ #[29, 29] ty #[.slice (some ⟨N, i * 7, none⟩) (n + 1 - i) dc, .slice (some ⟨vb, 0, none⟩) 1 vc]).run Try.prog W = .ok (goInt 1) (W.setCells N (i * 7) news))
    (hcpB : ∀ (W : World), (∀ x, W.cell? x = (W1.setCells N (i * 7) news).cell? x) → (∀ x, W.frozen? x = (W1.setCells N (i * 7) news).frozen? x) → ∀ ty dc sc, (Builtin.copy_ #[29, 29] ty #[.slice (some ⟨N, (i + 1) * 7, none⟩) (n - i) dc, .slice (some ⟨g, i * 7, none⟩) (n - i) sc]).run Try.prog W = .ok (goInt ((n - i : Nat) : Int)) (W.setCells N ((i + 1) * 7) xs)) :
    Calls Try.prog 35 #[.slice (some ⟨g, 0, none⟩) n cap, .int .i64 (i : Int), .slice (some ⟨vb, 0, none⟩) 1 vc] w fun e w' => e = .returned (.slice (some ⟨N, 0, none⟩) (n + 1) G) ∧ w' = ((W1.setCells N (i * 7) news).drew).setCells N ((i + 1) * 7) xs := by
  have hz1 : ¬ ((1 : Int) = 0) := by omega
  have mixed : Try.prog.follows Departure.mixedOrders = true := by kernel_rfl
  have he : ((i : Int) == (n : Int)) = false := beq_eq_false_iff_ne.mpr (by omega)
  have hgt : decide ((cap : Int) < (n : Int) + 1) = true := decide_eq_true (by omega)
  have hgt2 : decide (cap < n + 1) = true := decide_eq_true (by omega)
  have h0 : (0 ≤ (i : Int)) = True := eq_true (by omega)
  have h2 : ((i : Int) ≤ (n : Int)) = True := eq_true (by omega)
  have h3 : ((i : Int) ≤ (cap : Int)) = True := eq_true (by omega)
  have h4 : i ≤ n := by omega
  have h5 : i ≤ cap := by omega
  have hkk : (n : Int) + 1 - (i : Int) = ((n + 1 - i : Nat) : Int) := by omega
  have hGi : ¬ (G = i) := by omega
  have hGim : ¬ (G = i + 1) := by omega
  have hci : ¬ (cap = i) := by omega
  have hw1 : IntKind.i64.wrap ((i : Int) + 1) = (i : Int) + 1 := by rw [IntKind.wrap_i64]; omega
  have hb1 : (0 : Int) ≤ (i : Int) + 1 := by omega
  have htn : ((i : Int) + 1).toNat = i + 1 := by omega
  have hb3 : (i : Int) ≤ (n : Int) := by omega
  go_enter Try.func35, Try.ntmps35
  go_wp2_with (first
    | (at_builtin; refine Lib.wpList_append_run _ rfl _ _ _ _ rfl _ _ rfl rfl _ _ (hrz _) ?_)
    | (at_builtin; refine wpList_copy_runI _ rfl _ _ 29 29 rfl _ _ rfl rfl (hcpA _ (fun _ => rfl) (fun _ => rfl) _ _) ?_)
    | (at_builtin; refine wpList_copy_runI _ rfl _ _ 29 29 rfl _ _ rfl rfl (hcpB _ (fun _ => rfl) (fun _ => rfl) _ _ _) ?_))
  have hB := hcpB (W1.setCells N (i * 7) news).drew (fun _ => rfl) (fun _ => rfl) 3 (G - (i + 1)) (cap - i)
  go_region_law_o (fail)
  go_wp2
  go_ret
  exact ⟨rfl, rfl⟩
end Go.Proofs.Ytnjlggpidkbjcaa.GV
