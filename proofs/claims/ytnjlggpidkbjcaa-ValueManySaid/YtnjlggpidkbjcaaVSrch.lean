import Derived.Test.YtnjlggpidkbjcaaProg
import Derived.Below
import Derived.Deep.Draws
import Derived.Deep.AppendLies
import Derived.Maps.AppendAt
import Derived.OwnWalk
import Derived.Laws.BytesArg
import Derived.Laws.MakeOwn
import Derived.Laws.OwnMore
import Derived.Deep.OwnRows
import Derived.Tactics
import Derived.Lib.ConvBytes
import Derived.Laws.Slices
import Derived.WalkKit
import Derived.KernelRfl
import Derived.RowKit3
import Derived.Deep.LoopGhost
import Derived.Deep.QuietTactic
import Derived.BigQuiet
import Derived.WideLaws
import Derived.Deep.DeepCutAuto
import Derived.Deep.CutBlock
import Derived.Deep.RegionHeld3
import Derived.Laws.Rows
import Derived.Lib.AppendStr
import Derived.ArgAppend
import Derived.Laws.IdiomCopy
import Derived.OrdersHeld
import Derived.Laws.BitsLemmas
import Derived.RowKit
import Derived.Test.YtnjlggpidkbjcaaHandV
import Derived.Test.YtnjlggpidkbjcaaWWords
import Derived.Test.YtnjlggpidkbjcaaWLast
import Derived.Test.YtnjlggpidkbjcaaWTab
import Derived.Test.YtnjlggpidkbjcaaWFour
import Derived.Test.YtnjlggpidkbjcaaWQPut
import Derived.Test.YtnjlggpidkbjcaaWApart
import Derived.Test.YtnjlggpidkbjcaaWArr
import Derived.Test.YtnjlggpidkbjcaaWZeros
import Derived.Test.YtnjlggpidkbjcaaGV0
import Derived.Test.YtnjlggpidkbjcaaVPv
namespace Go.Proofs.Ytnjlggpidkbjcaa.GV
open Go.RowKit Go.Proofs.YtnjlggpidkbjcaaW.PrintWords Go.Proofs.YtnjlggpidkbjcaaW.PrintLast Go.Proofs.Ytnjlggpidkbjcaa.HandV Go.Proofs.YtnjlggpidkbjcaaW.PrintMore
attribute [local go_sem] max2_int min2_int max_two min_two max_three min_three max_four min_four   -- for this text's walks alone
/-- Where a search by halves ends. -/
def searchF (p : Nat → Bool) : Nat → Nat → Nat → Nat
  | 0, a, _ => a
  | k + 1, a, b => if a < b then (if p ((a + b) / 2) then searchF p k a ((a + b) / 2) else searchF p k ((a + b) / 2 + 1) b) else a
set_option maxRecDepth 100000 in
set_option maxHeartbeats 4000000 in
theorem search34 (n : Nat) (hn : n ≤ 1000) (p : Nat → Bool) (bo bv : Nat) (w : World)
    (hf : ∀ W, Below w.heap.size w W → ∀ h : Nat, h < n → Calls Try.prog 34 #[.int .i64 (h : Int), .pointer (some ⟨bo, 0, none⟩), .pointer (some ⟨bv, 0, none⟩)] W fun e W' => e = .returned (.bool (p h)) ∧ Below W.heap.size W W') :
    Calls Try.prog 33 #[.int .i64 (n : Int), .func (.func 34) #[] #[.pointer (some ⟨bo, 0, none⟩), .pointer (some ⟨bv, 0, none⟩)]] w fun e w' => e = .returned (.int .i64 ((searchF p n 0 n : Nat) : Int)) ∧ Below w.heap.size w w' := by
  have HB := Aside0.mk (Below.refl w.heap.size w)
  obtain ⟨r, hr⟩ : ∃ r, searchF p n 0 n = r := ⟨_, rfl⟩
  rw [hr]
  go_enter Try.func33, Try.ntmps33
  go_wp2
  go_loopw [5, 6] (fun v5 v6 wr => ∃ a b k : Nat, v5 = .int .i64 (a : Int) ∧ v6 = .int .i64 (b : Int) ∧ a ≤ b ∧ b ≤ n ∧ b ≤ a + k ∧ Aside0 (searchF p k a b = r) ∧ Aside0 (Below w.heap.size w wr)) (fun v5 v6 _ => match v5, v6 with | .int _ x, .int _ y => (y - x).toNat | _, _ => 0)
  case atStart => exact ⟨0, n, n, rfl, rfl, Nat.zero_le _, Nat.le_refl _, by omega, ⟨hr⟩, HB⟩
  case round =>
    clear hr
    obtain ⟨a, b, k, rfl, rfl, h1, h2, h3, HA, HB⟩ := hrel
    by_cases hab : a < b
    · have hab0 : decide ((a : Int) < (b : Int)) = true := decide_eq_true (by omega)
      obtain ⟨k, rfl⟩ : ∃ m, k = m + 1 := ⟨k - 1, by omega⟩
      have ha := HA.out
      clear HA
      rw [searchF, if_pos hab] at ha
      have hh : (a + b) / 2 < n := by omega
      obtain ⟨h, hh0⟩ : ∃ h, (a + b) / 2 = h := ⟨_, rfl⟩
      have hv : (((a : Int) + (b : Int)) / 2) = (h : Int) := by omega
      rw [hh0] at ha hh
      have hc := fun W hW => hf W hW h hh
      cases hp : p h with
      | true =>
        rw [hp, if_pos rfl] at ha
        rw [hp] at hc
        have HA := Aside0.mk ha
        clear ha
        go_wp2_with (go_at_call 34; refine (hc _ HB.out).mono ?_; rintro e w' ⟨rfl, hb⟩; have n1_ := Aside0.mk (below_step HB.out hb); clear HB; have HB := n1_; clear n1_ hb)
        go_roundw
        case rel => exact ⟨a, h, k, rfl, rfl, by omega, by omega, by omega, HA, HB⟩
        case measure => simp; omega
      | false =>
        rw [hp, if_neg (by decide)] at ha
        rw [hp] at hc
        have HA := Aside0.mk ha
        clear ha
        go_wp2_with (go_at_call 34; refine (hc _ HB.out).mono ?_; rintro e w' ⟨rfl, hb⟩; have n1_ := Aside0.mk (below_step HB.out hb); clear HB; have HB := n1_; clear n1_ hb)
        go_roundw
        case rel => exact ⟨h + 1, b, k, by first | rfl | (simp; done), rfl, by omega, by omega, by omega, HA, HB⟩
        case measure => simp; omega
    · have hab0 : decide ((a : Int) < (b : Int)) = false := decide_eq_false (by omega)
      have ha := HA.out
      clear HA
      have hra : a = r := by
        cases k with
        | zero => exact ha
        | succ k => rw [searchF, if_neg hab] at ha; exact ha
      subst hra
      go_wp2
      go_ret
      exact ⟨rfl, HB.out⟩
end Go.Proofs.Ytnjlggpidkbjcaa.GV
