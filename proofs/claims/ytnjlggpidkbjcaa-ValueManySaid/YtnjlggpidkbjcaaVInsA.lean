import Derived.Test.YtnjlggpidkbjcaaProg
import Derived.Below
import Derived.Deep.Draws
import Derived.Deep.AppendLies
import Derived.Maps.AppendAt
import Derived.OwnWalk
import Derived.Laws.BytesArg
import Derived.Laws.MakeOwn
import Derived.Laws.OwnMore
import Derived.Deep.OwnRows
import Derived.Tactics
import Derived.Lib.ConvBytes
import Derived.Laws.Slices
import Derived.WalkKit
import Derived.KernelRfl
import Derived.RowKit3
import Derived.Deep.LoopGhost
import Derived.Deep.QuietTactic
import Derived.BigQuiet
import Derived.WideLaws
import Derived.Deep.DeepCutAuto
import Derived.Deep.CutBlock
import Derived.Deep.RegionHeld3
import Derived.Laws.Rows
import Derived.Lib.AppendStr
import Derived.ArgAppend
import Derived.Laws.IdiomCopy
import Derived.OrdersHeld
import Derived.Laws.BitsLemmas
import Derived.RowKit
import Derived.Test.YtnjlggpidkbjcaaHandV
import Derived.Test.YtnjlggpidkbjcaaWWords
import Derived.Test.YtnjlggpidkbjcaaWLast
import Derived.Test.YtnjlggpidkbjcaaWTab
import Derived.Test.YtnjlggpidkbjcaaWFour
import Derived.Test.YtnjlggpidkbjcaaWQPut
import Derived.Test.YtnjlggpidkbjcaaWApart
import Derived.Test.YtnjlggpidkbjcaaWArr
import Derived.Test.YtnjlggpidkbjcaaWZeros
import Derived.Test.YtnjlggpidkbjcaaGV0
import Derived.Test.YtnjlggpidkbjcaaVInsM
namespace Go.Proofs.Ytnjlggpidkbjcaa.GV
open Go.RowKit Go.Proofs.YtnjlggpidkbjcaaW.PrintWords Go.Proofs.YtnjlggpidkbjcaaW.PrintLast Go.Proofs.Ytnjlggpidkbjcaa.HandV Go.Proofs.YtnjlggpidkbjcaaW.PrintMore
attribute [local go_sem] max2_int min2_int max_two min_two max_three min_three max_four min_four   -- for this text's walks alone
/-- slices.Insert of one value, anywhere: the row grows by it, with room or without. -/
theorem insert_any (v : Value) (n i : Nat) (xs news : List Value) (base : Nat) (vb vc : Nat) (vcur : Array Value) (w : World) (hn : n ≤ 1000) (hi : i ≤ n) (hown : w.ownsRow base 31 7 v n xs) (hbase : base ≤ w.heap.size) (hne : v.ownBlock ≠ some vb)
    (hvc : w.heap[vb]? = some (.cells vcur 31 (0, 0)))
    (hl : news.length = 7) (hnews : ∀ j u, news[j]? = some u → w.cell? (Addr.add ⟨vb, 0, none⟩ j) = some u) (h1 : ∀ u ∈ news, u.oneCell' = true) (h1x : ∀ u ∈ xs, u.oneCell' = true) :
    Calls Try.prog 35 #[v, .int .i64 (i : Int), .slice (some ⟨vb, 0, none⟩) 1 vc] w fun e w' => ∃ v', e = .returned v' ∧ w'.ownsRow base 31 7 v' (n + 1) (xs.take (i * 7) ++ news ++ xs.drop (i * 7)) ∧ w.grownBy w' v.ownBlock := by
  by_cases h : i = n
  · subst h
    have hx : xs.take (i * 7) ++ news ++ xs.drop (i * 7) = xs ++ news := by
      rw [List.take_of_length_le (by rw [hown.1]; exact Nat.le_refl _), List.drop_eq_nil_of_le (by rw [hown.1]; exact Nat.le_refl _), List.append_nil]
    rw [hx]
    exact insert_end v i xs news base vb vc w hn hown hbase hl hnews h1
  · have hown2 := hown.2
    rcases hown2 with ⟨rfl, rfl⟩ | ⟨g, cap, cur, rfl, hbg, hh, hnc, hcm, hcs, htk⟩
    · omega
    · have hne2 : vb ≠ g := fun e => hne (by rw [e]; rfl)
      by_cases hroom : n + 1 ≤ cap
      · exact insert_mid_room g n cap i xs news base vb vc vcur w hn (by omega) hroom hown hne2 hvc hl hnews h1 h1x
      · exact insert_mid_full g n cap i xs news base vb vc w hn (by omega) (by omega) hown hbase hl hnews h1 h1x
end Go.Proofs.Ytnjlggpidkbjcaa.GV
