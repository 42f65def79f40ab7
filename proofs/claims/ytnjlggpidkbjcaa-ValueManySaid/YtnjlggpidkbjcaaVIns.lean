import Derived.Test.YtnjlggpidkbjcaaProg
import Derived.Below
import Derived.Deep.Draws
import Derived.Deep.AppendLies
import Derived.Maps.AppendAt
import Derived.OwnWalk
import Derived.Laws.BytesArg
import Derived.Laws.MakeOwn
import Derived.Laws.OwnMore
import Derived.Deep.OwnRows
import Derived.Tactics
import Derived.Lib.ConvBytes
import Derived.Laws.Slices
import Derived.WalkKit
import Derived.KernelRfl
import Derived.RowKit3
import Derived.Deep.LoopGhost
import Derived.Deep.QuietTactic
import Derived.BigQuiet
import Derived.WideLaws
import Derived.Deep.DeepCutAuto
import Derived.Deep.CutBlock
import Derived.Deep.RegionHeld3
import Derived.Laws.Rows
import Derived.Lib.AppendStr
import Derived.ArgAppend
import Derived.Laws.IdiomCopy
import Derived.OrdersHeld
import Derived.Laws.BitsLemmas
import Derived.RowKit
import Derived.Test.YtnjlggpidkbjcaaHandV
import Derived.Test.YtnjlggpidkbjcaaWWords
import Derived.Test.YtnjlggpidkbjcaaWLast
import Derived.Test.YtnjlggpidkbjcaaWTab
import Derived.Test.YtnjlggpidkbjcaaWFour
import Derived.Test.YtnjlggpidkbjcaaWQPut
import Derived.Test.YtnjlggpidkbjcaaWApart
import Derived.Test.YtnjlggpidkbjcaaWArr
import Derived.Test.YtnjlggpidkbjcaaWZeros
import Derived.Test.YtnjlggpidkbjcaaGV0
import Derived.Test.YtnjlggpidkbjcaaVC5
import Derived.Deep.DeepAppendWide
namespace Go.Proofs.Ytnjlggpidkbjcaa.GV
open Go.RowKit Go.Proofs.YtnjlggpidkbjcaaW.PrintWords Go.Proofs.YtnjlggpidkbjcaaW.PrintLast Go.Proofs.Ytnjlggpidkbjcaa.HandV Go.Proofs.YtnjlggpidkbjcaaW.PrintMore
attribute [local go_sem] max2_int min2_int max_two min_two max_three min_three max_four min_four   -- for this text's walks alone
set_option maxRecDepth 100000 in
set_option maxHeartbeats 8000000 in
/-- slices.Insert of one value at the end: the row grows by it, with room or without. -/
theorem insert_end (v : Value) (n : Nat) (xs news : List Value) (base : Nat) (vb vc : Nat) (w : World) (hn : n ≤ 1000) (hown : w.ownsRow base 31 7 v n xs) (hbase : base ≤ w.heap.size)
    (hl : news.length = 7) (hnews : ∀ j u, news[j]? = some u → w.cell? (Addr.add ⟨vb, 0, none⟩ j) = some u) (h1 : ∀ u ∈ news, u.oneCell' = true) :
    Calls Try.prog 35 #[v, .int .i64 (n : Int), .slice (some ⟨vb, 0, none⟩) 1 vc] w fun e w' => ∃ v', e = .returned v' ∧ w'.ownsRow base 31 7 v' (n + 1) (xs ++ news) ∧ w.grownBy w' v.ownBlock := by
  obtain ⟨i0, hi0, hz0, hzs, hzb⟩ := info_parts info31
  have hz1 : ¬ ((1 : Int) = 0) := by omega
  have he : ((n : Int) == (n : Int)) = true := beq_self_eq_true _
  have hb : ((n + 1) + (n + 1) / 4 + 192) * 96 ≤ 281474976710656 := by omega
  have hm : n + 1 ≤ maxLen := by unfold maxLen; omega
  have hown2 := hown.2
  rcases hown2 with ⟨rfl, rfl⟩ | ⟨g, cap, cur, rfl, hbg, hh, hnc, hcm, hcs, htk⟩
  · go_enter Try.func35, Try.ntmps35
    go_wp2_with (at_builtin; (first | (refine wpList_append_own_wide w rfl (.tmp 23) (.tmp 24) 29 rfl base 31 i0 _ 7 96 Try.underlying29 hi0 hz0 hzs hzb rfl (by decide) (.slice none 0 0) 0 xs rfl hown ⟨vb, 0, none⟩ 1 vc news rfl hl hnews h1 hm hb hbase ?_) | (refine wp_append_own_wide w (.tmp 23) (.tmp 24) 29 rfl base 31 i0 _ 7 96 Try.underlying29 hi0 hz0 hzs hzb rfl (by decide) (.slice none 0 0) 0 xs rfl hown ⟨vb, 0, none⟩ 1 vc news rfl hl hnews h1 hm hb hbase ?_)); intro v' w' h2 h3 _)
    go_ret
    exact ⟨_, rfl, h2, h3⟩
  · have hnn : (0 ≤ (n : Int)) = True := eq_true (by omega)
    clear hh hcs htk
    go_enter Try.func35, Try.ntmps35
    go_wp2_with (at_builtin; (first | (refine wpList_append_own_wide w rfl (.tmp 23) (.tmp 24) 29 rfl base 31 i0 _ 7 96 Try.underlying29 hi0 hz0 hzs hzb rfl (by decide) (.slice (some ⟨g, 0, none⟩) n cap) n xs rfl hown ⟨vb, 0, none⟩ 1 vc news rfl hl hnews h1 hm hb hbase ?_) | (refine wp_append_own_wide w (.tmp 23) (.tmp 24) 29 rfl base 31 i0 _ 7 96 Try.underlying29 hi0 hz0 hzs hzb rfl (by decide) (.slice (some ⟨g, 0, none⟩) n cap) n xs rfl hown ⟨vb, 0, none⟩ 1 vc news rfl hl hnews h1 hm hb hbase ?_)); intro v' w' h2 h3 _)
    all_goals (go_ret; exact ⟨_, rfl, by assumption, by assumption⟩)
end Go.Proofs.Ytnjlggpidkbjcaa.GV
