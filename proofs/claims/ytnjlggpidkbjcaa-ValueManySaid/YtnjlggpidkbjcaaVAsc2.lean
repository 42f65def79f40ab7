import Derived.Test.YtnjlggpidkbjcaaProg
import Derived.Below
import Derived.Deep.Draws
import Derived.Deep.AppendLies
import Derived.Maps.AppendAt
import Derived.OwnWalk
import Derived.Laws.BytesArg
import Derived.Laws.MakeOwn
import Derived.Laws.OwnMore
import Derived.Deep.OwnRows
import Derived.Tactics
import Derived.Lib.ConvBytes
import Derived.Laws.Slices
import Derived.WalkKit
import Derived.KernelRfl
import Derived.RowKit3
import Derived.Deep.LoopGhost
import Derived.Deep.QuietTactic
import Derived.BigQuiet
import Derived.WideLaws
import Derived.Deep.DeepCutAuto
import Derived.Deep.CutBlock
import Derived.Deep.RegionHeld3
import Derived.Laws.Rows
import Derived.Lib.AppendStr
import Derived.ArgAppend
import Derived.Laws.IdiomCopy
import Derived.OrdersHeld
import Derived.Laws.BitsLemmas
import Derived.RowKit
import Derived.Test.YtnjlggpidkbjcaaHandV
import Derived.Test.YtnjlggpidkbjcaaWWords
import Derived.Test.YtnjlggpidkbjcaaWLast
import Derived.Test.YtnjlggpidkbjcaaWTab
import Derived.Test.YtnjlggpidkbjcaaWFour
import Derived.Test.YtnjlggpidkbjcaaWQPut
import Derived.Test.YtnjlggpidkbjcaaWApart
import Derived.Test.YtnjlggpidkbjcaaWArr
import Derived.Test.YtnjlggpidkbjcaaWZeros
import Derived.Test.YtnjlggpidkbjcaaGV0
import Derived.Test.YtnjlggpidkbjcaaVAsc
namespace Go.Proofs.Ytnjlggpidkbjcaa.GV
open Go.RowKit Go.Proofs.YtnjlggpidkbjcaaW.PrintWords Go.Proofs.YtnjlggpidkbjcaaW.PrintLast Go.Proofs.Ytnjlggpidkbjcaa.HandV Go.Proofs.YtnjlggpidkbjcaaW.PrintMore
attribute [local go_sem] max2_int min2_int max_two min_two max_three min_three max_four min_four   -- for this text's walks alone
theorem runes_asc_len (s : ByteArray) (hA : Asc s) : ∀ k p, p + k = s.size → (runesFrom s k p).length = k
  | 0, _, _ => rfl
  | k + 1, p, h => by
    have hp : p < s.size := by omega
    rw [runesFrom, if_pos hp, decode_ascii s p hp (hA p hp)]
    rw [List.length_cons, runes_asc_len s hA k (p + 1) (by omega)]
set_option maxRecDepth 100000 in
set_option maxHeartbeats 4000000 in
/-- value.long takes at most thirty ASCII signs. -/
theorem long_ascii (s : ByteArray) (hA : Asc s) (hs : s.size ≤ 30) (w : World) :
    Calls Try.prog 90 #[.string s] w fun e w' => e = .returned (.int .i64 0) ∧ Below w.heap.size w w' := by
  have h1 := text_check_ascii s hA (by omega)
  have h2 := fun W => text_Runes.calls s (runesFrom s s.size 0) W (by unfold text_Runes.f; rw [if_pos (by omega)])
  have hl : (runesFrom s s.size 0).length = s.size := runes_asc_len s hA s.size 0 (by omega)
  have hgt : decide (30 < (s.size : Int)) = false := decide_eq_false (by omega)
  go_enter Try.func90, Try.ntmps90
  go_wp2_with (first | (go_at_call 92; refine (h1 _).mono ?_; rintro e w1 ⟨rfl, hb⟩; have HB := Aside0.mk hb; clear hb) | (go_at_call 93; refine (h2 _).mono ?_; rintro e w' ⟨v, rfl, hR, hb⟩; obtain ⟨A, c, rfl⟩ := Kd.R_slice hR; rw [hl]; have HB2 : Aside0 (Below w.heap.size w w') := ⟨below_step HB.out hb⟩; clear hb hR))
  go_ret
  exact ⟨rfl, HB2.out⟩
set_option maxRecDepth 100000 in
set_option maxHeartbeats 4000000 in
theorem check_words (s : ByteArray) (hA : Asc s) (hs : s.size ≤ 30) (w : World) :
    Calls Try.prog 122 #[.string s] w fun e w' => e = .returned (.int .i64 0) ∧ Below w.heap.size w w' := by
  have h1 := long_ascii s hA hs
  go_enter Try.func122, Try.ntmps122
  go_wp2_with (go_at_call 90; refine (h1 _).mono ?_; rintro e w1 ⟨rfl, hb⟩; have HB := Aside0.mk hb; clear hb)
  go_ret
  exact ⟨rfl, HB.out⟩
set_option maxRecDepth 100000 in
set_option maxHeartbeats 4000000 in
theorem check3 (x : ByteArray) (hA : Asc x) (hs : x.size ≤ 30) (w : World) :
    Calls Try.prog 27 #[.agg #[.int .i64 3, .bool false, .int .i64 0, .string x, .string ⟨#[]⟩, .string ⟨#[]⟩, .slice none 0 0]] w fun e w' => e = .returned (.int .i64 0) ∧ Below w.heap.size w w' := by
  have HB := Aside0.mk (Below.refl w.heap.size w)
  have hc := check_words x hA hs
  have hE : ofRest false 0 [] (⟨#[]⟩ : ByteArray).toList (⟨#[]⟩ : ByteArray).toList 0 = 0 := by decide +kernel
  have hm : ∀ (v : Value) (w : World), Sem.run Try.prog (method 248 80 v "chancel/value.check") w = .ok (122, v) w := fun v w => by first | kernel_rfl | rfl
  go_enter Try.func27, Try.ntmps27
  go_wp2_with (first | (go_at_call 122; refine (hc _).mono ?_; rintro e w' ⟨rfl, hb⟩; have n1_ := Aside0.mk (below_step (by repeat (first | (with_reducible first | exact HB.out | apply below_alloc | apply pw_below_drewN | apply below_drew1) | exact HB.out)) hb); clear HB; have HB := n1_; clear n1_ hb) | (go_at_call 31; refine (value_of3 _ _ _ _ _ _ _ _ _).mono ?_; rw [hE]; rintro e w' ⟨rfl, hb⟩; have n1_ := Aside0.mk (below_step (by repeat (first | (with_reducible first | exact HB.out | apply below_alloc | apply pw_below_drewN | apply below_drew1) | exact HB.out)) hb); clear HB; have HB := n1_; clear n1_ hb))
  go_ret
  exact ⟨rfl, by repeat (first | (with_reducible first | exact HB.out | apply below_alloc | apply pw_below_drewN | apply below_drew1) | exact HB.out)⟩
set_option maxRecDepth 100000 in
set_option maxHeartbeats 4000000 in
theorem check1 (x : Bool) (w : World) :
    Calls Try.prog 27 #[.agg #[.int .i64 1, .bool x, .int .i64 0, .string ⟨#[]⟩, .string ⟨#[]⟩, .string ⟨#[]⟩, .slice none 0 0]] w fun e w' => e = .returned (.int .i64 0) ∧ Below w.heap.size w w' := by
  have HB := Aside0.mk (Below.refl w.heap.size w)
  have hE : ofRest false 0 (⟨#[]⟩ : ByteArray).toList (⟨#[]⟩ : ByteArray).toList (⟨#[]⟩ : ByteArray).toList 0 = 0 := by decide +kernel
  have hm : ∀ (v : Value) (w : World), Sem.run Try.prog (method 248 78 v "chancel/value.check") w = .ok (113, v) w := fun v w => by first | kernel_rfl | rfl
  go_enter Try.func27, Try.ntmps27
  go_wp2_with (first | (go_at_call 113; refine (check_truth _ _).mono ?_; rintro e w' ⟨rfl, ⟨nd, rfl⟩⟩) | (go_at_call 31; refine (value_of1 _ _ _ _ _ _ _ _ _).mono ?_; rw [hE]; rintro e w' ⟨rfl, hb⟩; have n1_ := Aside0.mk (below_step (by repeat (first | (with_reducible first | exact HB.out | apply below_alloc | apply pw_below_drewN | apply below_drew1) | exact HB.out)) hb); clear HB; have HB := n1_; clear n1_ hb))
  go_ret
  exact ⟨rfl, by repeat (first | (with_reducible first | exact HB.out | apply below_alloc | apply pw_below_drewN | apply below_drew1) | exact HB.out)⟩
/-- A plain value such as may be (words: of ASCII signs). -/
def PV.Fine : PV → Prop
  | .wo s => Asc s ∧ s.size ≤ 30
  | _ => True
theorem check_pv (x : PV) (h : x.Fine) (w : World) : Calls Try.prog 27 #[.agg x.arr] w fun e w' => e = .returned (.int .i64 0) ∧ Below w.heap.size w w' := by
  cases x
  · exact check1 _ w
  · exact check2 _ w
  · exact check3 _ h.1 h.2 w
end Go.Proofs.Ytnjlggpidkbjcaa.GV
