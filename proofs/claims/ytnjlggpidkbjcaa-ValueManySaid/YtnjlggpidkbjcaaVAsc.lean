import Derived.Test.YtnjlggpidkbjcaaProg
import Derived.Below
import Derived.Deep.Draws
import Derived.Deep.AppendLies
import Derived.Maps.AppendAt
import Derived.OwnWalk
import Derived.Laws.BytesArg
import Derived.Laws.MakeOwn
import Derived.Laws.OwnMore
import Derived.Deep.OwnRows
import Derived.Tactics
import Derived.Lib.ConvBytes
import Derived.Laws.Slices
import Derived.WalkKit
import Derived.KernelRfl
import Derived.RowKit3
import Derived.Deep.LoopGhost
import Derived.Deep.QuietTactic
import Derived.BigQuiet
import Derived.WideLaws
import Derived.Deep.DeepCutAuto
import Derived.Deep.CutBlock
import Derived.Deep.RegionHeld3
import Derived.Laws.Rows
import Derived.Lib.AppendStr
import Derived.ArgAppend
import Derived.Laws.IdiomCopy
import Derived.OrdersHeld
import Derived.Laws.BitsLemmas
import Derived.RowKit
import Derived.Test.YtnjlggpidkbjcaaHandV
import Derived.Test.YtnjlggpidkbjcaaWWords
import Derived.Test.YtnjlggpidkbjcaaWLast
import Derived.Test.YtnjlggpidkbjcaaWTab
import Derived.Test.YtnjlggpidkbjcaaWFour
import Derived.Test.YtnjlggpidkbjcaaWQPut
import Derived.Test.YtnjlggpidkbjcaaWApart
import Derived.Test.YtnjlggpidkbjcaaWArr
import Derived.Test.YtnjlggpidkbjcaaWZeros
import Derived.Test.YtnjlggpidkbjcaaGV0
import Derived.Test.YtnjlggpidkbjcaaVHold
import Derived.Lib.OthersKept
import Derived.Lib.Hide
namespace Go.Proofs.Ytnjlggpidkbjcaa.GV
open Go.RowKit Go.Proofs.YtnjlggpidkbjcaaW.PrintWords Go.Proofs.YtnjlggpidkbjcaaW.PrintLast Go.Proofs.Ytnjlggpidkbjcaa.HandV Go.Proofs.YtnjlggpidkbjcaaW.PrintMore
attribute [local go_sem] max2_int min2_int max_two min_two max_three min_three max_four min_four   -- for this text's walks alone
/-- All bytes of a text are ASCII signs. -/
def Asc (s : ByteArray) : Prop := ∀ i (h : i < s.size), (s[i]'h).toNat < 128
set_option maxRecDepth 100000 in
set_option maxHeartbeats 4000000 in
theorem dec_ascii (s : ByteArray) (h0 : 0 < s.size) (ha : (s[0]'h0).toNat < 128) (w : World) :
    Calls Try.prog 96 #[.string s] w fun e w' => e = .returned (.tuple #[.int .i32 ((s[0]'h0).toNat : Int), .int .i64 1]) ∧ Below w.heap.size w w' := by
  have hne : s.toList ≠ [] := by
    intro e
    rw [ByteArray.toList_eq] at e
    have e2 : s.size = 0 := by
      show s.data.size = 0
      rw [← Array.length_toList, e]
      rfl
    omega
  have hle : s.toList.isEmpty = false := by
    cases hx : s.toList with
    | nil => exact absurd hx hne
    | cons => rfl
  have hln : (s.toList = []) = False := eq_false hne
  have p1 : (0 < s.size) = True := eq_true h0
  have p3 : ((0 : Int) < (s.size : Int)) = True := eq_true (by omega)
  have hlt : decide (((s[0]'h0).toNat : Int) < 128) = true := decide_eq_true (by omega)
  go_enter Try.func96, Try.ntmps96
  go_wp2_with fail
  go_ret2
  exact ⟨rfl, Below.refl _ _⟩
theorem asc_extract {s : ByteArray} (_ : Asc s) (p : Nat) (hp : p < s.size) : 0 < (s.extract p s.size).size ∧ ∀ (h0 : 0 < (s.extract p s.size).size), ((s.extract p s.size)[0]'h0).toNat = (s[p]'hp).toNat := by
  refine ⟨by rw [ByteArray.size_extract]; omega, fun h0 => ?_⟩
  congr 1
  simp [ByteArray.getElem_extract]
set_option maxRecDepth 100000 in
set_option maxHeartbeats 4000000 in
/-- text.Check takes ASCII signs. -/
theorem text_check_ascii (a0 : ByteArray) (hA : Asc a0) (hs : a0.size < 1000000) (w : World) :
    Calls Try.prog 92 #[.string a0] w fun e w' => e = .returned (.int .i64 0) ∧ Below w.heap.size w w' := by
  go_enter Try.func92, Try.ntmps92
  go_wp2
  go_loopw [] (fun wr => ∃ (pos : Nat), Hid (wr.heap[w.heap.size]? = some (.stringIter a0 pos)) ∧ Hid (Below w.heap.size w wr) ∧ pos ≤ a0.size) (fun wr => a0.size - wr.iterPos w.heap.size)
  case atStart => exact ⟨0, Lib.hid (World.iter_heap _ _ _), Lib.hid ((Below.refl _ _).alloc (Nat.le_refl _) _), by omega⟩
  case round =>
    obtain ⟨pos, hit, HB, hfu⟩ := hrel
    have HM := Lib.hid (show wr.iterPos w.heap.size = pos by simp [World.iterPos, hit.out])
    by_cases hp : pos < a0.size
    · have hnx := fun ty => Lib.run_next_any_at (P := Try.prog) wr w.heap.size a0 pos ty hit.out hp
      have hple : pos ≤ a0.size := by omega
      have hdec := decode_ascii a0 pos hp (hA pos hp)
      have hit2 := Lib.hid (Lib.iterAt_heap wr w.heap.size a0 pos (pos + (Utf8.decode a0 pos).2) hit.out)
      have hb2 := Lib.hid (Lib.below_iterAt HB.out (k := w.heap.size) (Nat.le_refl _) a0 (pos + (Utf8.decode a0 pos).2))
      have hcall := fun W => dec_ascii (a0.extract pos a0.size) (asc_extract hA pos hp).1 (by rw [(asc_extract hA pos hp).2]; exact hA pos hp) W
      rw [(asc_extract hA pos hp).2] at hcall
      rw [hdec] at hnx hit2 hb2
      have hc128 := hA pos hp
      generalize (a0[pos]'hp).toNat = cn at hnx hcall hc128
      have b1 : ((cn : Int) == 65533) = false := by rw [beq_eq_false_iff_ne]; omega
      dsimp only at hnx hit2 hb2
      clear hdec HB hit
      generalize wr.iterAt w.heap.size a0 (pos + 1) = wn at hnx hit2 hb2
      have fin : ∀ W2 : World, Below wn.heap.size wn W2 → Hid (W2.heap[w.heap.size]? = some (.stringIter a0 (pos + 1)) ∧ Below w.heap.size w W2) := fun W2 b3 =>
          Lib.hid ⟨(b3.block _ (Array.getElem?_eq_some_iff.1 hit2.out).1).trans hit2.out, hb2.out.trans (b3.mono hb2.out.size)⟩
      go_wp2_with (go_at_call 96; refine (hcall _).mono ?_; rintro e W2 ⟨rfl, b3⟩; have hf := fin W2 b3; clear b3 fin)
      go_roundw
      case rel => exact ⟨pos + 1, Lib.hid hf.out.1, Lib.hid hf.out.2, by omega⟩
      case measure =>
        have h1 := HM.out
        have h2 := hf.out.1
        simp only [World.iterPos] at *
        simp [h1, h2]
        omega
    · have hnx := fun ty => Lib.run_next_end_at (P := Try.prog) wr w.heap.size a0 pos ty hit.out hp
      go_wp2
      go_ret
      exact ⟨rfl, HB.out⟩
/-- The runes from a place on. -/
def runesFrom (s : ByteArray) : Nat → Nat → List Int
  | 0, _ => []
  | fuel + 1, pos => if pos < s.size then ((Utf8.decode s pos).1 : Int) :: runesFrom s fuel (pos + (Utf8.decode s pos).2) else []
theorem runesFrom_end (s : ByteArray) (fuel pos : Nat) (h : ¬ pos < s.size) : runesFrom s fuel pos = [] := by
  cases fuel with
  | zero => rfl
  | succ f => simp only [runesFrom]; rw [if_neg h]
theorem width_pos (s : ByteArray) (pos : Nat) (h : pos < s.size) : 1 ≤ (Utf8.decode s pos).2 := by
  by_cases ha : (s[pos]'h).toNat < 128
  · rw [decode_ascii s pos h ha]
    exact Nat.le_refl _
  · exact (decode_high s pos h (by omega)).2
def text_Runes.f (a0 : ByteArray) : Option (List Int) := if a0.size < 35184372088832 then some (runesFrom a0 a0.size 0) else none
theorem text_Runes.info : (Try.prog.info? 21).map (fun i => (i.zero, i.size, i.bytes)) = some (some (.int .i32 0), 1, 4) := by kernel_rfl
set_option maxHeartbeats 2000000 in
theorem text_Runes.calls (a0 : ByteArray) (r : List Int) (w : World) (h : text_Runes.f a0 = some r) :
    Calls Try.prog 93 #[.string a0] w fun e w' => ∃ v0_ : Value, e = .returned (v0_) ∧ Kd.R (Kd.int .i32) 21 w' w.heap.size (fun _ => True) v0_ r ∧ Below w.heap.size w w' := by
  unfold text_Runes.f at h
  by_cases hs : a0.size < 35184372088832
  case neg => rw [if_neg hs] at h; cases h
  rw [if_pos hs] at h
  have HR := Lib.hid (Option.some.inj h)
  clear h
  go_enter Try.func93, Try.ntmps93
  go_wp2
  go_loopw [3] (fun v wr => ∃ (pos fuel : Nat) (acc : List Int), Hid (wr.heap[w.heap.size]? = some (.stringIter a0 pos)) ∧ Aside0 (Kd.R (Kd.int .i32) 21 wr w.heap.size (fun k => k ≠ w.heap.size) v acc) ∧ Aside0 (Below w.heap.size w wr) ∧ Hid (acc ++ runesFrom a0 fuel pos = r) ∧ a0.size ≤ pos + fuel ∧ acc.length ≤ pos ∧ w.heap.size < wr.heap.size) (fun _ wr => a0.size - wr.iterPos w.heap.size)
  case atStart => exact ⟨0, a0.size, [], Lib.hid (World.iter_heap _ _ _), ⟨Kd.R_nil _ _ _ _ _⟩, ⟨(Below.refl _ _).alloc (Nat.le_refl _) _⟩, HR, by omega, Nat.le_refl _, by simp [World.iter]⟩
  case round =>
    obtain ⟨pos, fuel, acc, hit, HO, HB, HA, hfu, hal, hsz⟩ := hrel
    clear HR
    have HM := Lib.hid (show wr.iterPos w.heap.size = pos by simp [World.iterPos, hit.out])
    by_cases hp : pos < a0.size
    · have hnx := fun ty => Lib.run_next_any_at (P := Try.prog) wr w.heap.size a0 pos ty hit.out hp
      have hwd := width_pos a0 pos hp
      obtain ⟨f, rfl⟩ : ∃ f, fuel = f + 1 := ⟨fuel - 1, by omega⟩
      have ha := HA.out
      simp only [runesFrom] at ha
      rw [if_pos hp] at ha
      have hit2 := Lib.hid (Lib.iterAt_heap wr w.heap.size a0 pos (pos + (Utf8.decode a0 pos).2) hit.out)
      have HB2 := Aside0.mk (Lib.below_iterAt HB.out (k := w.heap.size) (Nat.le_refl _) a0 (pos + (Utf8.decode a0 pos).2))
      have HO2 := Aside0.mk (Kd.R_step (w1 := wr.iterAt w.heap.size a0 (pos + (Utf8.decode a0 pos).2)) HO.out (fun k hk _ => Lib.iterAt_other wr w.heap.size k a0 _ hk))
      have hsz2 : w.heap.size < (wr.iterAt w.heap.size a0 (pos + (Utf8.decode a0 pos).2)).heap.size := by rw [Lib.iterAt_size]; exact hsz
      clear HA HO HB hit hsz
      obtain ⟨c, hc⟩ : ∃ c : Int, ((Utf8.decode a0 pos).1 : Int) = c := ⟨_, rfl⟩
      obtain ⟨q, hq⟩ : ∃ q : Nat, (Utf8.decode a0 pos).2 = q := ⟨_, rfl⟩
      rw [hc, hq] at hnx ha
      rw [hq] at hit2 HB2 HO2 hsz2 hwd
      clear hc hq
      have HA2 := Lib.hid ha
      clear ha
      generalize wr.iterAt w.heap.size a0 (pos + q) = wn at hnx hit2 HB2 HO2 hsz2
      go_wp2_with ((with_reducible refine gate_builtin (b := .append) (xs := #[.tmp 11, .tmp 13]) rfl ?_); at_builtin; refine Kd.R_append (Kd.int .i32) (w0 := w) w.heap.size rfl (.tmp 11) (.tmp 13) 50 21 (.int .i32 0) 4 rfl Try.underlying50 text_Runes.info rfl (by decide) (by omega) u3 acc c [.int .i32 c] (fun k => k ≠ w.heap.size) (fun _ => False) rfl rfl ?aP (fun _ hk => hk.elim) ?aF ?aO ?aB ?aS ?aL ?_; (case aP => exact rfl); (case aF => exact (fun k hk => by omega)); (case aO => exact HO2.out); (case aB => exact HB2.out); (case aS => exact Nat.le_of_lt hsz2); (case aL => omega); intro v1 w1 ho hb hg hat; have hit3 := Lib.hid ((hg.block w.heap.size hsz2 (fun e => HO2.out.1 w.heap.size e.symm rfl)).trans hit2.out); have HO3 := Aside0.mk ho; have HB3 := Aside0.mk hb; have hsz3 := Nat.lt_of_lt_of_le hsz2 hg.size; clear HO2 HB2 ho hb hg hat hit2 hsz2)
      go_roundw
      case rel => exact ⟨pos + q, f, acc ++ [c], hit3, HO3, HB3, Lib.hid (by rw [List.append_assoc]; exact HA2.out), by omega, by simp; omega, hsz3⟩
      case measure =>
        have h1 := HM.out
        have h2 := hit3.out
        simp only [World.iterPos] at *
        simp [h1, h2]
        omega
    · have hnx := fun ty => Lib.run_next_end_at (P := Try.prog) wr w.heap.size a0 pos ty hit.out hp
      have ha := HA.out
      rw [runesFrom_end a0 fuel pos hp, List.append_nil] at ha
      subst ha
      clear HA
      go_wp2
      go_ret
      exact ⟨_, rfl, Kd.R_mono HO.out (fun _ _ => trivial), HB.out⟩
end Go.Proofs.Ytnjlggpidkbjcaa.GV
