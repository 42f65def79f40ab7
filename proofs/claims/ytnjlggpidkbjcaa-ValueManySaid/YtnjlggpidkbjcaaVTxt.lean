import Derived.Test.YtnjlggpidkbjcaaProg
import Derived.Below
import Derived.Deep.Draws
import Derived.Deep.AppendLies
import Derived.Maps.AppendAt
import Derived.OwnWalk
import Derived.Laws.BytesArg
import Derived.Laws.MakeOwn
import Derived.Laws.OwnMore
import Derived.Deep.OwnRows
import Derived.Tactics
import Derived.Lib.ConvBytes
import Derived.Laws.Slices
import Derived.WalkKit
import Derived.KernelRfl
import Derived.RowKit3
import Derived.Deep.LoopGhost
import Derived.Deep.QuietTactic
import Derived.BigQuiet
import Derived.WideLaws
import Derived.Deep.DeepCutAuto
import Derived.Deep.CutBlock
import Derived.Deep.RegionHeld3
import Derived.Laws.Rows
import Derived.Lib.AppendStr
import Derived.ArgAppend
import Derived.Laws.IdiomCopy
import Derived.OrdersHeld
import Derived.Laws.BitsLemmas
import Derived.RowKit
import Derived.Test.YtnjlggpidkbjcaaHandV
import Derived.Test.YtnjlggpidkbjcaaWWords
import Derived.Test.YtnjlggpidkbjcaaWLast
import Derived.Test.YtnjlggpidkbjcaaWTab
import Derived.Test.YtnjlggpidkbjcaaWFour
import Derived.Test.YtnjlggpidkbjcaaWQPut
import Derived.Test.YtnjlggpidkbjcaaWApart
import Derived.Test.YtnjlggpidkbjcaaWArr
import Derived.Test.YtnjlggpidkbjcaaWZeros
import Derived.Test.YtnjlggpidkbjcaaGV0
import Derived.Test.YtnjlggpidkbjcaaVCk5
import Derived.Test.YtnjlggpidkbjcaaShelf
namespace Go.Proofs.Ytnjlggpidkbjcaa.GV
open Go.RowKit Go.Proofs.YtnjlggpidkbjcaaW.PrintWords Go.Proofs.YtnjlggpidkbjcaaW.PrintLast Go.Proofs.Ytnjlggpidkbjcaa.HandV Go.Proofs.YtnjlggpidkbjcaaW.PrintMore
attribute [local go_sem] max2_int min2_int max_two min_two max_three min_three max_four min_four   -- for this text's walks alone
/-- A small number's digits. -/
def dec (n : Nat) : ByteArray := ⟨(Lib.decDigits n).toArray⟩
set_option maxRecDepth 100000 in
set_option maxHeartbeats 4000000 in
theorem num_text_small (n : Nat) (hn : n < 100) (w : World) : Calls Try.prog 120 #[.int .i64 (n : Int)] w fun e w' => e = .returned (.string (dec n)) ∧ w' = w := by
  have h1 := fun W => Try.strconv_FormatInt_10_small n hn W
  go_enter Try.func120, Try.ntmps120
  go_wp2_with (go_at_call 98; refine (h1 _).mono ?_; rintro e w1 ⟨rfl, rfl⟩)
  go_ret
  exact ⟨rfl, rfl⟩
set_option maxRecDepth 100000 in
set_option maxHeartbeats 4000000 in
theorem number_text (n : Nat) (hn : n < 100) (w : World) : Calls Try.prog 118 #[.int .i64 (n : Int)] w fun e w' => e = .returned (.string (dec n)) ∧ w' = w := by
  have h1 := num_text_small n hn
  go_enter Try.func118, Try.ntmps118
  go_wp2_with (go_at_call 120; refine (h1 _).mono ?_; rintro e w1 ⟨rfl, rfl⟩)
  go_ret
  exact ⟨rfl, rfl⟩
set_option maxRecDepth 100000 in
set_option maxHeartbeats 4000000 in
/-- value.Text of a small number. -/
theorem text_nu (n : Nat) (hn : n < 100) (w : World) :
    Calls Try.prog 14 #[.agg #[.int .i64 2, .bool false, .int .i64 (n : Int), .string ⟨#[]⟩, .string ⟨#[]⟩, .string ⟨#[]⟩, .slice none 0 0]] w fun e w' => e = .returned (.string (dec n)) ∧ Below w.heap.size w w' := by
  have HB := Aside0.mk (Below.refl w.heap.size w)
  have hc := number_text n hn
  have hE : ofRest false 0 (⟨#[]⟩ : ByteArray).toList (⟨#[]⟩ : ByteArray).toList (⟨#[]⟩ : ByteArray).toList 0 = 0 := by decide +kernel
  have hm : ∀ (v : Value) (w : World), Sem.run Try.prog (method 248 79 v "chancel/value.text") w = .ok (118, v) w := fun v w => by first | kernel_rfl | rfl
  go_enter Try.func14, Try.ntmps14
  go_wp2_with (first | (go_at_call 118; refine (hc _).mono ?_; rintro e w' ⟨rfl, rfl⟩) | (go_at_call 31; refine (value_of2 _ _ _ _ _ _ _ _ _).mono ?_; rw [hE]; rintro e w' ⟨rfl, hb⟩; have n1_ := Aside0.mk (below_step (by repeat (first | (with_reducible first | exact HB.out | apply below_alloc | apply pw_below_drewN | apply below_drew1) | exact HB.out)) hb); clear HB; have HB := n1_; clear n1_ hb))
  go_ret
  exact ⟨rfl, by repeat (first | (with_reducible first | exact HB.out | apply below_alloc | apply pw_below_drewN | apply below_drew1) | exact HB.out)⟩
theorem str_info : (Try.prog.info? 9).map (fun i => (i.zero, i.size, i.bytes)) = some (some (.string ⟨#[]⟩), 1, 16) := by kernel_rfl
/-- A set of small numbers, written. -/
def setText (ns : List Nat) : ByteArray := (⟨#[91]⟩ : ByteArray) ++ ⟨(Lib.join (ns.map fun n => (dec n).data.toList) [44, 32]).toArray⟩ ++ ⟨#[93]⟩
set_option maxRecDepth 100000 in
set_option maxHeartbeats 4000000 in
theorem set_text (ns : List Nat) (h0 : 0 < ns.length) (hn : ns.length ≤ 8) (hs : ∀ n ∈ ns, n < 100) (hjl : (Lib.join (ns.map fun n => (dec n).data.toList) [44, 32]).length ≤ 1000) (g c : Nat) (w : World) (hx : ∀ (i n : Nat), ns[i]? = some n → PV.Lies w ⟨g, i * 7, none⟩ (.nu (n : Int))) :
    Calls Try.prog 77 #[.slice (some ⟨g, 0, none⟩) ns.length c] w fun e w' => e = .returned (.string (setText ns)) ∧ Below w.heap.size w w' := by
  have HX := Aside0.mk hx
  have HS := Aside0.mk hs
  clear hx hs
  go_enter Try.func77, Try.ntmps77
  go_wp2
  go_loopw [3, 8] (fun v u wr => ∃ k : Nat, u = .int .i64 (k : Int) ∧ k ≤ ns.length ∧ Aside0 (Below w.heap.size w wr) ∧ Aside0 (Kd.R Kd.string 9 wr w.heap.size (fun _ => True) v ((ns.take k).map dec))) (fun v u _ => match u with | .int _ x => ns.length - x.toNat | _ => 0)
  case atStart => exact ⟨0, rfl, Nat.zero_le _, ⟨Below.refl _ _⟩, ⟨Kd.R_nil _ _ _ _ _⟩⟩
  case round =>
    obtain ⟨k, rfl, hk, HB, HO⟩ := hrel
    by_cases hlt : k < ns.length
    · have hlt0 : decide ((k : Int) < (ns.length : Int)) = true := decide_eq_true (by omega)
      have p0 : (0 ≤ (k : Int)) = True := eq_true (by omega)
      have p1 : ((k : Int) < (ns.length : Int)) = True := eq_true (by omega)
      have HLx := Aside0.mk ((HX.out k _ (List.getElem?_eq_getElem hlt)).below HB.out)
      have htx := text_nu (ns[k]'hlt) (HS.out _ (List.getElem_mem hlt))
      have HST : Aside0 ((ns.take (k + 1)).map dec = (ns.take k).map dec ++ [dec (ns[k]'hlt)]) := ⟨by
        rw [List.take_add_one, List.getElem?_eq_getElem hlt, List.map_append]
        rfl⟩
      have hacl : ((ns.take k).map dec).length ≤ 8 := by simp; omega
      generalize ns[k]'hlt = n at HLx htx HST
      generalize (ns.take k).map dec = acc at HO HST hacl
      generalize hd : dec n = dn at htx HST
      have x0 : wr.cell? ⟨g, k * 7, none⟩ = some (.int .i64 2) := HLx.out.at 0 (by decide)
      have x1 : wr.cell? ⟨g, k * 7 + 1, none⟩ = some (.bool false) := HLx.out.at 1 (by decide)
      have x2 : wr.cell? ⟨g, k * 7 + 2, none⟩ = some (.int .i64 (n : Int)) := HLx.out.at 2 (by decide)
      have x3 : wr.cell? ⟨g, k * 7 + 3, none⟩ = some (.string ⟨#[]⟩) := HLx.out.at 3 (by decide)
      have x4 : wr.cell? ⟨g, k * 7 + 4, none⟩ = some (.string ⟨#[]⟩) := HLx.out.at 4 (by decide)
      have x5 : wr.cell? ⟨g, k * 7 + 5, none⟩ = some (.string ⟨#[]⟩) := HLx.out.at 5 (by decide)
      have x6 : wr.cell? ⟨g, k * 7 + 6, none⟩ = some (.slice none 0 0) := HLx.out.at 6 (by decide)
      go_wp2_with (first | (go_at_call 14; refine (htx _).mono ?_; rintro e w1 ⟨rfl, hb⟩; have HB1 : Aside0 (Below w.heap.size w w1) := ⟨below_step (by repeat (first | exact HB.out | apply below_alloc | apply pw_below_drewN | apply below_drew1)) hb⟩; have HO1 : Aside0 (Kd.R Kd.string 9 w1 w.heap.size (fun _ => True) u3 acc) := ⟨Kd.R_below HO.out ((below_alloc (Below.refl _ _) _).trans (hb.mono (by simp)))⟩; have HS1 : w.heap.size ≤ w1.heap.size := HB1.out.size; clear hb) | ((with_reducible refine gate_builtin (b := .append) (xs := #[.tmp 12, .tmp 15]) rfl ?_); at_builtin; refine Kd.R_append Kd.string (w0 := w) w.heap.size rfl (.tmp 12) (.tmp 15) 72 9 (.string ⟨#[]⟩) 16 rfl Try.underlying72 str_info rfl (by decide) (by omega) u3 acc dn [.string dn] (fun _ => True) (fun _ => False) rfl rfl ?aP (fun _ hk => hk.elim) ?aF ?aO ?aB ?aS ?aL ?_; (case aP => exact rfl); (case aF => exact (fun _ _ => trivial)); (case aO => exact HO1.out); (case aB => exact HB1.out); (case aS => exact HS1); (case aL => omega); intro v1 w2 ho hb hg hat; have HO2 := Aside0.mk ho; have HB2 := Aside0.mk hb; clear ho hb hg hat))
      go_roundw
      case rel => exact ⟨k + 1, by first | rfl | (simp; done) | (simp; omega), by omega, HB2, ⟨by rw [HST.out]; exact HO2.out⟩⟩
      case measure => simp; omega
    · have hlt0 : decide ((k : Int) < (ns.length : Int)) = false := decide_eq_false (by omega)
      have hke : k = ns.length := by omega
      subst hke
      have ho := HO.out
      rw [List.take_length] at ho
      have hml : (ns.map dec).length = ns.length := List.length_map ..
      obtain ⟨g2, c2, hu, hb2, hlt2, _⟩ := Kd.R_form ho (by omega)
      have ho2 := ho
      rw [hu] at ho2
      obtain ⟨_, hc2, _⟩ := Kd.R_reads' ho2
      have hcell := fun j h0 h1 => Kd.R_cell (⟨#[]⟩ : ByteArray) ho2 j h0 h1
      rw [hml] at hu
      subst hu
      clear ho ho2 HO
      have hcells : ∀ (j : Nat) x, (ns.map dec)[j]? = some x → wr.cell? ⟨g2, 0 + j, none⟩ = some (.string x) := by
        intro j x hj
        have hjl := (List.getElem?_eq_some_iff.1 hj).1
        have h1 := (hcell (j : Int) (by omega) (by omega)).1
        rw [show rdOf (⟨#[]⟩ : ByteArray) (ns.map dec) (j : Int) = x by show (ns.map dec).getD (j : Int).toNat _ = x; rw [Int.toNat_natCast, List.getD_eq_getElem?_getD, hj]; rfl] at h1
        rw [Nat.zero_add]
        exact h1
      have hj := Try.strings_Join g2 0 c2 (ns.map dec) ⟨#[44, 32]⟩ wr hcells hlt2 (by omega) hc2 (by rw [List.map_map]; exact Nat.le_trans hjl (by decide))
      rw [hml] at hj
      have hjb : ((⟨(Lib.join (List.map (fun x => x.data.toList) (ns.map dec)) (⟨#[44, 32]⟩ : ByteArray).data.toList).toArray⟩ : ByteArray)) = ⟨(Lib.join (ns.map fun n => (dec n).data.toList) [44, 32]).toArray⟩ := by rw [List.map_map]; rfl
      rw [hjb] at hj
      have hss : setText ns = (⟨#[91]⟩ : ByteArray) ++ ⟨(Lib.join (ns.map fun n => (dec n).data.toList) [44, 32]).toArray⟩ ++ ⟨#[93]⟩ := rfl
      have hjs : (⟨(Lib.join (ns.map fun n => (dec n).data.toList) [44, 32]).toArray⟩ : ByteArray).size ≤ 1000 := by
        show (Lib.join (ns.map fun n => (dec n).data.toList) [44, 32]).toArray.size ≤ 1000
        simpa using hjl
      clear hcells hjl hjb hcell
      generalize (⟨(Lib.join (ns.map fun n => (dec n).data.toList) [44, 32]).toArray⟩ : ByteArray) = js at hj hss hjs
      have hz1 : ((⟨#[91]⟩ : ByteArray) ++ js).size ≤ 2000 := by rw [ByteArray.size_append]; show 1 + js.size ≤ 2000; omega
      have hz2 : ((⟨#[91]⟩ : ByteArray) ++ js ++ ⟨#[93]⟩).size ≤ 3000 := by rw [ByteArray.size_append]; show ((⟨#[91]⟩ : ByteArray) ++ js).size + 1 ≤ 3000; omega
      go_wp2_with (go_at_call 79; refine hj.mono ?_; rintro e w1 ⟨rfl, hb⟩; have HB1 : Aside0 (Below w.heap.size w w1) := ⟨below_step HB.out hb⟩; clear hb)
      go_ret
      exact ⟨by rw [hss]; rfl, HB1.out⟩
set_option maxRecDepth 100000 in
set_option maxHeartbeats 4000000 in
/-- value.Text of a set of small numbers. -/
theorem text5_nu (ns : List Nat) (h0 : 0 < ns.length) (hn : ns.length ≤ 8) (hs : ∀ n ∈ ns, n < 100) (hjl : (Lib.join (ns.map fun n => (dec n).data.toList) [44, 32]).length ≤ 1000) (g c : Nat) (w : World) (hx : ∀ (i n : Nat), ns[i]? = some n → PV.Lies w ⟨g, i * 7, none⟩ (.nu (n : Int))) :
    Calls Try.prog 14 #[.agg #[.int .i64 5, .bool false, .int .i64 0, .string ⟨#[]⟩, .string ⟨#[]⟩, .string ⟨#[]⟩, .slice (some ⟨g, 0, none⟩) ns.length c]] w fun e w' => e = .returned (.string (setText ns)) ∧ Below w.heap.size w w' := by
  have HB := Aside0.mk (Below.refl w.heap.size w)
  have hE : ofRest false 0 (⟨#[]⟩ : ByteArray).toList (⟨#[]⟩ : ByteArray).toList (⟨#[]⟩ : ByteArray).toList 0 = 0 := by decide +kernel
  have hm : ∀ (v : Value) (w : World), Sem.run Try.prog (method 248 64 v "chancel/value.text") w = .ok (77, v) w := fun v w => by first | kernel_rfl | rfl
  have hsc := fun W hW => set_text ns h0 hn hs hjl g c W hW
  have HX := Aside0.mk hx
  clear hx hs hjl
  go_enter Try.func14, Try.ntmps14
  go_wp2_with (first | (go_at_call 77; refine (hsc _ (fun i x hi => (HX.out i x hi).below HB.out)).mono ?_; rintro e w' ⟨rfl, hb⟩; have n1_ := Aside0.mk (below_step (by repeat (first | (with_reducible first | exact HB.out | apply below_alloc | apply pw_below_drewN | apply below_drew1) | exact HB.out)) hb); clear HB; have HB := n1_; clear n1_ hb) | (go_at_call 31; refine (value_of5 _ _ _ _ _ _ _ _ _).mono ?_; rw [hE]; rintro e w' ⟨rfl, hb⟩; have n1_ := Aside0.mk (below_step (by repeat (first | (with_reducible first | exact HB.out | apply below_alloc | apply pw_below_drewN | apply below_drew1) | exact HB.out)) hb); clear HB; have HB := n1_; clear n1_ hb))
  go_ret
  exact ⟨rfl, by repeat (first | (with_reducible first | exact HB.out | apply below_alloc | apply pw_below_drewN | apply below_drew1) | exact HB.out)⟩
end Go.Proofs.Ytnjlggpidkbjcaa.GV
