-- Written by wip/tools/gprint.py over the kit's printer.
import Derived.Test.YtelibndkkokadaaGreatProg
import Derived.Below
import Derived.Deep.Draws
import Derived.Deep.AppendLies
import Derived.Maps.AppendAt
import Derived.OwnWalk
import Derived.Laws.BytesArg
import Derived.Laws.MakeOwn
import Derived.Laws.OwnMore
import Derived.Deep.OwnRows
import Derived.Tactics
import Derived.Lib.ConvBytes
import Derived.Laws.Slices
import Derived.WalkKit
import Derived.KernelRfl
import Derived.RowKit3
import Derived.Deep.LoopGhost
import Derived.Deep.QuietTactic
import Derived.BigQuiet
import Derived.WideLaws
import Derived.Deep.DeepCutAuto
import Derived.Deep.CutBlock
import Derived.Deep.RegionHeld3
import Derived.Laws.Rows
import Derived.Lib.AppendStr
import Derived.ArgAppend
import Derived.Laws.IdiomCopy
import Derived.OrdersHeld
import Derived.Laws.BitsLemmas
import Derived.RowKit
import Derived.Test.YtelibndkkokadaaGreatHandV
import Derived.Test.YtelibndkkokadaaGreatWWords
import Derived.Test.YtelibndkkokadaaGreatWLast
import Derived.Test.YtelibndkkokadaaGreatWTab
import Derived.Test.YtelibndkkokadaaGreatWFour
import Derived.Test.YtelibndkkokadaaGreatWQPut
import Derived.Test.YtelibndkkokadaaGreatWApart
import Derived.Test.YtelibndkkokadaaGreatWArr
import Derived.Test.YtelibndkkokadaaGreatWZeros
import Derived.Test.YtelibndkkokadaaGreatWFoot
import Derived.Test.YtelibndkkokadaaGreatWKept
import Derived.Test.YtelibndkkokadaaGreatWShare
import Derived.Test.YtelibndkkokadaaGreatWN
import Derived.Test.YtelibndkkokadaaGreatWFootNe
import Derived.Test.YtelibndkkokadaaGreatWAt
import Derived.Test.YtelibndkkokadaaGreatWEqStruct
import Derived.Test.YtelibndkkokadaaGreatWRepsOne
import Derived.Test.YtelibndkkokadaaGreatWInv
import Derived.Test.YtelibndkkokadaaGreatWInvWords
import Derived.Test.YtelibndkkokadaaGreatWGuard
import Derived.Test.YtelibndkkokadaaGreatWNEv
import Derived.Test.YtelibndkkokadaaGreatWMore
import Derived.Test.YtelibndkkokadaaGreatSqz
namespace Go.Proofs.YtelibndkkokadaaGreat.GB
open Go.RowKit Go.Proofs.YtelibndkkokadaaGreatW.PrintWords Go.Proofs.YtelibndkkokadaaGreatW.PrintLast Go.Proofs.YtelibndkkokadaaGreat.HandV Go.Proofs.YtelibndkkokadaaGreatW.PrintMore
attribute [local go_sem] max2_int min2_int max_two min_two max_three min_three max_four min_four   -- for this text's walks alone
set_option linter.unusedVariables false
set_option linter.unusedSimpArgs false



def errW : Option Int → Value
 | none => .nilIface
 | some c => .iface 0 (.int .i64 c)
theorem errW_none : errW none = .nilIface := rfl
theorem errW_some (c : Int) : errW (some c) = .iface 0 (.int .i64 c) := rfl

theorem info28 : (Tryz.prog.info? 28).map (fun i => (i.zero, i.size, i.bytes)) = some (some (.agg #[(.string ⟨#[]⟩), (.string ⟨#[]⟩)]), 2, 32) := by kernel_rfl
theorem info39 : (Tryz.prog.info? 39).map (fun i => (i.zero, i.size, i.bytes)) = some (some (.agg #[(.int .i64 0), (.bool false), (.int .i64 0), (.string ⟨#[]⟩), (.string ⟨#[]⟩), (.string ⟨#[]⟩), (.slice none 0 0)]), 7, 96) := by kernel_rfl
theorem info67 : (Tryz.prog.info? 67).map (fun i => (i.zero, i.size, i.bytes)) = some (some (.agg #[(.string ⟨#[]⟩), (.int .i64 0), (.bool false), (.int .i64 0), (.string ⟨#[]⟩), (.string ⟨#[]⟩), (.string ⟨#[]⟩), (.slice none 0 0)]), 8, 112) := by kernel_rfl
theorem info3 : (Tryz.prog.info? 3).map (fun i => (i.zero, i.size, i.bytes)) = some (some (.int .i64 0), 1, 8) := by kernel_rfl
theorem info5 : (Tryz.prog.info? 5).map (fun i => (i.zero, i.size, i.bytes)) = some (some (.int .u8 0), 1, 1) := by kernel_rfl
theorem info21 : (Tryz.prog.info? 21).map (fun i => (i.zero, i.size, i.bytes)) = some (some (.int .i32 0), 1, 4) := by kernel_rfl
theorem info32 : (Tryz.prog.info? 32).map (fun i => (i.zero, i.size, i.bytes)) = some (some (.agg #[(.string ⟨#[]⟩), (.string ⟨#[]⟩), (.slice none 0 0), (.slice none 0 0)]), 4, 80) := by kernel_rfl
-- the values' own types
/-! #### struct type 28 -/
structure S28 where
 f0 : ByteArray
 f1 : ByteArray
def z28 : S28 := ⟨(⟨#[]⟩ : ByteArray), (⟨#[]⟩ : ByteArray)⟩
def k28 : Kd S28 := Kd.iso (Kd.pair Kd.string Kd.string) (fun x : S28 => (x.f0, x.f1))
theorem k28_heap : Kd.Heap k28 := Kd.heap_iso _ (Kd.heap_pair Kd.heap_string Kd.heap_string)
theorem k28_open {w : World} {x : S28} {cs : List Value} (h : k28.K w x cs) : cs = [.string x.f0, .string x.f1] := by
 obtain ⟨_, _, rfl, rfl, rfl⟩ := h
 exact rfl
theorem k28_mk (w : World) (x : S28)  : k28.K w x [.string x.f0, .string x.f1] := ⟨[.string x.f0], [.string x.f1], rfl, rfl, rfl⟩
theorem k28_mkM (w : World) (base : Nat) (ok : Nat → Prop) (x : S28)  : k28.M w base ok x [.string x.f0, .string x.f1] := ⟨[.string x.f0], [.string x.f1], rfl, rfl, rfl⟩
theorem k28_mkF (W : World) (ok : Nat → Prop) (x : S28) : Kd.FK k28 W ok x [.string x.f0, .string x.f1] := fun W2 _ => k28_mk W2 x
def rd_T28 (xs : List S28) (i : Int) : S28 := xs.getD i.toNat z28
theorem at_T28 {w : World} {A : Option Addr} {n : Nat} {xs : List S28} (h : Kd.C k28 w A n xs) (i : Int) (h0 : 0 ≤ i) (h1 : i < n) : ∃ ad , A = some ad ∧ w.cell? (ad.add (i.toNat * 2)) = some (.string (rd_T28 xs i).f0) ∧ w.cell? ⟨(ad.add (i.toNat * 2)).block, (ad.add (i.toNat * 2)).off + 1, none⟩ = some (.string (rd_T28 xs i).f1) := by
 obtain ⟨ad, c, e, _, hK, hc0⟩ := Kd.C_get h z28 i h0 h1
 have hc : ∀ j u, c[j]? = some u → w.cell? (ad.add (i.toNat * 2 + j)) = some u := hc0
 obtain rfl := k28_open hK
 exact ⟨ad, e, hc 0 _ rfl, by rw [← add_field _ _ 1 (by omega)]; exact hc 1 _ rfl⟩

/-! #### struct type 39, nested in itself -/
structure S39 where
 f0 : Int
 f1 : Bool
 f2 : Int
 f3 : ByteArray
 f4 : S28
 f5 : (List S39)
def z39 : S39 := ⟨(0 : Int), false, (0 : Int), (⟨#[]⟩ : ByteArray), z28, ([] : List S39)⟩
def F39 (d : Kd S39) : Kd S39 := Kd.iso (Kd.pair (Kd.int .i64) (Kd.pair Kd.bool (Kd.pair (Kd.int .i64) (Kd.pair Kd.string (Kd.pair k28 (Kd.slice 39 d)))))) (fun x : S39 => (x.f0, x.f1, x.f2, x.f3, x.f4, x.f5))
theorem mono39 : Kd.Mono F39 := Kd.mono_iso _ (Kd.mono_pair (Kd.mono_const _) (Kd.mono_pair (Kd.mono_const _) (Kd.mono_pair (Kd.mono_const _) (Kd.mono_pair (Kd.mono_const _) (Kd.mono_pair (Kd.mono_const _) (Kd.mono_slice 39 Kd.mono_id))))))
theorem sub39 : Kd.Sub F39 [39] := Kd.sub_iso _ (Kd.sub_pair (Kd.sub_const _ (by decide)) (Kd.sub_pair (Kd.sub_const _ (by decide)) (Kd.sub_pair (Kd.sub_const _ (by decide)) (Kd.sub_pair (Kd.sub_const _ (by decide)) (Kd.sub_pair (Kd.sub_const _ (by decide)) (Kd.sub_slice 39 (by decide) Kd.sub_id))))))
theorem sz39 : ∀ n, (Kd.upto F39 7 [39] n).sz = 7 := Kd.upto_sz (fun _ => rfl)
def k39 : Kd S39 := Kd.fix F39 7 [39] sz39 (Kd.upto_E sub39)
theorem k39_heap : Kd.Heap k39 := Kd.heap_fix (fun _ h_ => Kd.heap_iso _ (Kd.heap_pair (Kd.heap_int .i64) (Kd.heap_pair Kd.heap_bool (Kd.heap_pair (Kd.heap_int .i64) (Kd.heap_pair Kd.heap_string (Kd.heap_pair k28_heap (Kd.heap_slice 39 h_)))))))
theorem k39_open {w : World} {x : S39} {cs : List Value} (h : k39.K w x cs) : ∃ A6 c6, cs = [.int .i64 x.f0, .bool x.f1, .int .i64 x.f2, .string x.f3, .string x.f4.f0, .string x.f4.f1, .slice A6 x.f5.length c6] ∧ x.f5.length ≤ c6 ∧ k39.C w A6 x.f5.length x.f5 := by
 obtain ⟨n, h⟩ := h
 cases n with
 | zero => exact h.elim
 | succ n =>
  obtain ⟨_, _, rfl, rfl, ⟨_, _, rfl, rfl, ⟨_, _, rfl, rfl, ⟨_, _, rfl, rfl, ⟨_, _, rfl, s4, ⟨A6, c6, rfl, l6, g6⟩⟩⟩⟩⟩⟩ := h
  obtain rfl := k28_open s4
  exact ⟨A6, c6, rfl, l6, Kd.fix_C g6⟩
theorem k39_mk (w : World) (x : S39) {A6 : Option Addr} {c6 : Nat} (l6 : x.f5.length ≤ c6) (g6 : k39.C w A6 x.f5.length x.f5) : k39.K w x [.int .i64 x.f0, .bool x.f1, .int .i64 x.f2, .string x.f3, .string x.f4.f0, .string x.f4.f1, .slice A6 x.f5.length c6] := by
 obtain ⟨n6, q6⟩ := Kd.fix_C_back mono39 g6
 have r6 := Kd.upto_C_le mono39 sz39 (show n6 ≤ n6 by omega) q6
 exact ⟨n6 + 1, ⟨[.int .i64 x.f0], [.bool x.f1, .int .i64 x.f2, .string x.f3, .string x.f4.f0, .string x.f4.f1, .slice A6 x.f5.length c6], rfl, rfl, ⟨[.bool x.f1], [.int .i64 x.f2, .string x.f3, .string x.f4.f0, .string x.f4.f1, .slice A6 x.f5.length c6], rfl, rfl, ⟨[.int .i64 x.f2], [.string x.f3, .string x.f4.f0, .string x.f4.f1, .slice A6 x.f5.length c6], rfl, rfl, ⟨[.string x.f3], [.string x.f4.f0, .string x.f4.f1, .slice A6 x.f5.length c6], rfl, rfl, ⟨[.string x.f4.f0, .string x.f4.f1], [.slice A6 x.f5.length c6], rfl, (k28_mk w x.f4 ), ⟨A6, c6, rfl, l6, r6⟩⟩⟩⟩⟩⟩⟩
theorem k39_openF {W : World} {ok : Nat → Prop} {x : S39} {cs : List Value} (h : Kd.FK k39 W ok x cs) : ∃ A6 c6, cs = [.int .i64 x.f0, .bool x.f1, .int .i64 x.f2, .string x.f3, .string x.f4.f0, .string x.f4.f1, .slice A6 x.f5.length c6] ∧ x.f5.length ≤ c6 ∧ Kd.F k39 W ok A6 x.f5.length x.f5 := by
 obtain ⟨A6, c6, rfl, l6, _⟩ := k39_open (Kd.FK_now h)
 exact ⟨A6, c6, rfl, l6, (fun W' hW => by obtain ⟨A6_, c6_, he, l6_, g6_⟩ := k39_open (h W' hW); injection (Option.some.inj (show some (Value.slice A6 x.f5.length c6) = some (Value.slice A6_ x.f5.length c6_) from congrArg (fun l => l[6]?) he)) with ha_ _ _; rw [ha_]; exact g6_)⟩
theorem k39_mkF (W : World) (ok : Nat → Prop) (x : S39) {A6 : Option Addr} {c6 : Nat} (l6 : x.f5.length ≤ c6) (g6 : Kd.F k39 W ok A6 x.f5.length x.f5) : Kd.FK k39 W ok x [.int .i64 x.f0, .bool x.f1, .int .i64 x.f2, .string x.f3, .string x.f4.f0, .string x.f4.f1, .slice A6 x.f5.length c6] := fun W2 hW => k39_mk W2 x l6 (g6 W2 hW)
def rd_T39 (xs : List S39) (i : Int) : S39 := xs.getD i.toNat z39
theorem at_T39 {w : World} {A : Option Addr} {n : Nat} {xs : List S39} (h : Kd.C k39 w A n xs) (i : Int) (h0 : 0 ≤ i) (h1 : i < n) : ∃ ad A6 c6, A = some ad ∧ w.cell? (ad.add (i.toNat * 7)) = some (.int .i64 (rd_T39 xs i).f0) ∧ w.cell? ⟨(ad.add (i.toNat * 7)).block, (ad.add (i.toNat * 7)).off + 1, none⟩ = some (.bool (rd_T39 xs i).f1) ∧ w.cell? ⟨(ad.add (i.toNat * 7)).block, (ad.add (i.toNat * 7)).off + 2, none⟩ = some (.int .i64 (rd_T39 xs i).f2) ∧ w.cell? ⟨(ad.add (i.toNat * 7)).block, (ad.add (i.toNat * 7)).off + 3, none⟩ = some (.string (rd_T39 xs i).f3) ∧ w.cell? ⟨(ad.add (i.toNat * 7)).block, (ad.add (i.toNat * 7)).off + 4, none⟩ = some (.string (rd_T39 xs i).f4.f0) ∧ w.cell? ⟨(ad.add (i.toNat * 7)).block, (ad.add (i.toNat * 7)).off + 5, none⟩ = some (.string (rd_T39 xs i).f4.f1) ∧ w.cell? ⟨(ad.add (i.toNat * 7)).block, (ad.add (i.toNat * 7)).off + 6, none⟩ = some (.slice A6 (rd_T39 xs i).f5.length c6) ∧ (rd_T39 xs i).f5.length ≤ c6 ∧ k39.C w A6 (rd_T39 xs i).f5.length (rd_T39 xs i).f5 := by
 obtain ⟨ad, c, e, _, hK, hc0⟩ := Kd.C_get h z39 i h0 h1
 have hc : ∀ j u, c[j]? = some u → w.cell? (ad.add (i.toNat * 7 + j)) = some u := hc0
 obtain ⟨A6, c6, rfl, l6, g6⟩ := k39_open hK
 exact ⟨ad, A6, c6, e, hc 0 _ rfl, by rw [← add_field _ _ 1 (by omega)]; exact hc 1 _ rfl, by rw [← add_field _ _ 2 (by omega)]; exact hc 2 _ rfl, by rw [← add_field _ _ 3 (by omega)]; exact hc 3 _ rfl, by rw [← add_field _ _ 4 (by omega)]; exact hc 4 _ rfl, by rw [← add_field _ _ 5 (by omega)]; exact hc 5 _ rfl, by rw [← add_field _ _ 6 (by omega)]; exact hc 6 _ rfl, l6, g6⟩

/-! #### struct type 67 -/
structure S67 where
 f0 : ByteArray
 f1 : S39
def z67 : S67 := ⟨(⟨#[]⟩ : ByteArray), z39⟩
def k67 : Kd S67 := Kd.iso (Kd.pair Kd.string k39) (fun x : S67 => (x.f0, x.f1))
theorem k67_heap : Kd.Heap k67 := Kd.heap_iso _ (Kd.heap_pair Kd.heap_string k39_heap)
theorem k67_open {w : World} {x : S67} {cs : List Value} (h : k67.K w x cs) : ∃ A7 c7, cs = [.string x.f0, .int .i64 x.f1.f0, .bool x.f1.f1, .int .i64 x.f1.f2, .string x.f1.f3, .string x.f1.f4.f0, .string x.f1.f4.f1, .slice A7 x.f1.f5.length c7] ∧ x.f1.f5.length ≤ c7 ∧ k39.C w A7 x.f1.f5.length x.f1.f5 := by
 obtain ⟨_, _, rfl, rfl, s1⟩ := h
 obtain ⟨A7, c7, rfl, l7, g7⟩ := k39_open s1
 exact ⟨A7, c7, rfl, l7, g7⟩
theorem k67_mk (w : World) (x : S67) {A7 : Option Addr} {c7 : Nat} (l7 : x.f1.f5.length ≤ c7) (g7 : k39.C w A7 x.f1.f5.length x.f1.f5) : k67.K w x [.string x.f0, .int .i64 x.f1.f0, .bool x.f1.f1, .int .i64 x.f1.f2, .string x.f1.f3, .string x.f1.f4.f0, .string x.f1.f4.f1, .slice A7 x.f1.f5.length c7] := ⟨[.string x.f0], [.int .i64 x.f1.f0, .bool x.f1.f1, .int .i64 x.f1.f2, .string x.f1.f3, .string x.f1.f4.f0, .string x.f1.f4.f1, .slice A7 x.f1.f5.length c7], rfl, rfl, (k39_mk w x.f1 l7 g7)⟩
theorem k67_openF {W : World} {ok : Nat → Prop} {x : S67} {cs : List Value} (h : Kd.FK k67 W ok x cs) : ∃ A7 c7, cs = [.string x.f0, .int .i64 x.f1.f0, .bool x.f1.f1, .int .i64 x.f1.f2, .string x.f1.f3, .string x.f1.f4.f0, .string x.f1.f4.f1, .slice A7 x.f1.f5.length c7] ∧ x.f1.f5.length ≤ c7 ∧ Kd.F k39 W ok A7 x.f1.f5.length x.f1.f5 := by
 obtain ⟨A7, c7, rfl, l7, _⟩ := k67_open (Kd.FK_now h)
 exact ⟨A7, c7, rfl, l7, (fun W' hW => by obtain ⟨A7_, c7_, he, l7_, g7_⟩ := k67_open (h W' hW); injection (Option.some.inj (show some (Value.slice A7 x.f1.f5.length c7) = some (Value.slice A7_ x.f1.f5.length c7_) from congrArg (fun l => l[7]?) he)) with ha_ _ _; rw [ha_]; exact g7_)⟩
theorem k67_mkF (W : World) (ok : Nat → Prop) (x : S67) {A7 : Option Addr} {c7 : Nat} (l7 : x.f1.f5.length ≤ c7) (g7 : Kd.F k39 W ok A7 x.f1.f5.length x.f1.f5) : Kd.FK k67 W ok x [.string x.f0, .int .i64 x.f1.f0, .bool x.f1.f1, .int .i64 x.f1.f2, .string x.f1.f3, .string x.f1.f4.f0, .string x.f1.f4.f1, .slice A7 x.f1.f5.length c7] := fun W2 hW => k67_mk W2 x l7 (g7 W2 hW)
def rd_T67 (xs : List S67) (i : Int) : S67 := xs.getD i.toNat z67
theorem at_T67 {w : World} {A : Option Addr} {n : Nat} {xs : List S67} (h : Kd.C k67 w A n xs) (i : Int) (h0 : 0 ≤ i) (h1 : i < n) : ∃ ad A7 c7, A = some ad ∧ w.cell? (ad.add (i.toNat * 8)) = some (.string (rd_T67 xs i).f0) ∧ w.cell? ⟨(ad.add (i.toNat * 8)).block, (ad.add (i.toNat * 8)).off + 1, none⟩ = some (.int .i64 (rd_T67 xs i).f1.f0) ∧ w.cell? ⟨(ad.add (i.toNat * 8)).block, (ad.add (i.toNat * 8)).off + 2, none⟩ = some (.bool (rd_T67 xs i).f1.f1) ∧ w.cell? ⟨(ad.add (i.toNat * 8)).block, (ad.add (i.toNat * 8)).off + 3, none⟩ = some (.int .i64 (rd_T67 xs i).f1.f2) ∧ w.cell? ⟨(ad.add (i.toNat * 8)).block, (ad.add (i.toNat * 8)).off + 4, none⟩ = some (.string (rd_T67 xs i).f1.f3) ∧ w.cell? ⟨(ad.add (i.toNat * 8)).block, (ad.add (i.toNat * 8)).off + 5, none⟩ = some (.string (rd_T67 xs i).f1.f4.f0) ∧ w.cell? ⟨(ad.add (i.toNat * 8)).block, (ad.add (i.toNat * 8)).off + 6, none⟩ = some (.string (rd_T67 xs i).f1.f4.f1) ∧ w.cell? ⟨(ad.add (i.toNat * 8)).block, (ad.add (i.toNat * 8)).off + 7, none⟩ = some (.slice A7 (rd_T67 xs i).f1.f5.length c7) ∧ (rd_T67 xs i).f1.f5.length ≤ c7 ∧ k39.C w A7 (rd_T67 xs i).f1.f5.length (rd_T67 xs i).f1.f5 := by
 obtain ⟨ad, c, e, _, hK, hc0⟩ := Kd.C_get h z67 i h0 h1
 have hc : ∀ j u, c[j]? = some u → w.cell? (ad.add (i.toNat * 8 + j)) = some u := hc0
 obtain ⟨A7, c7, rfl, l7, g7⟩ := k67_open hK
 exact ⟨ad, A7, c7, e, hc 0 _ rfl, by rw [← add_field _ _ 1 (by omega)]; exact hc 1 _ rfl, by rw [← add_field _ _ 2 (by omega)]; exact hc 2 _ rfl, by rw [← add_field _ _ 3 (by omega)]; exact hc 3 _ rfl, by rw [← add_field _ _ 4 (by omega)]; exact hc 4 _ rfl, by rw [← add_field _ _ 5 (by omega)]; exact hc 5 _ rfl, by rw [← add_field _ _ 6 (by omega)]; exact hc 6 _ rfl, by rw [← add_field _ _ 7 (by omega)]; exact hc 7 _ rfl, l7, g7⟩

/-! #### struct type 32 -/
structure S32 where
 f0 : S28
 f1 : (List S28)
 f2 : (List S67)
def z32 : S32 := ⟨z28, ([] : List S28), ([] : List S67)⟩
def k32 : Kd S32 := Kd.iso (Kd.pair k28 (Kd.pair (Kd.slice 28 k28) (Kd.slice 67 k67))) (fun x : S32 => (x.f0, x.f1, x.f2))
theorem k32_heap : Kd.Heap k32 := Kd.heap_iso _ (Kd.heap_pair k28_heap (Kd.heap_pair (Kd.heap_slice 28 k28_heap) (Kd.heap_slice 67 k67_heap)))
theorem k32_open {w : World} {x : S32} {cs : List Value} (h : k32.K w x cs) : ∃ A2 c2 A3 c3, cs = [.string x.f0.f0, .string x.f0.f1, .slice A2 x.f1.length c2, .slice A3 x.f2.length c3] ∧ x.f1.length ≤ c2 ∧ k28.C w A2 x.f1.length x.f1 ∧ x.f2.length ≤ c3 ∧ k67.C w A3 x.f2.length x.f2 := by
 obtain ⟨_, _, rfl, s0, ⟨_, _, rfl, ⟨A2, c2, rfl, l2, g2⟩, ⟨A3, c3, rfl, l3, g3⟩⟩⟩ := h
 obtain rfl := k28_open s0
 exact ⟨A2, c2, A3, c3, rfl, l2, g2, l3, g3⟩
theorem k32_mk (w : World) (x : S32) {A2 : Option Addr} {c2 : Nat} (l2 : x.f1.length ≤ c2) (g2 : k28.C w A2 x.f1.length x.f1) {A3 : Option Addr} {c3 : Nat} (l3 : x.f2.length ≤ c3) (g3 : k67.C w A3 x.f2.length x.f2) : k32.K w x [.string x.f0.f0, .string x.f0.f1, .slice A2 x.f1.length c2, .slice A3 x.f2.length c3] := ⟨[.string x.f0.f0, .string x.f0.f1], [.slice A2 x.f1.length c2, .slice A3 x.f2.length c3], rfl, (k28_mk w x.f0 ), ⟨[.slice A2 x.f1.length c2], [.slice A3 x.f2.length c3], rfl, ⟨A2, c2, rfl, l2, g2⟩, ⟨A3, c3, rfl, l3, g3⟩⟩⟩
theorem k32_openF {W : World} {ok : Nat → Prop} {x : S32} {cs : List Value} (h : Kd.FK k32 W ok x cs) : ∃ A2 c2 A3 c3, cs = [.string x.f0.f0, .string x.f0.f1, .slice A2 x.f1.length c2, .slice A3 x.f2.length c3] ∧ x.f1.length ≤ c2 ∧ Kd.F k28 W ok A2 x.f1.length x.f1 ∧ x.f2.length ≤ c3 ∧ Kd.F k67 W ok A3 x.f2.length x.f2 := by
 obtain ⟨A2, c2, A3, c3, rfl, l2, _, l3, _⟩ := k32_open (Kd.FK_now h)
 exact ⟨A2, c2, A3, c3, rfl, l2, (fun W' hW => by obtain ⟨A2_, c2_, A3_, c3_, he, l2_, g2_, l3_, g3_⟩ := k32_open (h W' hW); injection (Option.some.inj (show some (Value.slice A2 x.f1.length c2) = some (Value.slice A2_ x.f1.length c2_) from congrArg (fun l => l[2]?) he)) with ha_ _ _; rw [ha_]; exact g2_), l3, (fun W' hW => by obtain ⟨A2_, c2_, A3_, c3_, he, l2_, g2_, l3_, g3_⟩ := k32_open (h W' hW); injection (Option.some.inj (show some (Value.slice A3 x.f2.length c3) = some (Value.slice A3_ x.f2.length c3_) from congrArg (fun l => l[3]?) he)) with ha_ _ _; rw [ha_]; exact g3_)⟩
theorem k32_mkF (W : World) (ok : Nat → Prop) (x : S32) {A2 : Option Addr} {c2 : Nat} (l2 : x.f1.length ≤ c2) (g2 : Kd.F k28 W ok A2 x.f1.length x.f1) {A3 : Option Addr} {c3 : Nat} (l3 : x.f2.length ≤ c3) (g3 : Kd.F k67 W ok A3 x.f2.length x.f2) : Kd.FK k32 W ok x [.string x.f0.f0, .string x.f0.f1, .slice A2 x.f1.length c2, .slice A3 x.f2.length c3] := fun W2 hW => k32_mk W2 x l2 (g2 W2 hW) l3 (g3 W2 hW)
def rd_T32 (xs : List S32) (i : Int) : S32 := xs.getD i.toNat z32
theorem at_T32 {w : World} {A : Option Addr} {n : Nat} {xs : List S32} (h : Kd.C k32 w A n xs) (i : Int) (h0 : 0 ≤ i) (h1 : i < n) : ∃ ad A2 c2 A3 c3, A = some ad ∧ w.cell? (ad.add (i.toNat * 4)) = some (.string (rd_T32 xs i).f0.f0) ∧ w.cell? ⟨(ad.add (i.toNat * 4)).block, (ad.add (i.toNat * 4)).off + 1, none⟩ = some (.string (rd_T32 xs i).f0.f1) ∧ w.cell? ⟨(ad.add (i.toNat * 4)).block, (ad.add (i.toNat * 4)).off + 2, none⟩ = some (.slice A2 (rd_T32 xs i).f1.length c2) ∧ w.cell? ⟨(ad.add (i.toNat * 4)).block, (ad.add (i.toNat * 4)).off + 3, none⟩ = some (.slice A3 (rd_T32 xs i).f2.length c3) ∧ (rd_T32 xs i).f1.length ≤ c2 ∧ k28.C w A2 (rd_T32 xs i).f1.length (rd_T32 xs i).f1 ∧ (rd_T32 xs i).f2.length ≤ c3 ∧ k67.C w A3 (rd_T32 xs i).f2.length (rd_T32 xs i).f2 := by
 obtain ⟨ad, c, e, _, hK, hc0⟩ := Kd.C_get h z32 i h0 h1
 have hc : ∀ j u, c[j]? = some u → w.cell? (ad.add (i.toNat * 4 + j)) = some u := hc0
 obtain ⟨A2, c2, A3, c3, rfl, l2, g2, l3, g3⟩ := k32_open hK
 exact ⟨ad, A2, c2, A3, c3, e, hc 0 _ rfl, by rw [← add_field _ _ 1 (by omega)]; exact hc 1 _ rfl, by rw [← add_field _ _ 2 (by omega)]; exact hc 2 _ rfl, by rw [← add_field _ _ 3 (by omega)]; exact hc 3 _ rfl, l2, g2, l3, g3⟩

/-! #### struct type 36, nested in itself -/
structure S36 where
 f0 : Int
 f1 : Bool
 f2 : Int
 f3 : ByteArray
 f4 : S28
 f5 : (List S36)
def z36 : S36 := ⟨(0 : Int), false, (0 : Int), (⟨#[]⟩ : ByteArray), z28, ([] : List S36)⟩
def F36 (d : Kd S36) : Kd S36 := Kd.iso (Kd.pair (Kd.int .i64) (Kd.pair Kd.bool (Kd.pair (Kd.int .i64) (Kd.pair Kd.string (Kd.pair k28 (Kd.slice 36 d)))))) (fun x : S36 => (x.f0, x.f1, x.f2, x.f3, x.f4, x.f5))
theorem mono36 : Kd.Mono F36 := Kd.mono_iso _ (Kd.mono_pair (Kd.mono_const _) (Kd.mono_pair (Kd.mono_const _) (Kd.mono_pair (Kd.mono_const _) (Kd.mono_pair (Kd.mono_const _) (Kd.mono_pair (Kd.mono_const _) (Kd.mono_slice 36 Kd.mono_id))))))
theorem sub36 : Kd.Sub F36 [36] := Kd.sub_iso _ (Kd.sub_pair (Kd.sub_const _ (by decide)) (Kd.sub_pair (Kd.sub_const _ (by decide)) (Kd.sub_pair (Kd.sub_const _ (by decide)) (Kd.sub_pair (Kd.sub_const _ (by decide)) (Kd.sub_pair (Kd.sub_const _ (by decide)) (Kd.sub_slice 36 (by decide) Kd.sub_id))))))
theorem sz36 : ∀ n, (Kd.upto F36 7 [36] n).sz = 7 := Kd.upto_sz (fun _ => rfl)
def k36 : Kd S36 := Kd.fix F36 7 [36] sz36 (Kd.upto_E sub36)
theorem k36_open {w : World} {x : S36} {cs : List Value} (h : k36.K w x cs) : ∃ A6 c6, cs = [.int .i64 x.f0, .bool x.f1, .int .i64 x.f2, .string x.f3, .string x.f4.f0, .string x.f4.f1, .slice A6 x.f5.length c6] ∧ x.f5.length ≤ c6 ∧ k36.C w A6 x.f5.length x.f5 := by
 obtain ⟨n, h⟩ := h
 cases n with
 | zero => exact h.elim
 | succ n =>
  obtain ⟨_, _, rfl, rfl, ⟨_, _, rfl, rfl, ⟨_, _, rfl, rfl, ⟨_, _, rfl, rfl, ⟨_, _, rfl, s4, ⟨A6, c6, rfl, l6, g6⟩⟩⟩⟩⟩⟩ := h
  obtain rfl := k28_open s4
  exact ⟨A6, c6, rfl, l6, Kd.fix_C g6⟩
theorem k36_mk (w : World) (x : S36) {A6 : Option Addr} {c6 : Nat} (l6 : x.f5.length ≤ c6) (g6 : k36.C w A6 x.f5.length x.f5) : k36.K w x [.int .i64 x.f0, .bool x.f1, .int .i64 x.f2, .string x.f3, .string x.f4.f0, .string x.f4.f1, .slice A6 x.f5.length c6] := by
 obtain ⟨n6, q6⟩ := Kd.fix_C_back mono36 g6
 have r6 := Kd.upto_C_le mono36 sz36 (show n6 ≤ n6 by omega) q6
 exact ⟨n6 + 1, ⟨[.int .i64 x.f0], [.bool x.f1, .int .i64 x.f2, .string x.f3, .string x.f4.f0, .string x.f4.f1, .slice A6 x.f5.length c6], rfl, rfl, ⟨[.bool x.f1], [.int .i64 x.f2, .string x.f3, .string x.f4.f0, .string x.f4.f1, .slice A6 x.f5.length c6], rfl, rfl, ⟨[.int .i64 x.f2], [.string x.f3, .string x.f4.f0, .string x.f4.f1, .slice A6 x.f5.length c6], rfl, rfl, ⟨[.string x.f3], [.string x.f4.f0, .string x.f4.f1, .slice A6 x.f5.length c6], rfl, rfl, ⟨[.string x.f4.f0, .string x.f4.f1], [.slice A6 x.f5.length c6], rfl, (k28_mk w x.f4 ), ⟨A6, c6, rfl, l6, r6⟩⟩⟩⟩⟩⟩⟩
theorem k36_mkF (W : World) (ok : Nat → Prop) (x : S36) {A6 : Option Addr} {c6 : Nat} (l6 : x.f5.length ≤ c6) (g6 : Kd.F k36 W ok A6 x.f5.length x.f5) : Kd.FK k36 W ok x [.int .i64 x.f0, .bool x.f1, .int .i64 x.f2, .string x.f3, .string x.f4.f0, .string x.f4.f1, .slice A6 x.f5.length c6] := fun W2 hW => k36_mk W2 x l6 (g6 W2 hW)
def rd_T36 (xs : List S36) (i : Int) : S36 := xs.getD i.toNat z36
theorem at_T36 {w : World} {A : Option Addr} {n : Nat} {xs : List S36} (h : Kd.C k36 w A n xs) (i : Int) (h0 : 0 ≤ i) (h1 : i < n) : ∃ ad A6 c6, A = some ad ∧ w.cell? (ad.add (i.toNat * 7)) = some (.int .i64 (rd_T36 xs i).f0) ∧ w.cell? ⟨(ad.add (i.toNat * 7)).block, (ad.add (i.toNat * 7)).off + 1, none⟩ = some (.bool (rd_T36 xs i).f1) ∧ w.cell? ⟨(ad.add (i.toNat * 7)).block, (ad.add (i.toNat * 7)).off + 2, none⟩ = some (.int .i64 (rd_T36 xs i).f2) ∧ w.cell? ⟨(ad.add (i.toNat * 7)).block, (ad.add (i.toNat * 7)).off + 3, none⟩ = some (.string (rd_T36 xs i).f3) ∧ w.cell? ⟨(ad.add (i.toNat * 7)).block, (ad.add (i.toNat * 7)).off + 4, none⟩ = some (.string (rd_T36 xs i).f4.f0) ∧ w.cell? ⟨(ad.add (i.toNat * 7)).block, (ad.add (i.toNat * 7)).off + 5, none⟩ = some (.string (rd_T36 xs i).f4.f1) ∧ w.cell? ⟨(ad.add (i.toNat * 7)).block, (ad.add (i.toNat * 7)).off + 6, none⟩ = some (.slice A6 (rd_T36 xs i).f5.length c6) ∧ (rd_T36 xs i).f5.length ≤ c6 ∧ k36.C w A6 (rd_T36 xs i).f5.length (rd_T36 xs i).f5 := by
 obtain ⟨ad, c, e, _, hK, hc0⟩ := Kd.C_get h z36 i h0 h1
 have hc : ∀ j u, c[j]? = some u → w.cell? (ad.add (i.toNat * 7 + j)) = some u := hc0
 obtain ⟨A6, c6, rfl, l6, g6⟩ := k36_open hK
 exact ⟨ad, A6, c6, e, hc 0 _ rfl, by rw [← add_field _ _ 1 (by omega)]; exact hc 1 _ rfl, by rw [← add_field _ _ 2 (by omega)]; exact hc 2 _ rfl, by rw [← add_field _ _ 3 (by omega)]; exact hc 3 _ rfl, by rw [← add_field _ _ 4 (by omega)]; exact hc 4 _ rfl, by rw [← add_field _ _ 5 (by omega)]; exact hc 5 _ rfl, by rw [← add_field _ _ 6 (by omega)]; exact hc 6 _ rfl, l6, g6⟩

/-! #### struct type 94, nested in itself -/
structure S94 where
 f0 : Int
 f1 : Int
 f2 : (List Int)
 f3 : (List S94)
def z94 : S94 := ⟨(0 : Int), (0 : Int), ([] : List Int), ([] : List S94)⟩
def F94 (d : Kd S94) : Kd S94 := Kd.iso (Kd.pair (Kd.int .i64) (Kd.pair (Kd.int .i64) (Kd.pair (Kd.slice 3 (Kd.int .i64)) (Kd.slice 94 d)))) (fun x : S94 => (x.f0, x.f1, x.f2, x.f3))
theorem mono94 : Kd.Mono F94 := Kd.mono_iso _ (Kd.mono_pair (Kd.mono_const _) (Kd.mono_pair (Kd.mono_const _) (Kd.mono_pair (Kd.mono_const _) (Kd.mono_slice 94 Kd.mono_id))))
theorem sub94 : Kd.Sub F94 [3, 94] := Kd.sub_iso _ (Kd.sub_pair (Kd.sub_const _ (by decide)) (Kd.sub_pair (Kd.sub_const _ (by decide)) (Kd.sub_pair (Kd.sub_const _ (by decide)) (Kd.sub_slice 94 (by decide) Kd.sub_id))))
theorem sz94 : ∀ n, (Kd.upto F94 4 [3, 94] n).sz = 4 := Kd.upto_sz (fun _ => rfl)
def k94 : Kd S94 := Kd.fix F94 4 [3, 94] sz94 (Kd.upto_E sub94)
theorem k94_open {w : World} {x : S94} {cs : List Value} (h : k94.K w x cs) : ∃ A2 c2 A3 c3, cs = [.int .i64 x.f0, .int .i64 x.f1, .slice A2 x.f2.length c2, .slice A3 x.f3.length c3] ∧ x.f2.length ≤ c2 ∧ (Kd.int .i64).C w A2 x.f2.length x.f2 ∧ x.f3.length ≤ c3 ∧ k94.C w A3 x.f3.length x.f3 := by
 obtain ⟨n, h⟩ := h
 cases n with
 | zero => exact h.elim
 | succ n =>
  obtain ⟨_, _, rfl, rfl, ⟨_, _, rfl, rfl, ⟨_, _, rfl, ⟨A2, c2, rfl, l2, g2⟩, ⟨A3, c3, rfl, l3, g3⟩⟩⟩⟩ := h
  exact ⟨A2, c2, A3, c3, rfl, l2, g2, l3, Kd.fix_C g3⟩
def rd_T94 (xs : List S94) (i : Int) : S94 := xs.getD i.toNat z94
theorem at_T94 {w : World} {A : Option Addr} {n : Nat} {xs : List S94} (h : Kd.C k94 w A n xs) (i : Int) (h0 : 0 ≤ i) (h1 : i < n) : ∃ ad A2 c2 A3 c3, A = some ad ∧ w.cell? (ad.add (i.toNat * 4)) = some (.int .i64 (rd_T94 xs i).f0) ∧ w.cell? ⟨(ad.add (i.toNat * 4)).block, (ad.add (i.toNat * 4)).off + 1, none⟩ = some (.int .i64 (rd_T94 xs i).f1) ∧ w.cell? ⟨(ad.add (i.toNat * 4)).block, (ad.add (i.toNat * 4)).off + 2, none⟩ = some (.slice A2 (rd_T94 xs i).f2.length c2) ∧ w.cell? ⟨(ad.add (i.toNat * 4)).block, (ad.add (i.toNat * 4)).off + 3, none⟩ = some (.slice A3 (rd_T94 xs i).f3.length c3) ∧ (rd_T94 xs i).f2.length ≤ c2 ∧ (Kd.int .i64).C w A2 (rd_T94 xs i).f2.length (rd_T94 xs i).f2 ∧ (rd_T94 xs i).f3.length ≤ c3 ∧ k94.C w A3 (rd_T94 xs i).f3.length (rd_T94 xs i).f3 := by
 obtain ⟨ad, c, e, _, hK, hc0⟩ := Kd.C_get h z94 i h0 h1
 have hc : ∀ j u, c[j]? = some u → w.cell? (ad.add (i.toNat * 4 + j)) = some u := hc0
 obtain ⟨A2, c2, A3, c3, rfl, l2, g2, l3, g3⟩ := k94_open hK
 exact ⟨ad, A2, c2, A3, c3, e, hc 0 _ rfl, by rw [← add_field _ _ 1 (by omega)]; exact hc 1 _ rfl, by rw [← add_field _ _ 2 (by omega)]; exact hc 2 _ rfl, by rw [← add_field _ _ 3 (by omega)]; exact hc 3 _ rfl, l2, g2, l3, g3⟩

/-! #### struct type 64 -/
structure S64 where
 f0 : Int
 f1 : Int
 f2 : (List Int)
 f3 : (List Int)
 f4 : (List S94)
def z64 : S64 := ⟨(0 : Int), (0 : Int), ([] : List Int), ([] : List Int), ([] : List S94)⟩
def k64 : Kd S64 := Kd.iso (Kd.pair (Kd.int .i64) (Kd.pair (Kd.int .i64) (Kd.pair (Kd.slice 3 (Kd.int .i64)) (Kd.pair (Kd.slice 3 (Kd.int .i64)) (Kd.slice 94 k94))))) (fun x : S64 => (x.f0, x.f1, x.f2, x.f3, x.f4))
theorem k64_open {w : World} {x : S64} {cs : List Value} (h : k64.K w x cs) : ∃ A2 c2 A3 c3 A4 c4, cs = [.int .i64 x.f0, .int .i64 x.f1, .slice A2 x.f2.length c2, .slice A3 x.f3.length c3, .slice A4 x.f4.length c4] ∧ x.f2.length ≤ c2 ∧ (Kd.int .i64).C w A2 x.f2.length x.f2 ∧ x.f3.length ≤ c3 ∧ (Kd.int .i64).C w A3 x.f3.length x.f3 ∧ x.f4.length ≤ c4 ∧ k94.C w A4 x.f4.length x.f4 := by
 obtain ⟨_, _, rfl, rfl, ⟨_, _, rfl, rfl, ⟨_, _, rfl, ⟨A2, c2, rfl, l2, g2⟩, ⟨_, _, rfl, ⟨A3, c3, rfl, l3, g3⟩, ⟨A4, c4, rfl, l4, g4⟩⟩⟩⟩⟩ := h
 exact ⟨A2, c2, A3, c3, A4, c4, rfl, l2, g2, l3, g3, l4, g4⟩
def rd_T64 (xs : List S64) (i : Int) : S64 := xs.getD i.toNat z64
theorem at_T64 {w : World} {A : Option Addr} {n : Nat} {xs : List S64} (h : Kd.C k64 w A n xs) (i : Int) (h0 : 0 ≤ i) (h1 : i < n) : ∃ ad A2 c2 A3 c3 A4 c4, A = some ad ∧ w.cell? (ad.add (i.toNat * 5)) = some (.int .i64 (rd_T64 xs i).f0) ∧ w.cell? ⟨(ad.add (i.toNat * 5)).block, (ad.add (i.toNat * 5)).off + 1, none⟩ = some (.int .i64 (rd_T64 xs i).f1) ∧ w.cell? ⟨(ad.add (i.toNat * 5)).block, (ad.add (i.toNat * 5)).off + 2, none⟩ = some (.slice A2 (rd_T64 xs i).f2.length c2) ∧ w.cell? ⟨(ad.add (i.toNat * 5)).block, (ad.add (i.toNat * 5)).off + 3, none⟩ = some (.slice A3 (rd_T64 xs i).f3.length c3) ∧ w.cell? ⟨(ad.add (i.toNat * 5)).block, (ad.add (i.toNat * 5)).off + 4, none⟩ = some (.slice A4 (rd_T64 xs i).f4.length c4) ∧ (rd_T64 xs i).f2.length ≤ c2 ∧ (Kd.int .i64).C w A2 (rd_T64 xs i).f2.length (rd_T64 xs i).f2 ∧ (rd_T64 xs i).f3.length ≤ c3 ∧ (Kd.int .i64).C w A3 (rd_T64 xs i).f3.length (rd_T64 xs i).f3 ∧ (rd_T64 xs i).f4.length ≤ c4 ∧ k94.C w A4 (rd_T64 xs i).f4.length (rd_T64 xs i).f4 := by
 obtain ⟨ad, c, e, _, hK, hc0⟩ := Kd.C_get h z64 i h0 h1
 have hc : ∀ j u, c[j]? = some u → w.cell? (ad.add (i.toNat * 5 + j)) = some u := hc0
 obtain ⟨A2, c2, A3, c3, A4, c4, rfl, l2, g2, l3, g3, l4, g4⟩ := k64_open hK
 exact ⟨ad, A2, c2, A3, c3, A4, c4, e, hc 0 _ rfl, by rw [← add_field _ _ 1 (by omega)]; exact hc 1 _ rfl, by rw [← add_field _ _ 2 (by omega)]; exact hc 2 _ rfl, by rw [← add_field _ _ 3 (by omega)]; exact hc 3 _ rfl, by rw [← add_field _ _ 4 (by omega)]; exact hc 4 _ rfl, l2, g2, l3, g3, l4, g4⟩

/-! #### struct type 89 -/
structure S89 where
 f0 : Bool
 f1 : S36
/-! #### struct type 105 -/
structure S105 where
 f0 : ByteArray
 f1 : (List ByteArray)
 f2 : (List ByteArray)
/-! #### struct type 84 -/
structure S84 where
 f0 : ByteArray
 f1 : ByteArray
 f2 : ByteArray
/-! #### struct type 200 -/
structure S200 where
 f0 : Int
 f1 : Int
 f2 : ByteArray
/-! #### struct type 202 -/
structure S202 where
 f0 : ByteArray
 f1 : S200
/-! #### struct type 191 -/
structure S191 where
 f0 : ByteArray
 f1 : (List ByteArray)
 f2 : (List S202)
end Go.Proofs.YtelibndkkokadaaGreat.GB
