-- Written by wip/tools/gprint.py over the kit's printer.
import Derived.Test.YtakkmhcidbamjaaProg
import Derived.Below
import Derived.Deep.Draws
import Derived.Deep.AppendLies
import Derived.Maps.AppendAt
import Derived.OwnWalk
import Derived.Laws.BytesArg
import Derived.Laws.MakeOwn
import Derived.Laws.OwnMore
import Derived.Deep.OwnRows
import Derived.Tactics
import Derived.Lib.ConvBytes
import Derived.Laws.Slices
import Derived.WalkKit
import Derived.KernelRfl
import Derived.RowKit3
import Derived.Deep.LoopGhost
import Derived.Deep.QuietTactic
import Derived.BigQuiet
import Derived.WideLaws
import Derived.Deep.DeepCutAuto
import Derived.Deep.CutBlock
import Derived.Deep.RegionHeld3
import Derived.Laws.Rows
import Derived.Lib.AppendStr
import Derived.ArgAppend
import Derived.Laws.IdiomCopy
import Derived.OrdersHeld
import Derived.Laws.BitsLemmas
import Derived.RowKit
import Derived.Test.YtakkmhcidbamjaaHandV
import Derived.Lib.OthersKept
import Derived.Lib.Hide
import Derived.Test.YtakkmhcidbamjaaWWords
import Derived.Test.YtakkmhcidbamjaaWLast
import Derived.Test.YtakkmhcidbamjaaWTab
import Derived.Test.YtakkmhcidbamjaaWFour
import Derived.Test.YtakkmhcidbamjaaWQPut
import Derived.Test.YtakkmhcidbamjaaWApart
import Derived.Test.YtakkmhcidbamjaaWArr
import Derived.Test.YtakkmhcidbamjaaWZeros
import Derived.Test.YtakkmhcidbamjaaWFoot
import Derived.Test.YtakkmhcidbamjaaWKept
import Derived.Test.YtakkmhcidbamjaaWShare
import Derived.Test.YtakkmhcidbamjaaWN
import Derived.Test.YtakkmhcidbamjaaWFootNe
import Derived.Test.YtakkmhcidbamjaaWAt
import Derived.Test.YtakkmhcidbamjaaWEqStruct
import Derived.Test.YtakkmhcidbamjaaWRepsOne
import Derived.Test.YtakkmhcidbamjaaWInv
import Derived.Test.YtakkmhcidbamjaaWInvWords
import Derived.Test.YtakkmhcidbamjaaWGuard
import Derived.Test.YtakkmhcidbamjaaWNEv
import Derived.Test.YtakkmhcidbamjaaWMore
namespace Go.Proofs.Ytakkmhcidbamjaa.GV
open Go.RowKit Go.Proofs.YtakkmhcidbamjaaW.PrintWords Go.Proofs.YtakkmhcidbamjaaW.PrintLast Go.Proofs.Ytakkmhcidbamjaa.HandV Go.Proofs.YtakkmhcidbamjaaW.PrintMore
attribute [local go_sem] max2_int min2_int max_two min_two max_three min_three max_four min_four   -- for this text's walks alone
set_option linter.unusedVariables false
set_option linter.unusedSimpArgs false



def errW : Option Int → Value
  | none => .nilIface
  | some c => .iface 0 (.int .i64 c)
theorem errW_none : errW none = .nilIface := rfl
theorem errW_some (c : Int) : errW (some c) = .iface 0 (.int .i64 c) := rfl

-- the values' own types
/-! #### struct type 25 -/
structure S25 where
  f0 : ByteArray
  f1 : ByteArray
def z25 : S25 := ⟨(⟨#[]⟩ : ByteArray), (⟨#[]⟩ : ByteArray)⟩
def k25 : Kd S25 := Kd.iso (Kd.pair Kd.string Kd.string) (fun x : S25 => (x.f0, x.f1))
theorem k25_open {w : World} {x : S25} {cs : List Value} (h : k25.K w x cs) : cs = [.string x.f0, .string x.f1] := by
  obtain ⟨_, _, rfl, rfl, rfl⟩ := h
  exact rfl
theorem k25_openM {w : World} {base : Nat} {ok : Nat → Prop} {x : S25} {cs : List Value} (h : k25.M w base ok x cs) : cs = [.string x.f0, .string x.f1] := by
  obtain ⟨_, _, rfl, rfl, rfl⟩ := h
  exact rfl
theorem k25_mk (w : World) (x : S25)  : k25.K w x [.string x.f0, .string x.f1] := ⟨[.string x.f0], [.string x.f1], rfl, rfl, rfl⟩
theorem k25_mkM (w : World) (base : Nat) (ok : Nat → Prop) (x : S25)  : k25.M w base ok x [.string x.f0, .string x.f1] := ⟨[.string x.f0], [.string x.f1], rfl, rfl, rfl⟩
def rd_T25 (xs : List S25) (i : Int) : S25 := xs.getD i.toNat z25
theorem at_T25 {w : World} {A : Option Addr} {n : Nat} {xs : List S25} (h : Kd.C k25 w A n xs) (i : Int) (h0 : 0 ≤ i) (h1 : i < n) : ∃ ad , A = some ad ∧ w.cell? (ad.add (i.toNat * 2)) = some (.string (rd_T25 xs i).f0) ∧ w.cell? ⟨(ad.add (i.toNat * 2)).block, (ad.add (i.toNat * 2)).off + 1, none⟩ = some (.string (rd_T25 xs i).f1) := by
  obtain ⟨ad, c, e, _, hK, hc0⟩ := Kd.C_get h z25 i h0 h1
  have hc : ∀ j u, c[j]? = some u → w.cell? (ad.add (i.toNat * 2 + j)) = some u := hc0
  obtain rfl := k25_open hK
  exact ⟨ad, e, hc 0 _ rfl, by rw [← add_field _ _ 1 (by omega)]; exact hc 1 _ rfl⟩

/-! #### struct type 31, nested in itself -/
structure S31 where
  f0 : Int
  f1 : Bool
  f2 : Int
  f3 : ByteArray
  f4 : S25
  f5 : (List S31)
def z31 : S31 := ⟨(0 : Int), false, (0 : Int), (⟨#[]⟩ : ByteArray), z25, ([] : List S31)⟩
def F31 (d : Kd S31) : Kd S31 := Kd.iso (Kd.pair (Kd.int .i64) (Kd.pair Kd.bool (Kd.pair (Kd.int .i64) (Kd.pair Kd.string (Kd.pair k25 (Kd.slice 31 d)))))) (fun x : S31 => (x.f0, x.f1, x.f2, x.f3, x.f4, x.f5))
theorem mono31 : Kd.Mono F31 := Kd.mono_iso _ (Kd.mono_pair (Kd.mono_const _) (Kd.mono_pair (Kd.mono_const _) (Kd.mono_pair (Kd.mono_const _) (Kd.mono_pair (Kd.mono_const _) (Kd.mono_pair (Kd.mono_const _) (Kd.mono_slice 31 Kd.mono_id))))))
theorem sub31 : Kd.Sub F31 [31] := Kd.sub_iso _ (Kd.sub_pair (Kd.sub_const _ (by decide)) (Kd.sub_pair (Kd.sub_const _ (by decide)) (Kd.sub_pair (Kd.sub_const _ (by decide)) (Kd.sub_pair (Kd.sub_const _ (by decide)) (Kd.sub_pair (Kd.sub_const _ (by decide)) (Kd.sub_slice 31 (by decide) Kd.sub_id))))))
theorem sz31 : ∀ n, (Kd.upto F31 7 [31] n).sz = 7 := Kd.upto_sz (fun _ => rfl)
def k31 : Kd S31 := Kd.fix F31 7 [31] sz31 (Kd.upto_E sub31)
theorem k31_open {w : World} {x : S31} {cs : List Value} (h : k31.K w x cs) : ∃ A6 c6, cs = [.int .i64 x.f0, .bool x.f1, .int .i64 x.f2, .string x.f3, .string x.f4.f0, .string x.f4.f1, .slice A6 x.f5.length c6] ∧ x.f5.length ≤ c6 ∧ k31.C w A6 x.f5.length x.f5 := by
  obtain ⟨n, h⟩ := h
  cases n with
  | zero => exact h.elim
  | succ n =>
    obtain ⟨_, _, rfl, rfl, ⟨_, _, rfl, rfl, ⟨_, _, rfl, rfl, ⟨_, _, rfl, rfl, ⟨_, _, rfl, s4, ⟨A6, c6, rfl, l6, g6⟩⟩⟩⟩⟩⟩ := h
    obtain rfl := k25_open s4
    exact ⟨A6, c6, rfl, l6, Kd.fix_C g6⟩
theorem k31_openM {w : World} {base : Nat} {ok : Nat → Prop} {x : S31} {cs : List Value} (h : k31.M w base ok x cs) : ∃ v6, cs = [.int .i64 x.f0, .bool x.f1, .int .i64 x.f2, .string x.f3, .string x.f4.f0, .string x.f4.f1, v6] ∧ k31.R 31 w base ok v6 x.f5 := by
  obtain ⟨n, h⟩ := h
  cases n with
  | zero => exact h.elim
  | succ n =>
    obtain ⟨_, _, rfl, rfl, ⟨_, _, rfl, rfl, ⟨_, _, rfl, rfl, ⟨_, _, rfl, rfl, ⟨_, _, rfl, s4, ⟨v6, rfl, g6⟩⟩⟩⟩⟩⟩ := h
    obtain rfl := k25_openM s4
    exact ⟨v6, rfl, Kd.fix_R g6⟩
theorem k31_mk (w : World) (x : S31) {A6 : Option Addr} {c6 : Nat} (l6 : x.f5.length ≤ c6) (g6 : k31.C w A6 x.f5.length x.f5) : k31.K w x [.int .i64 x.f0, .bool x.f1, .int .i64 x.f2, .string x.f3, .string x.f4.f0, .string x.f4.f1, .slice A6 x.f5.length c6] := by
  obtain ⟨n6, q6⟩ := Kd.fix_C_back mono31 g6
  have r6 := Kd.upto_C_le mono31 sz31 (show n6 ≤ n6 by omega) q6
  exact ⟨n6 + 1, ⟨[.int .i64 x.f0], [.bool x.f1, .int .i64 x.f2, .string x.f3, .string x.f4.f0, .string x.f4.f1, .slice A6 x.f5.length c6], rfl, rfl, ⟨[.bool x.f1], [.int .i64 x.f2, .string x.f3, .string x.f4.f0, .string x.f4.f1, .slice A6 x.f5.length c6], rfl, rfl, ⟨[.int .i64 x.f2], [.string x.f3, .string x.f4.f0, .string x.f4.f1, .slice A6 x.f5.length c6], rfl, rfl, ⟨[.string x.f3], [.string x.f4.f0, .string x.f4.f1, .slice A6 x.f5.length c6], rfl, rfl, ⟨[.string x.f4.f0, .string x.f4.f1], [.slice A6 x.f5.length c6], rfl, (k25_mk w x.f4 ), ⟨A6, c6, rfl, l6, r6⟩⟩⟩⟩⟩⟩⟩
theorem k31_mkM (w : World) (base : Nat) (ok : Nat → Prop) (x : S31) {v6 : Value} (g6 : k31.R 31 w base ok v6 x.f5) : k31.M w base ok x [.int .i64 x.f0, .bool x.f1, .int .i64 x.f2, .string x.f3, .string x.f4.f0, .string x.f4.f1, v6] := by
  obtain ⟨n6, q6⟩ := Kd.fix_R_back mono31 g6
  have r6 := Kd.upto_R_le mono31 sz31 (show n6 ≤ n6 by omega) q6
  exact ⟨n6 + 1, ⟨[.int .i64 x.f0], [.bool x.f1, .int .i64 x.f2, .string x.f3, .string x.f4.f0, .string x.f4.f1, v6], rfl, rfl, ⟨[.bool x.f1], [.int .i64 x.f2, .string x.f3, .string x.f4.f0, .string x.f4.f1, v6], rfl, rfl, ⟨[.int .i64 x.f2], [.string x.f3, .string x.f4.f0, .string x.f4.f1, v6], rfl, rfl, ⟨[.string x.f3], [.string x.f4.f0, .string x.f4.f1, v6], rfl, rfl, ⟨[.string x.f4.f0, .string x.f4.f1], [v6], rfl, (k25_mkM w base ok x.f4 ), ⟨v6, rfl, r6⟩⟩⟩⟩⟩⟩⟩
def rd_T31 (xs : List S31) (i : Int) : S31 := xs.getD i.toNat z31
theorem at_T31 {w : World} {A : Option Addr} {n : Nat} {xs : List S31} (h : Kd.C k31 w A n xs) (i : Int) (h0 : 0 ≤ i) (h1 : i < n) : ∃ ad A6 c6, A = some ad ∧ w.cell? (ad.add (i.toNat * 7)) = some (.int .i64 (rd_T31 xs i).f0) ∧ w.cell? ⟨(ad.add (i.toNat * 7)).block, (ad.add (i.toNat * 7)).off + 1, none⟩ = some (.bool (rd_T31 xs i).f1) ∧ w.cell? ⟨(ad.add (i.toNat * 7)).block, (ad.add (i.toNat * 7)).off + 2, none⟩ = some (.int .i64 (rd_T31 xs i).f2) ∧ w.cell? ⟨(ad.add (i.toNat * 7)).block, (ad.add (i.toNat * 7)).off + 3, none⟩ = some (.string (rd_T31 xs i).f3) ∧ w.cell? ⟨(ad.add (i.toNat * 7)).block, (ad.add (i.toNat * 7)).off + 4, none⟩ = some (.string (rd_T31 xs i).f4.f0) ∧ w.cell? ⟨(ad.add (i.toNat * 7)).block, (ad.add (i.toNat * 7)).off + 5, none⟩ = some (.string (rd_T31 xs i).f4.f1) ∧ w.cell? ⟨(ad.add (i.toNat * 7)).block, (ad.add (i.toNat * 7)).off + 6, none⟩ = some (.slice A6 (rd_T31 xs i).f5.length c6) ∧ (rd_T31 xs i).f5.length ≤ c6 ∧ k31.C w A6 (rd_T31 xs i).f5.length (rd_T31 xs i).f5 := by
  obtain ⟨ad, c, e, _, hK, hc0⟩ := Kd.C_get h z31 i h0 h1
  have hc : ∀ j u, c[j]? = some u → w.cell? (ad.add (i.toNat * 7 + j)) = some u := hc0
  obtain ⟨A6, c6, rfl, l6, g6⟩ := k31_open hK
  exact ⟨ad, A6, c6, e, hc 0 _ rfl, by rw [← add_field _ _ 1 (by omega)]; exact hc 1 _ rfl, by rw [← add_field _ _ 2 (by omega)]; exact hc 2 _ rfl, by rw [← add_field _ _ 3 (by omega)]; exact hc 3 _ rfl, by rw [← add_field _ _ 4 (by omega)]; exact hc 4 _ rfl, by rw [← add_field _ _ 5 (by omega)]; exact hc 5 _ rfl, by rw [← add_field _ _ 6 (by omega)]; exact hc 6 _ rfl, l6, g6⟩

def rd_L5 (xs : List (List S25)) (i : Int) : (List S25) := xs.getD i.toNat ([] : List S25)
theorem at_L5 {w : World} {A : Option Addr} {n : Nat} {xs : List (List S25)} (h : Kd.C (Kd.slice 25 k25) w A n xs) (i : Int) (h0 : 0 ≤ i) (h1 : i < n) : ∃ ad A0 c0, A = some ad ∧ w.cell? (ad.add i.toNat) = some (.slice A0 (rd_L5 xs i).length c0) ∧ (rd_L5 xs i).length ≤ c0 ∧ k25.C w A0 (rd_L5 xs i).length (rd_L5 xs i) := by
  obtain ⟨ad, c, e, _, hK, hc0⟩ := Kd.C_get h ([] : List S25) i h0 h1
  have hc : ∀ j u, c[j]? = some u → w.cell? (ad.add (i.toNat * 1 + j)) = some u := hc0
  obtain ⟨A0, c0, rfl, l0, g0⟩ := hK
  exact ⟨ad, A0, c0, e, by have hq := hc 0 _ rfl; rwa [Nat.mul_one, Nat.add_zero] at hq, l0, g0⟩

/-! #### struct type 101 -/
structure S101 where
  f0 : ByteArray
  f1 : S31
def z101 : S101 := ⟨(⟨#[]⟩ : ByteArray), z31⟩
def k101 : Kd S101 := Kd.iso (Kd.pair Kd.string k31) (fun x : S101 => (x.f0, x.f1))
theorem k101_open {w : World} {x : S101} {cs : List Value} (h : k101.K w x cs) : ∃ A7 c7, cs = [.string x.f0, .int .i64 x.f1.f0, .bool x.f1.f1, .int .i64 x.f1.f2, .string x.f1.f3, .string x.f1.f4.f0, .string x.f1.f4.f1, .slice A7 x.f1.f5.length c7] ∧ x.f1.f5.length ≤ c7 ∧ k31.C w A7 x.f1.f5.length x.f1.f5 := by
  obtain ⟨_, _, rfl, rfl, s1⟩ := h
  obtain ⟨A7, c7, rfl, l7, g7⟩ := k31_open s1
  exact ⟨A7, c7, rfl, l7, g7⟩
theorem k101_openM {w : World} {base : Nat} {ok : Nat → Prop} {x : S101} {cs : List Value} (h : k101.M w base ok x cs) : ∃ v7, cs = [.string x.f0, .int .i64 x.f1.f0, .bool x.f1.f1, .int .i64 x.f1.f2, .string x.f1.f3, .string x.f1.f4.f0, .string x.f1.f4.f1, v7] ∧ k31.R 31 w base ok v7 x.f1.f5 := by
  obtain ⟨_, _, rfl, rfl, s1⟩ := h
  obtain ⟨v7, rfl, g7⟩ := k31_openM s1
  exact ⟨v7, rfl, g7⟩
theorem k101_mk (w : World) (x : S101) {A7 : Option Addr} {c7 : Nat} (l7 : x.f1.f5.length ≤ c7) (g7 : k31.C w A7 x.f1.f5.length x.f1.f5) : k101.K w x [.string x.f0, .int .i64 x.f1.f0, .bool x.f1.f1, .int .i64 x.f1.f2, .string x.f1.f3, .string x.f1.f4.f0, .string x.f1.f4.f1, .slice A7 x.f1.f5.length c7] := ⟨[.string x.f0], [.int .i64 x.f1.f0, .bool x.f1.f1, .int .i64 x.f1.f2, .string x.f1.f3, .string x.f1.f4.f0, .string x.f1.f4.f1, .slice A7 x.f1.f5.length c7], rfl, rfl, (k31_mk w x.f1 l7 g7)⟩
theorem k101_mkM (w : World) (base : Nat) (ok : Nat → Prop) (x : S101) {v7 : Value} (g7 : k31.R 31 w base ok v7 x.f1.f5) : k101.M w base ok x [.string x.f0, .int .i64 x.f1.f0, .bool x.f1.f1, .int .i64 x.f1.f2, .string x.f1.f3, .string x.f1.f4.f0, .string x.f1.f4.f1, v7] := ⟨[.string x.f0], [.int .i64 x.f1.f0, .bool x.f1.f1, .int .i64 x.f1.f2, .string x.f1.f3, .string x.f1.f4.f0, .string x.f1.f4.f1, v7], rfl, rfl, (k31_mkM w base ok x.f1 g7)⟩
def rd_T101 (xs : List S101) (i : Int) : S101 := xs.getD i.toNat z101
theorem at_T101 {w : World} {A : Option Addr} {n : Nat} {xs : List S101} (h : Kd.C k101 w A n xs) (i : Int) (h0 : 0 ≤ i) (h1 : i < n) : ∃ ad A7 c7, A = some ad ∧ w.cell? (ad.add (i.toNat * 8)) = some (.string (rd_T101 xs i).f0) ∧ w.cell? ⟨(ad.add (i.toNat * 8)).block, (ad.add (i.toNat * 8)).off + 1, none⟩ = some (.int .i64 (rd_T101 xs i).f1.f0) ∧ w.cell? ⟨(ad.add (i.toNat * 8)).block, (ad.add (i.toNat * 8)).off + 2, none⟩ = some (.bool (rd_T101 xs i).f1.f1) ∧ w.cell? ⟨(ad.add (i.toNat * 8)).block, (ad.add (i.toNat * 8)).off + 3, none⟩ = some (.int .i64 (rd_T101 xs i).f1.f2) ∧ w.cell? ⟨(ad.add (i.toNat * 8)).block, (ad.add (i.toNat * 8)).off + 4, none⟩ = some (.string (rd_T101 xs i).f1.f3) ∧ w.cell? ⟨(ad.add (i.toNat * 8)).block, (ad.add (i.toNat * 8)).off + 5, none⟩ = some (.string (rd_T101 xs i).f1.f4.f0) ∧ w.cell? ⟨(ad.add (i.toNat * 8)).block, (ad.add (i.toNat * 8)).off + 6, none⟩ = some (.string (rd_T101 xs i).f1.f4.f1) ∧ w.cell? ⟨(ad.add (i.toNat * 8)).block, (ad.add (i.toNat * 8)).off + 7, none⟩ = some (.slice A7 (rd_T101 xs i).f1.f5.length c7) ∧ (rd_T101 xs i).f1.f5.length ≤ c7 ∧ k31.C w A7 (rd_T101 xs i).f1.f5.length (rd_T101 xs i).f1.f5 := by
  obtain ⟨ad, c, e, _, hK, hc0⟩ := Kd.C_get h z101 i h0 h1
  have hc : ∀ j u, c[j]? = some u → w.cell? (ad.add (i.toNat * 8 + j)) = some u := hc0
  obtain ⟨A7, c7, rfl, l7, g7⟩ := k101_open hK
  exact ⟨ad, A7, c7, e, hc 0 _ rfl, by rw [← add_field _ _ 1 (by omega)]; exact hc 1 _ rfl, by rw [← add_field _ _ 2 (by omega)]; exact hc 2 _ rfl, by rw [← add_field _ _ 3 (by omega)]; exact hc 3 _ rfl, by rw [← add_field _ _ 4 (by omega)]; exact hc 4 _ rfl, by rw [← add_field _ _ 5 (by omega)]; exact hc 5 _ rfl, by rw [← add_field _ _ 6 (by omega)]; exact hc 6 _ rfl, by rw [← add_field _ _ 7 (by omega)]; exact hc 7 _ rfl, l7, g7⟩

def rd_L7 (xs : List (List S101)) (i : Int) : (List S101) := xs.getD i.toNat ([] : List S101)
theorem at_L7 {w : World} {A : Option Addr} {n : Nat} {xs : List (List S101)} (h : Kd.C (Kd.slice 101 k101) w A n xs) (i : Int) (h0 : 0 ≤ i) (h1 : i < n) : ∃ ad A0 c0, A = some ad ∧ w.cell? (ad.add i.toNat) = some (.slice A0 (rd_L7 xs i).length c0) ∧ (rd_L7 xs i).length ≤ c0 ∧ k101.C w A0 (rd_L7 xs i).length (rd_L7 xs i) := by
  obtain ⟨ad, c, e, _, hK, hc0⟩ := Kd.C_get h ([] : List S101) i h0 h1
  have hc : ∀ j u, c[j]? = some u → w.cell? (ad.add (i.toNat * 1 + j)) = some u := hc0
  obtain ⟨A0, c0, rfl, l0, g0⟩ := hK
  exact ⟨ad, A0, c0, e, by have hq := hc 0 _ rfl; rwa [Nat.mul_one, Nat.add_zero] at hq, l0, g0⟩

/-! #### struct type 76 -/
structure S76 where
  f0 : S25
  f1 : (List S25)
  f2 : (List S101)
def z76 : S76 := ⟨z25, ([] : List S25), ([] : List S101)⟩
def k76 : Kd S76 := Kd.iso (Kd.pair k25 (Kd.pair (Kd.slice 25 k25) (Kd.slice 101 k101))) (fun x : S76 => (x.f0, x.f1, x.f2))
theorem k76_open {w : World} {x : S76} {cs : List Value} (h : k76.K w x cs) : ∃ A2 c2 A3 c3, cs = [.string x.f0.f0, .string x.f0.f1, .slice A2 x.f1.length c2, .slice A3 x.f2.length c3] ∧ x.f1.length ≤ c2 ∧ k25.C w A2 x.f1.length x.f1 ∧ x.f2.length ≤ c3 ∧ k101.C w A3 x.f2.length x.f2 := by
  obtain ⟨_, _, rfl, s0, ⟨_, _, rfl, ⟨A2, c2, rfl, l2, g2⟩, ⟨A3, c3, rfl, l3, g3⟩⟩⟩ := h
  obtain rfl := k25_open s0
  exact ⟨A2, c2, A3, c3, rfl, l2, g2, l3, g3⟩
theorem k76_openM {w : World} {base : Nat} {ok : Nat → Prop} {x : S76} {cs : List Value} (h : k76.M w base ok x cs) : ∃ v2 v3, cs = [.string x.f0.f0, .string x.f0.f1, v2, v3] ∧ k25.R 25 w base ok v2 x.f1 ∧ k101.R 101 w base ok v3 x.f2 := by
  obtain ⟨_, _, rfl, s0, ⟨_, _, rfl, ⟨v2, rfl, g2⟩, ⟨v3, rfl, g3⟩⟩⟩ := h
  obtain rfl := k25_openM s0
  exact ⟨v2, v3, rfl, g2, g3⟩
theorem k76_mk (w : World) (x : S76) {A2 : Option Addr} {c2 : Nat} (l2 : x.f1.length ≤ c2) (g2 : k25.C w A2 x.f1.length x.f1) {A3 : Option Addr} {c3 : Nat} (l3 : x.f2.length ≤ c3) (g3 : k101.C w A3 x.f2.length x.f2) : k76.K w x [.string x.f0.f0, .string x.f0.f1, .slice A2 x.f1.length c2, .slice A3 x.f2.length c3] := ⟨[.string x.f0.f0, .string x.f0.f1], [.slice A2 x.f1.length c2, .slice A3 x.f2.length c3], rfl, (k25_mk w x.f0 ), ⟨[.slice A2 x.f1.length c2], [.slice A3 x.f2.length c3], rfl, ⟨A2, c2, rfl, l2, g2⟩, ⟨A3, c3, rfl, l3, g3⟩⟩⟩
theorem k76_mkM (w : World) (base : Nat) (ok : Nat → Prop) (x : S76) {v2 : Value} (g2 : k25.R 25 w base ok v2 x.f1) {v3 : Value} (g3 : k101.R 101 w base ok v3 x.f2) : k76.M w base ok x [.string x.f0.f0, .string x.f0.f1, v2, v3] := ⟨[.string x.f0.f0, .string x.f0.f1], [v2, v3], rfl, (k25_mkM w base ok x.f0 ), ⟨[v2], [v3], rfl, ⟨v2, rfl, g2⟩, ⟨v3, rfl, g3⟩⟩⟩
def rd_T76 (xs : List S76) (i : Int) : S76 := xs.getD i.toNat z76
theorem at_T76 {w : World} {A : Option Addr} {n : Nat} {xs : List S76} (h : Kd.C k76 w A n xs) (i : Int) (h0 : 0 ≤ i) (h1 : i < n) : ∃ ad A2 c2 A3 c3, A = some ad ∧ w.cell? (ad.add (i.toNat * 4)) = some (.string (rd_T76 xs i).f0.f0) ∧ w.cell? ⟨(ad.add (i.toNat * 4)).block, (ad.add (i.toNat * 4)).off + 1, none⟩ = some (.string (rd_T76 xs i).f0.f1) ∧ w.cell? ⟨(ad.add (i.toNat * 4)).block, (ad.add (i.toNat * 4)).off + 2, none⟩ = some (.slice A2 (rd_T76 xs i).f1.length c2) ∧ w.cell? ⟨(ad.add (i.toNat * 4)).block, (ad.add (i.toNat * 4)).off + 3, none⟩ = some (.slice A3 (rd_T76 xs i).f2.length c3) ∧ (rd_T76 xs i).f1.length ≤ c2 ∧ k25.C w A2 (rd_T76 xs i).f1.length (rd_T76 xs i).f1 ∧ (rd_T76 xs i).f2.length ≤ c3 ∧ k101.C w A3 (rd_T76 xs i).f2.length (rd_T76 xs i).f2 := by
  obtain ⟨ad, c, e, _, hK, hc0⟩ := Kd.C_get h z76 i h0 h1
  have hc : ∀ j u, c[j]? = some u → w.cell? (ad.add (i.toNat * 4 + j)) = some u := hc0
  obtain ⟨A2, c2, A3, c3, rfl, l2, g2, l3, g3⟩ := k76_open hK
  exact ⟨ad, A2, c2, A3, c3, e, hc 0 _ rfl, by rw [← add_field _ _ 1 (by omega)]; exact hc 1 _ rfl, by rw [← add_field _ _ 2 (by omega)]; exact hc 2 _ rfl, by rw [← add_field _ _ 3 (by omega)]; exact hc 3 _ rfl, l2, g2, l3, g3⟩

/-! #### struct type 28, nested in itself -/
structure S28 where
  f0 : Int
  f1 : Bool
  f2 : Int
  f3 : ByteArray
  f4 : S25
  f5 : (List S28)
def z28 : S28 := ⟨(0 : Int), false, (0 : Int), (⟨#[]⟩ : ByteArray), z25, ([] : List S28)⟩
def F28 (d : Kd S28) : Kd S28 := Kd.iso (Kd.pair (Kd.int .i64) (Kd.pair Kd.bool (Kd.pair (Kd.int .i64) (Kd.pair Kd.string (Kd.pair k25 (Kd.slice 28 d)))))) (fun x : S28 => (x.f0, x.f1, x.f2, x.f3, x.f4, x.f5))
theorem mono28 : Kd.Mono F28 := Kd.mono_iso _ (Kd.mono_pair (Kd.mono_const _) (Kd.mono_pair (Kd.mono_const _) (Kd.mono_pair (Kd.mono_const _) (Kd.mono_pair (Kd.mono_const _) (Kd.mono_pair (Kd.mono_const _) (Kd.mono_slice 28 Kd.mono_id))))))
theorem sub28 : Kd.Sub F28 [28] := Kd.sub_iso _ (Kd.sub_pair (Kd.sub_const _ (by decide)) (Kd.sub_pair (Kd.sub_const _ (by decide)) (Kd.sub_pair (Kd.sub_const _ (by decide)) (Kd.sub_pair (Kd.sub_const _ (by decide)) (Kd.sub_pair (Kd.sub_const _ (by decide)) (Kd.sub_slice 28 (by decide) Kd.sub_id))))))
theorem sz28 : ∀ n, (Kd.upto F28 7 [28] n).sz = 7 := Kd.upto_sz (fun _ => rfl)
def k28 : Kd S28 := Kd.fix F28 7 [28] sz28 (Kd.upto_E sub28)
theorem k28_open {w : World} {x : S28} {cs : List Value} (h : k28.K w x cs) : ∃ A6 c6, cs = [.int .i64 x.f0, .bool x.f1, .int .i64 x.f2, .string x.f3, .string x.f4.f0, .string x.f4.f1, .slice A6 x.f5.length c6] ∧ x.f5.length ≤ c6 ∧ k28.C w A6 x.f5.length x.f5 := by
  obtain ⟨n, h⟩ := h
  cases n with
  | zero => exact h.elim
  | succ n =>
    obtain ⟨_, _, rfl, rfl, ⟨_, _, rfl, rfl, ⟨_, _, rfl, rfl, ⟨_, _, rfl, rfl, ⟨_, _, rfl, s4, ⟨A6, c6, rfl, l6, g6⟩⟩⟩⟩⟩⟩ := h
    obtain rfl := k25_open s4
    exact ⟨A6, c6, rfl, l6, Kd.fix_C g6⟩
theorem k28_openM {w : World} {base : Nat} {ok : Nat → Prop} {x : S28} {cs : List Value} (h : k28.M w base ok x cs) : ∃ v6, cs = [.int .i64 x.f0, .bool x.f1, .int .i64 x.f2, .string x.f3, .string x.f4.f0, .string x.f4.f1, v6] ∧ k28.R 28 w base ok v6 x.f5 := by
  obtain ⟨n, h⟩ := h
  cases n with
  | zero => exact h.elim
  | succ n =>
    obtain ⟨_, _, rfl, rfl, ⟨_, _, rfl, rfl, ⟨_, _, rfl, rfl, ⟨_, _, rfl, rfl, ⟨_, _, rfl, s4, ⟨v6, rfl, g6⟩⟩⟩⟩⟩⟩ := h
    obtain rfl := k25_openM s4
    exact ⟨v6, rfl, Kd.fix_R g6⟩
theorem k28_mk (w : World) (x : S28) {A6 : Option Addr} {c6 : Nat} (l6 : x.f5.length ≤ c6) (g6 : k28.C w A6 x.f5.length x.f5) : k28.K w x [.int .i64 x.f0, .bool x.f1, .int .i64 x.f2, .string x.f3, .string x.f4.f0, .string x.f4.f1, .slice A6 x.f5.length c6] := by
  obtain ⟨n6, q6⟩ := Kd.fix_C_back mono28 g6
  have r6 := Kd.upto_C_le mono28 sz28 (show n6 ≤ n6 by omega) q6
  exact ⟨n6 + 1, ⟨[.int .i64 x.f0], [.bool x.f1, .int .i64 x.f2, .string x.f3, .string x.f4.f0, .string x.f4.f1, .slice A6 x.f5.length c6], rfl, rfl, ⟨[.bool x.f1], [.int .i64 x.f2, .string x.f3, .string x.f4.f0, .string x.f4.f1, .slice A6 x.f5.length c6], rfl, rfl, ⟨[.int .i64 x.f2], [.string x.f3, .string x.f4.f0, .string x.f4.f1, .slice A6 x.f5.length c6], rfl, rfl, ⟨[.string x.f3], [.string x.f4.f0, .string x.f4.f1, .slice A6 x.f5.length c6], rfl, rfl, ⟨[.string x.f4.f0, .string x.f4.f1], [.slice A6 x.f5.length c6], rfl, (k25_mk w x.f4 ), ⟨A6, c6, rfl, l6, r6⟩⟩⟩⟩⟩⟩⟩
theorem k28_mkM (w : World) (base : Nat) (ok : Nat → Prop) (x : S28) {v6 : Value} (g6 : k28.R 28 w base ok v6 x.f5) : k28.M w base ok x [.int .i64 x.f0, .bool x.f1, .int .i64 x.f2, .string x.f3, .string x.f4.f0, .string x.f4.f1, v6] := by
  obtain ⟨n6, q6⟩ := Kd.fix_R_back mono28 g6
  have r6 := Kd.upto_R_le mono28 sz28 (show n6 ≤ n6 by omega) q6
  exact ⟨n6 + 1, ⟨[.int .i64 x.f0], [.bool x.f1, .int .i64 x.f2, .string x.f3, .string x.f4.f0, .string x.f4.f1, v6], rfl, rfl, ⟨[.bool x.f1], [.int .i64 x.f2, .string x.f3, .string x.f4.f0, .string x.f4.f1, v6], rfl, rfl, ⟨[.int .i64 x.f2], [.string x.f3, .string x.f4.f0, .string x.f4.f1, v6], rfl, rfl, ⟨[.string x.f3], [.string x.f4.f0, .string x.f4.f1, v6], rfl, rfl, ⟨[.string x.f4.f0, .string x.f4.f1], [v6], rfl, (k25_mkM w base ok x.f4 ), ⟨v6, rfl, r6⟩⟩⟩⟩⟩⟩⟩
def rd_T28 (xs : List S28) (i : Int) : S28 := xs.getD i.toNat z28
theorem at_T28 {w : World} {A : Option Addr} {n : Nat} {xs : List S28} (h : Kd.C k28 w A n xs) (i : Int) (h0 : 0 ≤ i) (h1 : i < n) : ∃ ad A6 c6, A = some ad ∧ w.cell? (ad.add (i.toNat * 7)) = some (.int .i64 (rd_T28 xs i).f0) ∧ w.cell? ⟨(ad.add (i.toNat * 7)).block, (ad.add (i.toNat * 7)).off + 1, none⟩ = some (.bool (rd_T28 xs i).f1) ∧ w.cell? ⟨(ad.add (i.toNat * 7)).block, (ad.add (i.toNat * 7)).off + 2, none⟩ = some (.int .i64 (rd_T28 xs i).f2) ∧ w.cell? ⟨(ad.add (i.toNat * 7)).block, (ad.add (i.toNat * 7)).off + 3, none⟩ = some (.string (rd_T28 xs i).f3) ∧ w.cell? ⟨(ad.add (i.toNat * 7)).block, (ad.add (i.toNat * 7)).off + 4, none⟩ = some (.string (rd_T28 xs i).f4.f0) ∧ w.cell? ⟨(ad.add (i.toNat * 7)).block, (ad.add (i.toNat * 7)).off + 5, none⟩ = some (.string (rd_T28 xs i).f4.f1) ∧ w.cell? ⟨(ad.add (i.toNat * 7)).block, (ad.add (i.toNat * 7)).off + 6, none⟩ = some (.slice A6 (rd_T28 xs i).f5.length c6) ∧ (rd_T28 xs i).f5.length ≤ c6 ∧ k28.C w A6 (rd_T28 xs i).f5.length (rd_T28 xs i).f5 := by
  obtain ⟨ad, c, e, _, hK, hc0⟩ := Kd.C_get h z28 i h0 h1
  have hc : ∀ j u, c[j]? = some u → w.cell? (ad.add (i.toNat * 7 + j)) = some u := hc0
  obtain ⟨A6, c6, rfl, l6, g6⟩ := k28_open hK
  exact ⟨ad, A6, c6, e, hc 0 _ rfl, by rw [← add_field _ _ 1 (by omega)]; exact hc 1 _ rfl, by rw [← add_field _ _ 2 (by omega)]; exact hc 2 _ rfl, by rw [← add_field _ _ 3 (by omega)]; exact hc 3 _ rfl, by rw [← add_field _ _ 4 (by omega)]; exact hc 4 _ rfl, by rw [← add_field _ _ 5 (by omega)]; exact hc 5 _ rfl, by rw [← add_field _ _ 6 (by omega)]; exact hc 6 _ rfl, l6, g6⟩

end Go.Proofs.Ytakkmhcidbamjaa.GV
