-- Written by wip/tools/gprint.py over the kit's printer.
import Derived.Test.YtfmghijmcgkpiaaProg
import Derived.Below
import Derived.Deep.Draws
import Derived.Deep.AppendLies
import Derived.Maps.AppendAt
import Derived.OwnWalk
import Derived.Laws.BytesArg
import Derived.Laws.MakeOwn
import Derived.Laws.OwnMore
import Derived.Deep.OwnRows
import Derived.Tactics
import Derived.Lib.ConvBytes
import Derived.Laws.Slices
import Derived.WalkKit
import Derived.KernelRfl
import Derived.RowKit3
import Derived.Deep.LoopGhost
import Derived.Deep.QuietTactic
import Derived.BigQuiet
import Derived.WideLaws
import Derived.Deep.DeepCutAuto
import Derived.Deep.CutBlock
import Derived.Deep.RegionHeld3
import Derived.Laws.Rows
import Derived.Lib.AppendStr
import Derived.ArgAppend
import Derived.Laws.IdiomCopy
import Derived.OrdersHeld
import Derived.Laws.BitsLemmas
import Derived.RowKit
import Derived.Test.YtfmghijmcgkpiaaHandV
import Derived.Test.YtfmghijmcgkpiaaWWords
import Derived.Test.YtfmghijmcgkpiaaWLast
import Derived.Test.YtfmghijmcgkpiaaWTab
import Derived.Test.YtfmghijmcgkpiaaWFour
import Derived.Test.YtfmghijmcgkpiaaWQPut
import Derived.Test.YtfmghijmcgkpiaaWApart
import Derived.Test.YtfmghijmcgkpiaaWArr
import Derived.Test.YtfmghijmcgkpiaaWZeros
import Derived.Test.YtfmghijmcgkpiaaWFoot
import Derived.Test.YtfmghijmcgkpiaaWKept
import Derived.Test.YtfmghijmcgkpiaaWShare
import Derived.Test.YtfmghijmcgkpiaaWN
import Derived.Test.YtfmghijmcgkpiaaWFootNe
import Derived.Test.YtfmghijmcgkpiaaWAt
import Derived.Test.YtfmghijmcgkpiaaWEqStruct
import Derived.Test.YtfmghijmcgkpiaaWRepsOne
import Derived.Test.YtfmghijmcgkpiaaWInv
import Derived.Test.YtfmghijmcgkpiaaWInvWords
import Derived.Test.YtfmghijmcgkpiaaWGuard
import Derived.Test.YtfmghijmcgkpiaaWNEv
import Derived.Test.YtfmghijmcgkpiaaWMore
namespace Go.Proofs.Ytfmghijmcgkpiaa.GS
open Go.RowKit Go.Proofs.YtfmghijmcgkpiaaW.PrintWords Go.Proofs.YtfmghijmcgkpiaaW.PrintLast Go.Proofs.Ytfmghijmcgkpiaa.HandV Go.Proofs.YtfmghijmcgkpiaaW.PrintMore
attribute [local go_sem] max2_int min2_int max_two min_two max_three min_three max_four min_four   -- for this text's walks alone
set_option linter.unusedVariables false
set_option linter.unusedSimpArgs false



def errW : Option Int → Value
  | none => .nilIface
  | some c => .iface 0 (.int .i64 c)
theorem errW_none : errW none = .nilIface := rfl
theorem errW_some (c : Int) : errW (some c) = .iface 0 (.int .i64 c) := rfl

theorem info67 : (Try.prog.info? 67).map (fun i => (i.zero, i.size, i.bytes)) = some (some (.agg #[(.int .i64 0), (.bool false), (.int .i64 0), (.string ⟨#[]⟩), (.string ⟨#[]⟩), (.string ⟨#[]⟩), (.slice none 0 0)]), 7, 96) := by kernel_rfl
-- the values' own types
/-! #### struct type 28 -/
structure S28 where
  f0 : ByteArray
  f1 : ByteArray
def z28 : S28 := ⟨(⟨#[]⟩ : ByteArray), (⟨#[]⟩ : ByteArray)⟩
def k28 : Kd S28 := Kd.iso (Kd.pair Kd.string Kd.string) (fun x : S28 => (x.f0, x.f1))
theorem k28_open {w : World} {x : S28} {cs : List Value} (h : k28.K w x cs) : cs = [.string x.f0, .string x.f1] := by
  obtain ⟨_, _, rfl, rfl, rfl⟩ := h
  exact rfl
theorem k28_openM {w : World} {base : Nat} {ok : Nat → Prop} {x : S28} {cs : List Value} (h : k28.M w base ok x cs) : cs = [.string x.f0, .string x.f1] := by
  obtain ⟨_, _, rfl, rfl, rfl⟩ := h
  exact rfl
theorem k28_mk (w : World) (x : S28)  : k28.K w x [.string x.f0, .string x.f1] := ⟨[.string x.f0], [.string x.f1], rfl, rfl, rfl⟩
theorem k28_mkM (w : World) (base : Nat) (ok : Nat → Prop) (x : S28)  : k28.M w base ok x [.string x.f0, .string x.f1] := ⟨[.string x.f0], [.string x.f1], rfl, rfl, rfl⟩
theorem k28_mkF (W : World) (ok : Nat → Prop) (x : S28) : Kd.FK k28 W ok x [.string x.f0, .string x.f1] := fun W2 _ => k28_mk W2 x
def rd_T28 (xs : List S28) (i : Int) : S28 := xs.getD i.toNat z28
theorem at_T28 {w : World} {A : Option Addr} {n : Nat} {xs : List S28} (h : Kd.C k28 w A n xs) (i : Int) (h0 : 0 ≤ i) (h1 : i < n) : ∃ ad , A = some ad ∧ w.cell? (ad.add (i.toNat * 2)) = some (.string (rd_T28 xs i).f0) ∧ w.cell? ⟨(ad.add (i.toNat * 2)).block, (ad.add (i.toNat * 2)).off + 1, none⟩ = some (.string (rd_T28 xs i).f1) := by
  obtain ⟨ad, c, e, _, hK, hc0⟩ := Kd.C_get h z28 i h0 h1
  have hc : ∀ j u, c[j]? = some u → w.cell? (ad.add (i.toNat * 2 + j)) = some u := hc0
  obtain rfl := k28_open hK
  exact ⟨ad, e, hc 0 _ rfl, by rw [← add_field _ _ 1 (by omega)]; exact hc 1 _ rfl⟩

/-! #### struct type 31, nested in itself -/
structure S31 where
  f0 : Int
  f1 : Bool
  f2 : Int
  f3 : ByteArray
  f4 : S28
  f5 : (List S31)
def z31 : S31 := ⟨(0 : Int), false, (0 : Int), (⟨#[]⟩ : ByteArray), z28, ([] : List S31)⟩
def F31 (d : Kd S31) : Kd S31 := Kd.iso (Kd.pair (Kd.int .i64) (Kd.pair Kd.bool (Kd.pair (Kd.int .i64) (Kd.pair Kd.string (Kd.pair k28 (Kd.slice 31 d)))))) (fun x : S31 => (x.f0, x.f1, x.f2, x.f3, x.f4, x.f5))
theorem mono31 : Kd.Mono F31 := Kd.mono_iso _ (Kd.mono_pair (Kd.mono_const _) (Kd.mono_pair (Kd.mono_const _) (Kd.mono_pair (Kd.mono_const _) (Kd.mono_pair (Kd.mono_const _) (Kd.mono_pair (Kd.mono_const _) (Kd.mono_slice 31 Kd.mono_id))))))
theorem sub31 : Kd.Sub F31 [31] := Kd.sub_iso _ (Kd.sub_pair (Kd.sub_const _ (by decide)) (Kd.sub_pair (Kd.sub_const _ (by decide)) (Kd.sub_pair (Kd.sub_const _ (by decide)) (Kd.sub_pair (Kd.sub_const _ (by decide)) (Kd.sub_pair (Kd.sub_const _ (by decide)) (Kd.sub_slice 31 (by decide) Kd.sub_id))))))
theorem sz31 : ∀ n, (Kd.upto F31 7 [31] n).sz = 7 := Kd.upto_sz (fun _ => rfl)
def k31 : Kd S31 := Kd.fix F31 7 [31] sz31 (Kd.upto_E sub31)
theorem k31_open {w : World} {x : S31} {cs : List Value} (h : k31.K w x cs) : ∃ A6 c6, cs = [.int .i64 x.f0, .bool x.f1, .int .i64 x.f2, .string x.f3, .string x.f4.f0, .string x.f4.f1, .slice A6 x.f5.length c6] ∧ x.f5.length ≤ c6 ∧ k31.C w A6 x.f5.length x.f5 := by
  obtain ⟨n, h⟩ := h
  cases n with
  | zero => exact h.elim
  | succ n =>
    obtain ⟨_, _, rfl, rfl, ⟨_, _, rfl, rfl, ⟨_, _, rfl, rfl, ⟨_, _, rfl, rfl, ⟨_, _, rfl, s4, ⟨A6, c6, rfl, l6, g6⟩⟩⟩⟩⟩⟩ := h
    obtain rfl := k28_open s4
    exact ⟨A6, c6, rfl, l6, Kd.fix_C g6⟩
theorem k31_openM {w : World} {base : Nat} {ok : Nat → Prop} {x : S31} {cs : List Value} (h : k31.M w base ok x cs) : ∃ v6, cs = [.int .i64 x.f0, .bool x.f1, .int .i64 x.f2, .string x.f3, .string x.f4.f0, .string x.f4.f1, v6] ∧ k31.R 31 w base ok v6 x.f5 := by
  obtain ⟨n, h⟩ := h
  cases n with
  | zero => exact h.elim
  | succ n =>
    obtain ⟨_, _, rfl, rfl, ⟨_, _, rfl, rfl, ⟨_, _, rfl, rfl, ⟨_, _, rfl, rfl, ⟨_, _, rfl, s4, ⟨v6, rfl, g6⟩⟩⟩⟩⟩⟩ := h
    obtain rfl := k28_openM s4
    exact ⟨v6, rfl, Kd.fix_R g6⟩
theorem k31_mk (w : World) (x : S31) {A6 : Option Addr} {c6 : Nat} (l6 : x.f5.length ≤ c6) (g6 : k31.C w A6 x.f5.length x.f5) : k31.K w x [.int .i64 x.f0, .bool x.f1, .int .i64 x.f2, .string x.f3, .string x.f4.f0, .string x.f4.f1, .slice A6 x.f5.length c6] := by
  obtain ⟨n6, q6⟩ := Kd.fix_C_back mono31 g6
  have r6 := Kd.upto_C_le mono31 sz31 (show n6 ≤ n6 by omega) q6
  exact ⟨n6 + 1, ⟨[.int .i64 x.f0], [.bool x.f1, .int .i64 x.f2, .string x.f3, .string x.f4.f0, .string x.f4.f1, .slice A6 x.f5.length c6], rfl, rfl, ⟨[.bool x.f1], [.int .i64 x.f2, .string x.f3, .string x.f4.f0, .string x.f4.f1, .slice A6 x.f5.length c6], rfl, rfl, ⟨[.int .i64 x.f2], [.string x.f3, .string x.f4.f0, .string x.f4.f1, .slice A6 x.f5.length c6], rfl, rfl, ⟨[.string x.f3], [.string x.f4.f0, .string x.f4.f1, .slice A6 x.f5.length c6], rfl, rfl, ⟨[.string x.f4.f0, .string x.f4.f1], [.slice A6 x.f5.length c6], rfl, (k28_mk w x.f4 ), ⟨A6, c6, rfl, l6, r6⟩⟩⟩⟩⟩⟩⟩
theorem k31_mkM (w : World) (base : Nat) (ok : Nat → Prop) (x : S31) {v6 : Value} (g6 : k31.R 31 w base ok v6 x.f5) : k31.M w base ok x [.int .i64 x.f0, .bool x.f1, .int .i64 x.f2, .string x.f3, .string x.f4.f0, .string x.f4.f1, v6] := by
  obtain ⟨n6, q6⟩ := Kd.fix_R_back mono31 g6
  have r6 := Kd.upto_R_le mono31 sz31 (show n6 ≤ n6 by omega) q6
  exact ⟨n6 + 1, ⟨[.int .i64 x.f0], [.bool x.f1, .int .i64 x.f2, .string x.f3, .string x.f4.f0, .string x.f4.f1, v6], rfl, rfl, ⟨[.bool x.f1], [.int .i64 x.f2, .string x.f3, .string x.f4.f0, .string x.f4.f1, v6], rfl, rfl, ⟨[.int .i64 x.f2], [.string x.f3, .string x.f4.f0, .string x.f4.f1, v6], rfl, rfl, ⟨[.string x.f3], [.string x.f4.f0, .string x.f4.f1, v6], rfl, rfl, ⟨[.string x.f4.f0, .string x.f4.f1], [v6], rfl, (k28_mkM w base ok x.f4 ), ⟨v6, rfl, r6⟩⟩⟩⟩⟩⟩⟩
theorem k31_openF {W : World} {ok : Nat → Prop} {x : S31} {cs : List Value} (h : Kd.FK k31 W ok x cs) : ∃ A6 c6, cs = [.int .i64 x.f0, .bool x.f1, .int .i64 x.f2, .string x.f3, .string x.f4.f0, .string x.f4.f1, .slice A6 x.f5.length c6] ∧ x.f5.length ≤ c6 ∧ Kd.F k31 W ok A6 x.f5.length x.f5 := by
  obtain ⟨A6, c6, rfl, l6, _⟩ := k31_open (Kd.FK_now h)
  exact ⟨A6, c6, rfl, l6, (fun W' hW => by obtain ⟨A6_, c6_, he, l6_, g6_⟩ := k31_open (h W' hW); injection (Option.some.inj (show some (Value.slice A6 x.f5.length c6) = some (Value.slice A6_ x.f5.length c6_) from congrArg (fun l => l[6]?) he)) with ha_ _ _; rw [ha_]; exact g6_)⟩
theorem k31_mkF (W : World) (ok : Nat → Prop) (x : S31) {A6 : Option Addr} {c6 : Nat} (l6 : x.f5.length ≤ c6) (g6 : Kd.F k31 W ok A6 x.f5.length x.f5) : Kd.FK k31 W ok x [.int .i64 x.f0, .bool x.f1, .int .i64 x.f2, .string x.f3, .string x.f4.f0, .string x.f4.f1, .slice A6 x.f5.length c6] := fun W2 hW => k31_mk W2 x l6 (g6 W2 hW)
def rd_T31 (xs : List S31) (i : Int) : S31 := xs.getD i.toNat z31
theorem at_T31 {w : World} {A : Option Addr} {n : Nat} {xs : List S31} (h : Kd.C k31 w A n xs) (i : Int) (h0 : 0 ≤ i) (h1 : i < n) : ∃ ad A6 c6, A = some ad ∧ w.cell? (ad.add (i.toNat * 7)) = some (.int .i64 (rd_T31 xs i).f0) ∧ w.cell? ⟨(ad.add (i.toNat * 7)).block, (ad.add (i.toNat * 7)).off + 1, none⟩ = some (.bool (rd_T31 xs i).f1) ∧ w.cell? ⟨(ad.add (i.toNat * 7)).block, (ad.add (i.toNat * 7)).off + 2, none⟩ = some (.int .i64 (rd_T31 xs i).f2) ∧ w.cell? ⟨(ad.add (i.toNat * 7)).block, (ad.add (i.toNat * 7)).off + 3, none⟩ = some (.string (rd_T31 xs i).f3) ∧ w.cell? ⟨(ad.add (i.toNat * 7)).block, (ad.add (i.toNat * 7)).off + 4, none⟩ = some (.string (rd_T31 xs i).f4.f0) ∧ w.cell? ⟨(ad.add (i.toNat * 7)).block, (ad.add (i.toNat * 7)).off + 5, none⟩ = some (.string (rd_T31 xs i).f4.f1) ∧ w.cell? ⟨(ad.add (i.toNat * 7)).block, (ad.add (i.toNat * 7)).off + 6, none⟩ = some (.slice A6 (rd_T31 xs i).f5.length c6) ∧ (rd_T31 xs i).f5.length ≤ c6 ∧ k31.C w A6 (rd_T31 xs i).f5.length (rd_T31 xs i).f5 := by
  obtain ⟨ad, c, e, _, hK, hc0⟩ := Kd.C_get h z31 i h0 h1
  have hc : ∀ j u, c[j]? = some u → w.cell? (ad.add (i.toNat * 7 + j)) = some u := hc0
  obtain ⟨A6, c6, rfl, l6, g6⟩ := k31_open hK
  exact ⟨ad, A6, c6, e, hc 0 _ rfl, by rw [← add_field _ _ 1 (by omega)]; exact hc 1 _ rfl, by rw [← add_field _ _ 2 (by omega)]; exact hc 2 _ rfl, by rw [← add_field _ _ 3 (by omega)]; exact hc 3 _ rfl, by rw [← add_field _ _ 4 (by omega)]; exact hc 4 _ rfl, by rw [← add_field _ _ 5 (by omega)]; exact hc 5 _ rfl, by rw [← add_field _ _ 6 (by omega)]; exact hc 6 _ rfl, l6, g6⟩

def rd_L5 (xs : List (List S28)) (i : Int) : (List S28) := xs.getD i.toNat ([] : List S28)
theorem at_L5 {w : World} {A : Option Addr} {n : Nat} {xs : List (List S28)} (h : Kd.C (Kd.slice 28 k28) w A n xs) (i : Int) (h0 : 0 ≤ i) (h1 : i < n) : ∃ ad A0 c0, A = some ad ∧ w.cell? (ad.add i.toNat) = some (.slice A0 (rd_L5 xs i).length c0) ∧ (rd_L5 xs i).length ≤ c0 ∧ k28.C w A0 (rd_L5 xs i).length (rd_L5 xs i) := by
  obtain ⟨ad, c, e, _, hK, hc0⟩ := Kd.C_get h ([] : List S28) i h0 h1
  have hc : ∀ j u, c[j]? = some u → w.cell? (ad.add (i.toNat * 1 + j)) = some u := hc0
  obtain ⟨A0, c0, rfl, l0, g0⟩ := hK
  exact ⟨ad, A0, c0, e, by have hq := hc 0 _ rfl; rwa [Nat.mul_one, Nat.add_zero] at hq, l0, g0⟩

/-! #### struct type 49 -/
structure S49 where
  f0 : ByteArray
  f1 : S31
def z49 : S49 := ⟨(⟨#[]⟩ : ByteArray), z31⟩
def k49 : Kd S49 := Kd.iso (Kd.pair Kd.string k31) (fun x : S49 => (x.f0, x.f1))
theorem k49_open {w : World} {x : S49} {cs : List Value} (h : k49.K w x cs) : ∃ A7 c7, cs = [.string x.f0, .int .i64 x.f1.f0, .bool x.f1.f1, .int .i64 x.f1.f2, .string x.f1.f3, .string x.f1.f4.f0, .string x.f1.f4.f1, .slice A7 x.f1.f5.length c7] ∧ x.f1.f5.length ≤ c7 ∧ k31.C w A7 x.f1.f5.length x.f1.f5 := by
  obtain ⟨_, _, rfl, rfl, s1⟩ := h
  obtain ⟨A7, c7, rfl, l7, g7⟩ := k31_open s1
  exact ⟨A7, c7, rfl, l7, g7⟩
theorem k49_openM {w : World} {base : Nat} {ok : Nat → Prop} {x : S49} {cs : List Value} (h : k49.M w base ok x cs) : ∃ v7, cs = [.string x.f0, .int .i64 x.f1.f0, .bool x.f1.f1, .int .i64 x.f1.f2, .string x.f1.f3, .string x.f1.f4.f0, .string x.f1.f4.f1, v7] ∧ k31.R 31 w base ok v7 x.f1.f5 := by
  obtain ⟨_, _, rfl, rfl, s1⟩ := h
  obtain ⟨v7, rfl, g7⟩ := k31_openM s1
  exact ⟨v7, rfl, g7⟩
theorem k49_mk (w : World) (x : S49) {A7 : Option Addr} {c7 : Nat} (l7 : x.f1.f5.length ≤ c7) (g7 : k31.C w A7 x.f1.f5.length x.f1.f5) : k49.K w x [.string x.f0, .int .i64 x.f1.f0, .bool x.f1.f1, .int .i64 x.f1.f2, .string x.f1.f3, .string x.f1.f4.f0, .string x.f1.f4.f1, .slice A7 x.f1.f5.length c7] := ⟨[.string x.f0], [.int .i64 x.f1.f0, .bool x.f1.f1, .int .i64 x.f1.f2, .string x.f1.f3, .string x.f1.f4.f0, .string x.f1.f4.f1, .slice A7 x.f1.f5.length c7], rfl, rfl, (k31_mk w x.f1 l7 g7)⟩
theorem k49_mkM (w : World) (base : Nat) (ok : Nat → Prop) (x : S49) {v7 : Value} (g7 : k31.R 31 w base ok v7 x.f1.f5) : k49.M w base ok x [.string x.f0, .int .i64 x.f1.f0, .bool x.f1.f1, .int .i64 x.f1.f2, .string x.f1.f3, .string x.f1.f4.f0, .string x.f1.f4.f1, v7] := ⟨[.string x.f0], [.int .i64 x.f1.f0, .bool x.f1.f1, .int .i64 x.f1.f2, .string x.f1.f3, .string x.f1.f4.f0, .string x.f1.f4.f1, v7], rfl, rfl, (k31_mkM w base ok x.f1 g7)⟩
theorem k49_openF {W : World} {ok : Nat → Prop} {x : S49} {cs : List Value} (h : Kd.FK k49 W ok x cs) : ∃ A7 c7, cs = [.string x.f0, .int .i64 x.f1.f0, .bool x.f1.f1, .int .i64 x.f1.f2, .string x.f1.f3, .string x.f1.f4.f0, .string x.f1.f4.f1, .slice A7 x.f1.f5.length c7] ∧ x.f1.f5.length ≤ c7 ∧ Kd.F k31 W ok A7 x.f1.f5.length x.f1.f5 := by
  obtain ⟨A7, c7, rfl, l7, _⟩ := k49_open (Kd.FK_now h)
  exact ⟨A7, c7, rfl, l7, (fun W' hW => by obtain ⟨A7_, c7_, he, l7_, g7_⟩ := k49_open (h W' hW); injection (Option.some.inj (show some (Value.slice A7 x.f1.f5.length c7) = some (Value.slice A7_ x.f1.f5.length c7_) from congrArg (fun l => l[7]?) he)) with ha_ _ _; rw [ha_]; exact g7_)⟩
theorem k49_mkF (W : World) (ok : Nat → Prop) (x : S49) {A7 : Option Addr} {c7 : Nat} (l7 : x.f1.f5.length ≤ c7) (g7 : Kd.F k31 W ok A7 x.f1.f5.length x.f1.f5) : Kd.FK k49 W ok x [.string x.f0, .int .i64 x.f1.f0, .bool x.f1.f1, .int .i64 x.f1.f2, .string x.f1.f3, .string x.f1.f4.f0, .string x.f1.f4.f1, .slice A7 x.f1.f5.length c7] := fun W2 hW => k49_mk W2 x l7 (g7 W2 hW)
def rd_T49 (xs : List S49) (i : Int) : S49 := xs.getD i.toNat z49
theorem at_T49 {w : World} {A : Option Addr} {n : Nat} {xs : List S49} (h : Kd.C k49 w A n xs) (i : Int) (h0 : 0 ≤ i) (h1 : i < n) : ∃ ad A7 c7, A = some ad ∧ w.cell? (ad.add (i.toNat * 8)) = some (.string (rd_T49 xs i).f0) ∧ w.cell? ⟨(ad.add (i.toNat * 8)).block, (ad.add (i.toNat * 8)).off + 1, none⟩ = some (.int .i64 (rd_T49 xs i).f1.f0) ∧ w.cell? ⟨(ad.add (i.toNat * 8)).block, (ad.add (i.toNat * 8)).off + 2, none⟩ = some (.bool (rd_T49 xs i).f1.f1) ∧ w.cell? ⟨(ad.add (i.toNat * 8)).block, (ad.add (i.toNat * 8)).off + 3, none⟩ = some (.int .i64 (rd_T49 xs i).f1.f2) ∧ w.cell? ⟨(ad.add (i.toNat * 8)).block, (ad.add (i.toNat * 8)).off + 4, none⟩ = some (.string (rd_T49 xs i).f1.f3) ∧ w.cell? ⟨(ad.add (i.toNat * 8)).block, (ad.add (i.toNat * 8)).off + 5, none⟩ = some (.string (rd_T49 xs i).f1.f4.f0) ∧ w.cell? ⟨(ad.add (i.toNat * 8)).block, (ad.add (i.toNat * 8)).off + 6, none⟩ = some (.string (rd_T49 xs i).f1.f4.f1) ∧ w.cell? ⟨(ad.add (i.toNat * 8)).block, (ad.add (i.toNat * 8)).off + 7, none⟩ = some (.slice A7 (rd_T49 xs i).f1.f5.length c7) ∧ (rd_T49 xs i).f1.f5.length ≤ c7 ∧ k31.C w A7 (rd_T49 xs i).f1.f5.length (rd_T49 xs i).f1.f5 := by
  obtain ⟨ad, c, e, _, hK, hc0⟩ := Kd.C_get h z49 i h0 h1
  have hc : ∀ j u, c[j]? = some u → w.cell? (ad.add (i.toNat * 8 + j)) = some u := hc0
  obtain ⟨A7, c7, rfl, l7, g7⟩ := k49_open hK
  exact ⟨ad, A7, c7, e, hc 0 _ rfl, by rw [← add_field _ _ 1 (by omega)]; exact hc 1 _ rfl, by rw [← add_field _ _ 2 (by omega)]; exact hc 2 _ rfl, by rw [← add_field _ _ 3 (by omega)]; exact hc 3 _ rfl, by rw [← add_field _ _ 4 (by omega)]; exact hc 4 _ rfl, by rw [← add_field _ _ 5 (by omega)]; exact hc 5 _ rfl, by rw [← add_field _ _ 6 (by omega)]; exact hc 6 _ rfl, by rw [← add_field _ _ 7 (by omega)]; exact hc 7 _ rfl, l7, g7⟩

def rd_L7 (xs : List (List S49)) (i : Int) : (List S49) := xs.getD i.toNat ([] : List S49)
theorem at_L7 {w : World} {A : Option Addr} {n : Nat} {xs : List (List S49)} (h : Kd.C (Kd.slice 49 k49) w A n xs) (i : Int) (h0 : 0 ≤ i) (h1 : i < n) : ∃ ad A0 c0, A = some ad ∧ w.cell? (ad.add i.toNat) = some (.slice A0 (rd_L7 xs i).length c0) ∧ (rd_L7 xs i).length ≤ c0 ∧ k49.C w A0 (rd_L7 xs i).length (rd_L7 xs i) := by
  obtain ⟨ad, c, e, _, hK, hc0⟩ := Kd.C_get h ([] : List S49) i h0 h1
  have hc : ∀ j u, c[j]? = some u → w.cell? (ad.add (i.toNat * 1 + j)) = some u := hc0
  obtain ⟨A0, c0, rfl, l0, g0⟩ := hK
  exact ⟨ad, A0, c0, e, by have hq := hc 0 _ rfl; rwa [Nat.mul_one, Nat.add_zero] at hq, l0, g0⟩

/-! #### struct type 46 -/
structure S46 where
  f0 : S28
  f1 : (List S28)
  f2 : (List S49)
def z46 : S46 := ⟨z28, ([] : List S28), ([] : List S49)⟩
def k46 : Kd S46 := Kd.iso (Kd.pair k28 (Kd.pair (Kd.slice 28 k28) (Kd.slice 49 k49))) (fun x : S46 => (x.f0, x.f1, x.f2))
theorem k46_open {w : World} {x : S46} {cs : List Value} (h : k46.K w x cs) : ∃ A2 c2 A3 c3, cs = [.string x.f0.f0, .string x.f0.f1, .slice A2 x.f1.length c2, .slice A3 x.f2.length c3] ∧ x.f1.length ≤ c2 ∧ k28.C w A2 x.f1.length x.f1 ∧ x.f2.length ≤ c3 ∧ k49.C w A3 x.f2.length x.f2 := by
  obtain ⟨_, _, rfl, s0, ⟨_, _, rfl, ⟨A2, c2, rfl, l2, g2⟩, ⟨A3, c3, rfl, l3, g3⟩⟩⟩ := h
  obtain rfl := k28_open s0
  exact ⟨A2, c2, A3, c3, rfl, l2, g2, l3, g3⟩
theorem k46_openM {w : World} {base : Nat} {ok : Nat → Prop} {x : S46} {cs : List Value} (h : k46.M w base ok x cs) : ∃ v2 v3, cs = [.string x.f0.f0, .string x.f0.f1, v2, v3] ∧ k28.R 28 w base ok v2 x.f1 ∧ k49.R 49 w base ok v3 x.f2 := by
  obtain ⟨_, _, rfl, s0, ⟨_, _, rfl, ⟨v2, rfl, g2⟩, ⟨v3, rfl, g3⟩⟩⟩ := h
  obtain rfl := k28_openM s0
  exact ⟨v2, v3, rfl, g2, g3⟩
theorem k46_mk (w : World) (x : S46) {A2 : Option Addr} {c2 : Nat} (l2 : x.f1.length ≤ c2) (g2 : k28.C w A2 x.f1.length x.f1) {A3 : Option Addr} {c3 : Nat} (l3 : x.f2.length ≤ c3) (g3 : k49.C w A3 x.f2.length x.f2) : k46.K w x [.string x.f0.f0, .string x.f0.f1, .slice A2 x.f1.length c2, .slice A3 x.f2.length c3] := ⟨[.string x.f0.f0, .string x.f0.f1], [.slice A2 x.f1.length c2, .slice A3 x.f2.length c3], rfl, (k28_mk w x.f0 ), ⟨[.slice A2 x.f1.length c2], [.slice A3 x.f2.length c3], rfl, ⟨A2, c2, rfl, l2, g2⟩, ⟨A3, c3, rfl, l3, g3⟩⟩⟩
theorem k46_mkM (w : World) (base : Nat) (ok : Nat → Prop) (x : S46) {v2 : Value} (g2 : k28.R 28 w base ok v2 x.f1) {v3 : Value} (g3 : k49.R 49 w base ok v3 x.f2) : k46.M w base ok x [.string x.f0.f0, .string x.f0.f1, v2, v3] := ⟨[.string x.f0.f0, .string x.f0.f1], [v2, v3], rfl, (k28_mkM w base ok x.f0 ), ⟨[v2], [v3], rfl, ⟨v2, rfl, g2⟩, ⟨v3, rfl, g3⟩⟩⟩
theorem k46_openF {W : World} {ok : Nat → Prop} {x : S46} {cs : List Value} (h : Kd.FK k46 W ok x cs) : ∃ A2 c2 A3 c3, cs = [.string x.f0.f0, .string x.f0.f1, .slice A2 x.f1.length c2, .slice A3 x.f2.length c3] ∧ x.f1.length ≤ c2 ∧ Kd.F k28 W ok A2 x.f1.length x.f1 ∧ x.f2.length ≤ c3 ∧ Kd.F k49 W ok A3 x.f2.length x.f2 := by
  obtain ⟨A2, c2, A3, c3, rfl, l2, _, l3, _⟩ := k46_open (Kd.FK_now h)
  exact ⟨A2, c2, A3, c3, rfl, l2, (fun W' hW => by obtain ⟨A2_, c2_, A3_, c3_, he, l2_, g2_, l3_, g3_⟩ := k46_open (h W' hW); injection (Option.some.inj (show some (Value.slice A2 x.f1.length c2) = some (Value.slice A2_ x.f1.length c2_) from congrArg (fun l => l[2]?) he)) with ha_ _ _; rw [ha_]; exact g2_), l3, (fun W' hW => by obtain ⟨A2_, c2_, A3_, c3_, he, l2_, g2_, l3_, g3_⟩ := k46_open (h W' hW); injection (Option.some.inj (show some (Value.slice A3 x.f2.length c3) = some (Value.slice A3_ x.f2.length c3_) from congrArg (fun l => l[3]?) he)) with ha_ _ _; rw [ha_]; exact g3_)⟩
theorem k46_mkF (W : World) (ok : Nat → Prop) (x : S46) {A2 : Option Addr} {c2 : Nat} (l2 : x.f1.length ≤ c2) (g2 : Kd.F k28 W ok A2 x.f1.length x.f1) {A3 : Option Addr} {c3 : Nat} (l3 : x.f2.length ≤ c3) (g3 : Kd.F k49 W ok A3 x.f2.length x.f2) : Kd.FK k46 W ok x [.string x.f0.f0, .string x.f0.f1, .slice A2 x.f1.length c2, .slice A3 x.f2.length c3] := fun W2 hW => k46_mk W2 x l2 (g2 W2 hW) l3 (g3 W2 hW)
def rd_T46 (xs : List S46) (i : Int) : S46 := xs.getD i.toNat z46
theorem at_T46 {w : World} {A : Option Addr} {n : Nat} {xs : List S46} (h : Kd.C k46 w A n xs) (i : Int) (h0 : 0 ≤ i) (h1 : i < n) : ∃ ad A2 c2 A3 c3, A = some ad ∧ w.cell? (ad.add (i.toNat * 4)) = some (.string (rd_T46 xs i).f0.f0) ∧ w.cell? ⟨(ad.add (i.toNat * 4)).block, (ad.add (i.toNat * 4)).off + 1, none⟩ = some (.string (rd_T46 xs i).f0.f1) ∧ w.cell? ⟨(ad.add (i.toNat * 4)).block, (ad.add (i.toNat * 4)).off + 2, none⟩ = some (.slice A2 (rd_T46 xs i).f1.length c2) ∧ w.cell? ⟨(ad.add (i.toNat * 4)).block, (ad.add (i.toNat * 4)).off + 3, none⟩ = some (.slice A3 (rd_T46 xs i).f2.length c3) ∧ (rd_T46 xs i).f1.length ≤ c2 ∧ k28.C w A2 (rd_T46 xs i).f1.length (rd_T46 xs i).f1 ∧ (rd_T46 xs i).f2.length ≤ c3 ∧ k49.C w A3 (rd_T46 xs i).f2.length (rd_T46 xs i).f2 := by
  obtain ⟨ad, c, e, _, hK, hc0⟩ := Kd.C_get h z46 i h0 h1
  have hc : ∀ j u, c[j]? = some u → w.cell? (ad.add (i.toNat * 4 + j)) = some u := hc0
  obtain ⟨A2, c2, A3, c3, rfl, l2, g2, l3, g3⟩ := k46_open hK
  exact ⟨ad, A2, c2, A3, c3, e, hc 0 _ rfl, by rw [← add_field _ _ 1 (by omega)]; exact hc 1 _ rfl, by rw [← add_field _ _ 2 (by omega)]; exact hc 2 _ rfl, by rw [← add_field _ _ 3 (by omega)]; exact hc 3 _ rfl, l2, g2, l3, g3⟩

/-! #### struct type 67, nested in itself -/
structure S67 where
  f0 : Int
  f1 : Bool
  f2 : Int
  f3 : ByteArray
  f4 : S28
  f5 : (List S67)
def z67 : S67 := ⟨(0 : Int), false, (0 : Int), (⟨#[]⟩ : ByteArray), z28, ([] : List S67)⟩
def F67 (d : Kd S67) : Kd S67 := Kd.iso (Kd.pair (Kd.int .i64) (Kd.pair Kd.bool (Kd.pair (Kd.int .i64) (Kd.pair Kd.string (Kd.pair k28 (Kd.slice 67 d)))))) (fun x : S67 => (x.f0, x.f1, x.f2, x.f3, x.f4, x.f5))
theorem mono67 : Kd.Mono F67 := Kd.mono_iso _ (Kd.mono_pair (Kd.mono_const _) (Kd.mono_pair (Kd.mono_const _) (Kd.mono_pair (Kd.mono_const _) (Kd.mono_pair (Kd.mono_const _) (Kd.mono_pair (Kd.mono_const _) (Kd.mono_slice 67 Kd.mono_id))))))
theorem sub67 : Kd.Sub F67 [67] := Kd.sub_iso _ (Kd.sub_pair (Kd.sub_const _ (by decide)) (Kd.sub_pair (Kd.sub_const _ (by decide)) (Kd.sub_pair (Kd.sub_const _ (by decide)) (Kd.sub_pair (Kd.sub_const _ (by decide)) (Kd.sub_pair (Kd.sub_const _ (by decide)) (Kd.sub_slice 67 (by decide) Kd.sub_id))))))
theorem sz67 : ∀ n, (Kd.upto F67 7 [67] n).sz = 7 := Kd.upto_sz (fun _ => rfl)
def k67 : Kd S67 := Kd.fix F67 7 [67] sz67 (Kd.upto_E sub67)
theorem k67_open {w : World} {x : S67} {cs : List Value} (h : k67.K w x cs) : ∃ A6 c6, cs = [.int .i64 x.f0, .bool x.f1, .int .i64 x.f2, .string x.f3, .string x.f4.f0, .string x.f4.f1, .slice A6 x.f5.length c6] ∧ x.f5.length ≤ c6 ∧ k67.C w A6 x.f5.length x.f5 := by
  obtain ⟨n, h⟩ := h
  cases n with
  | zero => exact h.elim
  | succ n =>
    obtain ⟨_, _, rfl, rfl, ⟨_, _, rfl, rfl, ⟨_, _, rfl, rfl, ⟨_, _, rfl, rfl, ⟨_, _, rfl, s4, ⟨A6, c6, rfl, l6, g6⟩⟩⟩⟩⟩⟩ := h
    obtain rfl := k28_open s4
    exact ⟨A6, c6, rfl, l6, Kd.fix_C g6⟩
theorem k67_openM {w : World} {base : Nat} {ok : Nat → Prop} {x : S67} {cs : List Value} (h : k67.M w base ok x cs) : ∃ v6, cs = [.int .i64 x.f0, .bool x.f1, .int .i64 x.f2, .string x.f3, .string x.f4.f0, .string x.f4.f1, v6] ∧ k67.R 67 w base ok v6 x.f5 := by
  obtain ⟨n, h⟩ := h
  cases n with
  | zero => exact h.elim
  | succ n =>
    obtain ⟨_, _, rfl, rfl, ⟨_, _, rfl, rfl, ⟨_, _, rfl, rfl, ⟨_, _, rfl, rfl, ⟨_, _, rfl, s4, ⟨v6, rfl, g6⟩⟩⟩⟩⟩⟩ := h
    obtain rfl := k28_openM s4
    exact ⟨v6, rfl, Kd.fix_R g6⟩
theorem k67_mk (w : World) (x : S67) {A6 : Option Addr} {c6 : Nat} (l6 : x.f5.length ≤ c6) (g6 : k67.C w A6 x.f5.length x.f5) : k67.K w x [.int .i64 x.f0, .bool x.f1, .int .i64 x.f2, .string x.f3, .string x.f4.f0, .string x.f4.f1, .slice A6 x.f5.length c6] := by
  obtain ⟨n6, q6⟩ := Kd.fix_C_back mono67 g6
  have r6 := Kd.upto_C_le mono67 sz67 (show n6 ≤ n6 by omega) q6
  exact ⟨n6 + 1, ⟨[.int .i64 x.f0], [.bool x.f1, .int .i64 x.f2, .string x.f3, .string x.f4.f0, .string x.f4.f1, .slice A6 x.f5.length c6], rfl, rfl, ⟨[.bool x.f1], [.int .i64 x.f2, .string x.f3, .string x.f4.f0, .string x.f4.f1, .slice A6 x.f5.length c6], rfl, rfl, ⟨[.int .i64 x.f2], [.string x.f3, .string x.f4.f0, .string x.f4.f1, .slice A6 x.f5.length c6], rfl, rfl, ⟨[.string x.f3], [.string x.f4.f0, .string x.f4.f1, .slice A6 x.f5.length c6], rfl, rfl, ⟨[.string x.f4.f0, .string x.f4.f1], [.slice A6 x.f5.length c6], rfl, (k28_mk w x.f4 ), ⟨A6, c6, rfl, l6, r6⟩⟩⟩⟩⟩⟩⟩
theorem k67_mkM (w : World) (base : Nat) (ok : Nat → Prop) (x : S67) {v6 : Value} (g6 : k67.R 67 w base ok v6 x.f5) : k67.M w base ok x [.int .i64 x.f0, .bool x.f1, .int .i64 x.f2, .string x.f3, .string x.f4.f0, .string x.f4.f1, v6] := by
  obtain ⟨n6, q6⟩ := Kd.fix_R_back mono67 g6
  have r6 := Kd.upto_R_le mono67 sz67 (show n6 ≤ n6 by omega) q6
  exact ⟨n6 + 1, ⟨[.int .i64 x.f0], [.bool x.f1, .int .i64 x.f2, .string x.f3, .string x.f4.f0, .string x.f4.f1, v6], rfl, rfl, ⟨[.bool x.f1], [.int .i64 x.f2, .string x.f3, .string x.f4.f0, .string x.f4.f1, v6], rfl, rfl, ⟨[.int .i64 x.f2], [.string x.f3, .string x.f4.f0, .string x.f4.f1, v6], rfl, rfl, ⟨[.string x.f3], [.string x.f4.f0, .string x.f4.f1, v6], rfl, rfl, ⟨[.string x.f4.f0, .string x.f4.f1], [v6], rfl, (k28_mkM w base ok x.f4 ), ⟨v6, rfl, r6⟩⟩⟩⟩⟩⟩⟩
theorem k67_openF {W : World} {ok : Nat → Prop} {x : S67} {cs : List Value} (h : Kd.FK k67 W ok x cs) : ∃ A6 c6, cs = [.int .i64 x.f0, .bool x.f1, .int .i64 x.f2, .string x.f3, .string x.f4.f0, .string x.f4.f1, .slice A6 x.f5.length c6] ∧ x.f5.length ≤ c6 ∧ Kd.F k67 W ok A6 x.f5.length x.f5 := by
  obtain ⟨A6, c6, rfl, l6, _⟩ := k67_open (Kd.FK_now h)
  exact ⟨A6, c6, rfl, l6, (fun W' hW => by obtain ⟨A6_, c6_, he, l6_, g6_⟩ := k67_open (h W' hW); injection (Option.some.inj (show some (Value.slice A6 x.f5.length c6) = some (Value.slice A6_ x.f5.length c6_) from congrArg (fun l => l[6]?) he)) with ha_ _ _; rw [ha_]; exact g6_)⟩
theorem k67_mkF (W : World) (ok : Nat → Prop) (x : S67) {A6 : Option Addr} {c6 : Nat} (l6 : x.f5.length ≤ c6) (g6 : Kd.F k67 W ok A6 x.f5.length x.f5) : Kd.FK k67 W ok x [.int .i64 x.f0, .bool x.f1, .int .i64 x.f2, .string x.f3, .string x.f4.f0, .string x.f4.f1, .slice A6 x.f5.length c6] := fun W2 hW => k67_mk W2 x l6 (g6 W2 hW)
def rd_T67 (xs : List S67) (i : Int) : S67 := xs.getD i.toNat z67
theorem at_T67 {w : World} {A : Option Addr} {n : Nat} {xs : List S67} (h : Kd.C k67 w A n xs) (i : Int) (h0 : 0 ≤ i) (h1 : i < n) : ∃ ad A6 c6, A = some ad ∧ w.cell? (ad.add (i.toNat * 7)) = some (.int .i64 (rd_T67 xs i).f0) ∧ w.cell? ⟨(ad.add (i.toNat * 7)).block, (ad.add (i.toNat * 7)).off + 1, none⟩ = some (.bool (rd_T67 xs i).f1) ∧ w.cell? ⟨(ad.add (i.toNat * 7)).block, (ad.add (i.toNat * 7)).off + 2, none⟩ = some (.int .i64 (rd_T67 xs i).f2) ∧ w.cell? ⟨(ad.add (i.toNat * 7)).block, (ad.add (i.toNat * 7)).off + 3, none⟩ = some (.string (rd_T67 xs i).f3) ∧ w.cell? ⟨(ad.add (i.toNat * 7)).block, (ad.add (i.toNat * 7)).off + 4, none⟩ = some (.string (rd_T67 xs i).f4.f0) ∧ w.cell? ⟨(ad.add (i.toNat * 7)).block, (ad.add (i.toNat * 7)).off + 5, none⟩ = some (.string (rd_T67 xs i).f4.f1) ∧ w.cell? ⟨(ad.add (i.toNat * 7)).block, (ad.add (i.toNat * 7)).off + 6, none⟩ = some (.slice A6 (rd_T67 xs i).f5.length c6) ∧ (rd_T67 xs i).f5.length ≤ c6 ∧ k67.C w A6 (rd_T67 xs i).f5.length (rd_T67 xs i).f5 := by
  obtain ⟨ad, c, e, _, hK, hc0⟩ := Kd.C_get h z67 i h0 h1
  have hc : ∀ j u, c[j]? = some u → w.cell? (ad.add (i.toNat * 7 + j)) = some u := hc0
  obtain ⟨A6, c6, rfl, l6, g6⟩ := k67_open hK
  exact ⟨ad, A6, c6, e, hc 0 _ rfl, by rw [← add_field _ _ 1 (by omega)]; exact hc 1 _ rfl, by rw [← add_field _ _ 2 (by omega)]; exact hc 2 _ rfl, by rw [← add_field _ _ 3 (by omega)]; exact hc 3 _ rfl, by rw [← add_field _ _ 4 (by omega)]; exact hc 4 _ rfl, by rw [← add_field _ _ 5 (by omega)]; exact hc 5 _ rfl, by rw [← add_field _ _ 6 (by omega)]; exact hc 6 _ rfl, l6, g6⟩

end Go.Proofs.Ytfmghijmcgkpiaa.GS
