import Derived.Test.YtnjlggpidkbjcaaProg
import Derived.Below
import Derived.Deep.Draws
import Derived.Deep.AppendLies
import Derived.Maps.AppendAt
import Derived.OwnWalk
import Derived.Laws.BytesArg
import Derived.Laws.MakeOwn
import Derived.Laws.OwnMore
import Derived.Deep.OwnRows
import Derived.Tactics
import Derived.Lib.ConvBytes
import Derived.Laws.Slices
import Derived.WalkKit
import Derived.KernelRfl
import Derived.RowKit3
import Derived.Deep.LoopGhost
import Derived.Deep.QuietTactic
import Derived.BigQuiet
import Derived.WideLaws
import Derived.Deep.DeepCutAuto
import Derived.Deep.CutBlock
import Derived.Deep.RegionHeld3
import Derived.Laws.Rows
import Derived.Lib.AppendStr
import Derived.ArgAppend
import Derived.Laws.IdiomCopy
import Derived.OrdersHeld
import Derived.Laws.BitsLemmas
import Derived.RowKit
import Derived.Test.YtnjlggpidkbjcaaHandV
import Derived.Test.YtnjlggpidkbjcaaWWords
import Derived.Test.YtnjlggpidkbjcaaWLast
import Derived.Test.YtnjlggpidkbjcaaWTab
import Derived.Test.YtnjlggpidkbjcaaWFour
import Derived.Test.YtnjlggpidkbjcaaWQPut
import Derived.Test.YtnjlggpidkbjcaaWApart
import Derived.Test.YtnjlggpidkbjcaaWArr
import Derived.Test.YtnjlggpidkbjcaaWZeros
import Derived.Test.YtnjlggpidkbjcaaGV0
import Derived.Test.YtnjlggpidkbjcaaVMn
namespace Go.Proofs.Ytnjlggpidkbjcaa.GV
open Go.RowKit Go.Proofs.YtnjlggpidkbjcaaW.PrintWords Go.Proofs.YtnjlggpidkbjcaaW.PrintLast Go.Proofs.Ytnjlggpidkbjcaa.HandV Go.Proofs.YtnjlggpidkbjcaaW.PrintMore
attribute [local go_sem] max2_int min2_int max_two min_two max_three min_three max_four min_four   -- for this text's walks alone
/-- A row of plain values that the call's own block holds. -/
def OwnPV (base : Nat) (w : World) (v : Value) (vs : List PV) : Prop := w.ownsRow base 31 7 v vs.length (flatPV vs)
theorem OwnPV.shape {base : Nat} {w : World} {v : Value} {vs : List PV} (h : OwnPV base w v vs) : ∃ p c, v = .slice p vs.length c ∧ ∀ i x, vs[i]? = some x → ∃ g, p = some ⟨g, 0, none⟩ ∧ PV.Lies w ⟨g, i * 7, none⟩ x := by
  rcases h.2 with ⟨rfl, h4⟩ | ⟨g, cap, cur, rfl, e2, e3, e4⟩
  · obtain rfl := List.eq_nil_of_length_eq_zero h4
    exact ⟨none, 0, rfl, fun i x hx => by simp at hx⟩
  · refine ⟨_, cap, rfl, fun i x hx => ⟨g, rfl, fun j hj => ?_⟩⟩
    have hc := World.ownsRow.cells (g := g) h rfl (i * 7 + j) _ (flatPV_at vs i x hx j hj)
    rw [Addr.add_lit] at hc ⊢
    rwa [Nat.zero_add] at hc
theorem OwnPV.mono {base : Nat} {w w' : World} {v : Value} {vs : List PV} (h : OwnPV base w v vs) (hb : Below w.heap.size w w') : OwnPV base w' v vs := by
  refine ⟨h.1, ?_⟩
  rcases h.2 with h3 | ⟨g, cap, cur, e1, e2, e3, e4⟩
  · exact .inl h3
  · exact .inr ⟨g, cap, cur, e1, e2, (hb.block _ (lt_of_heap e3)).trans e3, e4⟩
theorem OwnPV.app {base : Nat} {w : World} {v : Value} {vs : List PV} {x : PV} (h : w.ownsRow base 31 7 v (vs.length + 1) (flatPV vs ++ flatPV [x])) : OwnPV base w v (vs ++ [x]) := by
  unfold OwnPV
  rw [flatPV_append, List.length_append]
  exact h
/-- How value.Set ends, in one form. -/
theorem SetEnds.all {w : World} {vs : List PV} {e : Ending} {w' : World} (h : SetEnds w vs e w') :
    Below w.heap.size w w' ∧ ∃ p c, (∀ i x, vs[i]? = some x → ∃ g, p = some ⟨g, 0, none⟩ ∧ PV.Lies w' ⟨g, i * 7, none⟩ x) ∧
      e = .returned (.tuple #[.agg #[.int .i64 (if vs.length ≤ 8 then 5 else 0), .bool false, .int .i64 0, .string ⟨#[]⟩, .string ⟨#[]⟩, .string ⟨#[]⟩, if vs.length ≤ 8 then .slice p vs.length c else .slice none 0 0], .int .i64 (if vs.length ≤ 8 then 0 else 4)]) := by
  obtain ⟨hb, outv, hrow, he⟩ := h
  obtain ⟨p, c, rfl, hl⟩ := OwnPV.shape (base := w.heap.size + 2) hrow
  exact ⟨hb, p, c, hl, he⟩
theorem OwnPV.ne {base : Nat} {w : World} {v : Value} {vs : List PV} (h : OwnPV base w v vs) (k : Nat) (hk : w.heap.size ≤ k) : some k ≠ v.ownBlock := by
  rcases h.2 with ⟨rfl, h4⟩ | ⟨g, cap, cur, rfl, e2, e3, e4⟩
  · simp [Value.ownBlock]
  · have := lt_of_heap e3
    simp [Value.ownBlock]
    omega
theorem PV.Lies.grown {w w' : World} {g o : Nat} {x : PV} {row : Option Nat} (h : PV.Lies w ⟨g, o, none⟩ x) (hg : w.grownBy w' row) (hne : some g ≠ row) : PV.Lies w' ⟨g, o, none⟩ x := fun j hj => World.grownBy.cell hg (h j hj) (by rw [Addr.add_lit]; exact hne)
theorem one_of (x : PV) : ∀ u ∈ flatPV [x], u.oneCell' = true := flatPV_one [x]
theorem convert_one (W : World) (g : Nat) (k : Nat) (h : W.cell? ⟨g, 0, none⟩ = some (.int .u8 (97 + (k : Int)))) : Sem.run Try.prog (convert 53 9 (.slice (some ⟨g, 0, none⟩) 1 1)) W = .ok (.string ⟨#[UInt8.ofNat (97 + k)]⟩) W := by
  have := run_convert_bytes_arg (P := Try.prog) W 53 5 Try.underlying53 Try.underlying5 g 0 1 1 [97 + (k : Int)] rfl (by
    intro i hi
    obtain rfl : i = 0 := by omega
    exact h) 9 Try.underlying9
  rw [this]
  have e : strOfNums [97 + (k : Int)] = ⟨#[UInt8.ofNat (97 + k)]⟩ := by
    show (⟨#[UInt8.ofNat (97 + (k : Int)).toNat]⟩ : ByteArray) = _
    rw [show (97 + (k : Int)).toNat = 97 + k by omega]
  rw [e]
set_option maxRecDepth 100000 in
set_option maxHeartbeats 16000000 in
theorem many_calls (a0 : Int) (twice : Bool) (a2 : Int) (w : World) : Calls Try.prog 9 #[.int .i64 a0, .bool twice, .int .i64 a2] w fun e w' => e = .returned (.bool true) ∧ Below w.heap.size w w' := by
  obtain ⟨m, hm, hwi⟩ := within_14 a0
  generalize hodd : (Int.tmod a2 2 == 1) = odd
  have hK : ∀ (p : Option Addr) (c : Nat) (W : World), (∀ i x, (mkL odd twice m)[i]? = some x → ∃ g, p = some ⟨g, 0, none⟩ ∧ PV.Lies W ⟨g, i * 7, none⟩ x) → Calls Try.prog 17 #[.slice p (mkL odd twice m).length c] W (SetEnds W ((List.range m).map (mkPV odd))) := fun p c W h => by
    have := set_all (if odd then 3 else 2) (by cases odd <;> decide) (mkL odd twice m) (by have := mkL_length odd twice m; omega) (mkL_kind odd twice m) p c W h
    rwa [many_out odd twice m hm] at this
  have hck : m ≤ 8 → ∀ (p : Option Addr) (c : Nat) (W : World), (∀ i x, ((List.range m).map (mkPV odd))[i]? = some x → ∃ g, p = some ⟨g, 0, none⟩ ∧ PV.Lies W ⟨g, i * 7, none⟩ x) → Calls Try.prog 27 #[.agg #[.int .i64 5, .bool false, .int .i64 0, .string ⟨#[]⟩, .string ⟨#[]⟩, .string ⟨#[]⟩, .slice p m c]] W fun e w' => e = .returned (.int .i64 0) ∧ Below W.heap.size W w' := fun h8 p c W h => by
    have := check5_pv (if odd then 3 else 2) (by cases odd <;> decide) ((List.range m).map (mkPV odd)) (by simp; omega) (by intro x hx; obtain ⟨i, _, rfl⟩ := List.mem_map.1 hx; exact mkPV_kind odd i) (by intro x hx; obtain ⟨i, hi, rfl⟩ := List.mem_map.1 hx; exact mkPV_fine odd i (by have := List.mem_range.1 hi; omega)) (by intro i hi; simp at hi; simp; exact mkPV_less odd i (by omega)) p c W h
    simpa using this
  have HKN := Aside0.mk hK
  have HCK := Aside0.mk hck
  clear hK hck
  go_enter Try.func9, Try.ntmps9
  go_wp2_with (first | (go_at_call 10; refine (known_calls _).mono ?_; rintro e w1 ⟨rfl, hb⟩; have HB1 := Aside0.mk hb; clear hb) | (go_at_call 15; refine (chancellaw3_within.calls a0 14 _ _ hwi).mono ?_; rintro e w2 ⟨rfl, hb⟩; have HB2 : Aside0 (Below w.heap.size w w2) := ⟨HB1.out.trans (hb.below.mono HB1.out.size)⟩; clear hb))
  go_loopw [7, 8] (fun v u wr => ∃ k : Nat, u = .int .i64 (k : Int) ∧ k ≤ m ∧ Aside0 (Below w.heap.size w wr) ∧ Aside0 (OwnPV w.heap.size wr v (mkL odd twice k))) (fun v u _ => match u with | .int _ x => m - x.toNat | _ => 0)
  case atStart => exact ⟨0, rfl, Nat.zero_le _, HB2, ⟨rfl, .inl ⟨rfl, rfl⟩⟩⟩
  case round =>
    obtain ⟨k, rfl, hk, HB, HO⟩ := hrel
    by_cases hlt : k < m
    · have hlt0 : decide ((k : Int) < (m : Int)) = true := decide_eq_true (by omega)
      cases odd
      · cases twice
        · have hx : mkPV false k = (PV.nu (k : Int)) := rfl
          have hml := mkL_length false false k
          have HST := Aside0.mk (mkL_succ false false k)
          rw [hx] at HST
          generalize mkL false false k = vs at HO hml HST
          have hbW : Below wr.heap.size wr (wr.alloc (Obj.cells #[.int .i64 2, .bool false, .int .i64 (k : Int), .string ⟨#[]⟩, .string ⟨#[]⟩, .string ⟨#[]⟩, .slice none 0 0] 31)) := by repeat (first | exact Below.refl _ _ | apply below_alloc)
          have hsW : wr.heap.size ≤ (wr.alloc (Obj.cells #[.int .i64 2, .bool false, .int .i64 (k : Int), .string ⟨#[]⟩, .string ⟨#[]⟩, .string ⟨#[]⟩, .slice none 0 0] 31)).heap.size := hbW.size
          have HOW := Aside0.mk (HO.out.mono hbW)
          have HBW : Aside0 (Below w.heap.size w (wr.alloc (Obj.cells #[.int .i64 2, .bool false, .int .i64 (k : Int), .string ⟨#[]⟩, .string ⟨#[]⟩, .string ⟨#[]⟩, .slice none 0 0] 31))) := ⟨below_step HB.out hbW⟩
          have HVW : Aside0 (PV.Lies (wr.alloc (Obj.cells #[.int .i64 2, .bool false, .int .i64 (k : Int), .string ⟨#[]⟩, .string ⟨#[]⟩, .string ⟨#[]⟩, .slice none 0 0] 31)) ⟨wr.heap.size, 0, none⟩ (PV.nu (k : Int))) := ⟨PV.Lies.of7 (by show World.cell? _ _ = some (.int .i64 2); go_simp) (by show World.cell? _ _ = some (.bool false); go_simp) (by show World.cell? _ _ = some (.int .i64 (k : Int)); go_simp) (by show World.cell? _ _ = some (.string ⟨#[]⟩); go_simp) (by show World.cell? _ _ = some (.string ⟨#[]⟩); go_simp) (by show World.cell? _ _ = some (.string ⟨#[]⟩); go_simp) (by show World.cell? _ _ = some (.slice none 0 0); go_simp)⟩
          have hne : some wr.heap.size ≠ u7.ownBlock := HO.out.ne _ (Nat.le_refl _)
          have hwS : w.heap.size ≤ wr.heap.size := HB.out.size
          clear hbW
          go_wp2_with (first | ((with_reducible refine gate_builtin (b := .append) (xs := #[.tmp 32, .tmp 34]) rfl ?_); at_builtin; refine print_append_cells (w0 := w) w.heap.size rfl (.tmp 32) (.tmp 34) 29 31 _ 7 96 rfl Try.underlying29 val_info rfl (by decide) (by decide) u7 vs.length (flatPV vs) [.int .i64 2, .bool false, .int .i64 (k : Int), .string ⟨#[]⟩, .string ⟨#[]⟩, .string ⟨#[]⟩, .slice none 0 0] rfl ?ax rfl ?a1 ?aO ?aB ?aS ?aL ?_; (case ax => (first | rfl | (show Value.slice _ 1 1 = _; simp))); (case a1 => exact one_of (PV.nu (k : Int))); (case aO => exact HOW.out); (case aB => exact HBW.out); (case aS => exact (Nat.le_trans hwS hsW)); (case aL => exact (by omega)); intro v1 w3 ho hb hg _; have HO3 : Aside0 (OwnPV w.heap.size w3 v1 (vs ++ [(PV.nu (k : Int))])) := ⟨OwnPV.app ho⟩; have HB3 := Aside0.mk hb; have HV3 := Aside0.mk (HVW.out.grown hg hne); clear ho hb hg))
          go_roundw
          case rel => exact ⟨k + 1, by first | rfl | (simp; done) | (simp; omega), by omega, HB3, ⟨by rw [HST.out]; exact HO3.out⟩⟩
          case measure => simp; omega
        · have hx : mkPV false k = (PV.nu (k : Int)) := rfl
          have hml := mkL_length false true k
          have HST := Aside0.mk (mkL_succ false true k)
          rw [hx] at HST
          generalize mkL false true k = vs at HO hml HST
          have hbW : Below wr.heap.size wr (wr.alloc (Obj.cells #[.int .i64 2, .bool false, .int .i64 (k : Int), .string ⟨#[]⟩, .string ⟨#[]⟩, .string ⟨#[]⟩, .slice none 0 0] 31)) := by repeat (first | exact Below.refl _ _ | apply below_alloc)
          have hsW : wr.heap.size ≤ (wr.alloc (Obj.cells #[.int .i64 2, .bool false, .int .i64 (k : Int), .string ⟨#[]⟩, .string ⟨#[]⟩, .string ⟨#[]⟩, .slice none 0 0] 31)).heap.size := hbW.size
          have HOW := Aside0.mk (HO.out.mono hbW)
          have HBW : Aside0 (Below w.heap.size w (wr.alloc (Obj.cells #[.int .i64 2, .bool false, .int .i64 (k : Int), .string ⟨#[]⟩, .string ⟨#[]⟩, .string ⟨#[]⟩, .slice none 0 0] 31))) := ⟨below_step HB.out hbW⟩
          have HVW : Aside0 (PV.Lies (wr.alloc (Obj.cells #[.int .i64 2, .bool false, .int .i64 (k : Int), .string ⟨#[]⟩, .string ⟨#[]⟩, .string ⟨#[]⟩, .slice none 0 0] 31)) ⟨wr.heap.size, 0, none⟩ (PV.nu (k : Int))) := ⟨PV.Lies.of7 (by show World.cell? _ _ = some (.int .i64 2); go_simp) (by show World.cell? _ _ = some (.bool false); go_simp) (by show World.cell? _ _ = some (.int .i64 (k : Int)); go_simp) (by show World.cell? _ _ = some (.string ⟨#[]⟩); go_simp) (by show World.cell? _ _ = some (.string ⟨#[]⟩); go_simp) (by show World.cell? _ _ = some (.string ⟨#[]⟩); go_simp) (by show World.cell? _ _ = some (.slice none 0 0); go_simp)⟩
          have hne : some wr.heap.size ≠ u7.ownBlock := HO.out.ne _ (Nat.le_refl _)
          have hwS : w.heap.size ≤ wr.heap.size := HB.out.size
          clear hbW
          go_wp2_with (first | ((with_reducible refine gate_builtin (b := .append) (xs := #[.tmp 32, .tmp 34]) rfl ?_); at_builtin; refine print_append_cells (w0 := w) w.heap.size rfl (.tmp 32) (.tmp 34) 29 31 _ 7 96 rfl Try.underlying29 val_info rfl (by decide) (by decide) u7 vs.length (flatPV vs) [.int .i64 2, .bool false, .int .i64 (k : Int), .string ⟨#[]⟩, .string ⟨#[]⟩, .string ⟨#[]⟩, .slice none 0 0] rfl ?ax rfl ?a1 ?aO ?aB ?aS ?aL ?_; (case ax => (first | rfl | (show Value.slice _ 1 1 = _; simp))); (case a1 => exact one_of (PV.nu (k : Int))); (case aO => exact HOW.out); (case aB => exact HBW.out); (case aS => exact (Nat.le_trans hwS hsW)); (case aL => exact (by omega)); intro v1 w3 ho hb hg _; have HO3 : Aside0 (OwnPV w.heap.size w3 v1 (vs ++ [(PV.nu (k : Int))])) := ⟨OwnPV.app ho⟩; have HB3 := Aside0.mk hb; have HV3 := Aside0.mk (HVW.out.grown hg hne); clear ho hb hg; have d0 : w3.cell? ⟨wr.heap.size, 0, none⟩ = some (.int .i64 2) := HV3.out.at 0 (by decide); have d1 : w3.cell? ⟨wr.heap.size, 1, none⟩ = some (.bool false) := (congrArg w3.cell? (show (⟨wr.heap.size, 1, none⟩ : Addr) = ⟨wr.heap.size, 0 + 1, none⟩ by rw [Nat.zero_add])).trans (HV3.out.at 1 (by decide)); have d2 : w3.cell? ⟨wr.heap.size, 2, none⟩ = some (.int .i64 (k : Int)) := (congrArg w3.cell? (show (⟨wr.heap.size, 2, none⟩ : Addr) = ⟨wr.heap.size, 0 + 2, none⟩ by rw [Nat.zero_add])).trans (HV3.out.at 2 (by decide)); have d3 : w3.cell? ⟨wr.heap.size, 3, none⟩ = some (.string ⟨#[]⟩) := (congrArg w3.cell? (show (⟨wr.heap.size, 3, none⟩ : Addr) = ⟨wr.heap.size, 0 + 3, none⟩ by rw [Nat.zero_add])).trans (HV3.out.at 3 (by decide)); have d4 : w3.cell? ⟨wr.heap.size, 4, none⟩ = some (.string ⟨#[]⟩) := (congrArg w3.cell? (show (⟨wr.heap.size, 4, none⟩ : Addr) = ⟨wr.heap.size, 0 + 4, none⟩ by rw [Nat.zero_add])).trans (HV3.out.at 4 (by decide)); have d5 : w3.cell? ⟨wr.heap.size, 5, none⟩ = some (.string ⟨#[]⟩) := (congrArg w3.cell? (show (⟨wr.heap.size, 5, none⟩ : Addr) = ⟨wr.heap.size, 0 + 5, none⟩ by rw [Nat.zero_add])).trans (HV3.out.at 5 (by decide)); have d6 : w3.cell? ⟨wr.heap.size, 6, none⟩ = some (.slice none 0 0) := (congrArg w3.cell? (show (⟨wr.heap.size, 6, none⟩ : Addr) = ⟨wr.heap.size, 0 + 6, none⟩ by rw [Nat.zero_add])).trans (HV3.out.at 6 (by decide)); have hs3 : w.heap.size ≤ w3.heap.size := HB3.out.size) | ((with_reducible refine gate_builtin (b := .append) (xs := #[.tmp 37, .tmp 39]) rfl ?_); at_builtin; refine print_append_cells (w0 := w) w.heap.size rfl (.tmp 37) (.tmp 39) 29 31 _ 7 96 rfl Try.underlying29 val_info rfl (by decide) (by decide) v1 (vs ++ [(PV.nu (k : Int))]).length (flatPV (vs ++ [(PV.nu (k : Int))])) [.int .i64 2, .bool false, .int .i64 (k : Int), .string ⟨#[]⟩, .string ⟨#[]⟩, .string ⟨#[]⟩, .slice none 0 0] rfl ?ax rfl ?a1 ?aO ?aB ?aS ?aL ?_; (case ax => (first | rfl | (show Value.slice _ 1 1 = _; simp))); (case a1 => exact one_of (PV.nu (k : Int))); (case aO => exact HO3.out); (case aB => exact HB3.out); (case aS => exact hs3); (case aL => exact (by simp; omega)); intro v2 w4 ho hb _ _; have HO4 : Aside0 (OwnPV w.heap.size w4 v2 ((vs ++ [(PV.nu (k : Int))]) ++ [(PV.nu (k : Int))])) := ⟨OwnPV.app ho⟩; have HB4 := Aside0.mk hb; clear ho hb))
          go_roundw
          case rel => exact ⟨k + 1, by first | rfl | (simp; done) | (simp; omega), by omega, HB4, ⟨by rw [HST.out]; have := HO4.out; rwa [List.append_assoc] at this⟩⟩
          case measure => simp; omega
      · have hcv := fun W => convert_one W (wr.heap.size + 1) k
        obtain ⟨sk, hsk0⟩ : ∃ sk, mkPV true k = .wo sk := ⟨_, rfl⟩
        have hsk : (⟨#[UInt8.ofNat (97 + k)]⟩ : ByteArray) = sk := by injection hsk0
        rw [hsk] at hcv
        have hcv2 : ∀ A, Sem.run Try.prog (convert 53 9 (.slice (some ⟨wr.heap.size + 1, 0, none⟩) 1 1)) ((wr.alloc (.cells A 31)).alloc (.cells #[.int .u8 (97 + (k : Int))] 5)) = .ok (.string sk) ((wr.alloc (.cells A 31)).alloc (.cells #[.int .u8 (97 + (k : Int))] 5)) := fun A => hcv _ (by go_simp)
        clear hcv
        cases twice
        · have hx : mkPV true k = (PV.wo sk) := hsk0
          have hml := mkL_length true false k
          have HST := Aside0.mk (mkL_succ true false k)
          rw [hx] at HST
          generalize mkL true false k = vs at HO hml HST
          have hbW : Below wr.heap.size wr ((wr.alloc (Obj.cells #[.int .i64 3, .bool false, .int .i64 0, .string sk, .string ⟨#[]⟩, .string ⟨#[]⟩, .slice none 0 0] 31)).alloc (Obj.cells #[.int .u8 (97 + (k : Int))] 5)) := by repeat (first | exact Below.refl _ _ | apply below_alloc)
          have hsW : wr.heap.size ≤ ((wr.alloc (Obj.cells #[.int .i64 3, .bool false, .int .i64 0, .string sk, .string ⟨#[]⟩, .string ⟨#[]⟩, .slice none 0 0] 31)).alloc (Obj.cells #[.int .u8 (97 + (k : Int))] 5)).heap.size := hbW.size
          have HOW := Aside0.mk (HO.out.mono hbW)
          have HBW : Aside0 (Below w.heap.size w ((wr.alloc (Obj.cells #[.int .i64 3, .bool false, .int .i64 0, .string sk, .string ⟨#[]⟩, .string ⟨#[]⟩, .slice none 0 0] 31)).alloc (Obj.cells #[.int .u8 (97 + (k : Int))] 5))) := ⟨below_step HB.out hbW⟩
          have HVW : Aside0 (PV.Lies ((wr.alloc (Obj.cells #[.int .i64 3, .bool false, .int .i64 0, .string sk, .string ⟨#[]⟩, .string ⟨#[]⟩, .slice none 0 0] 31)).alloc (Obj.cells #[.int .u8 (97 + (k : Int))] 5)) ⟨wr.heap.size, 0, none⟩ (PV.wo sk)) := ⟨PV.Lies.of7 (by show World.cell? _ _ = some (.int .i64 3); go_simp) (by show World.cell? _ _ = some (.bool false); go_simp) (by show World.cell? _ _ = some (.int .i64 0); go_simp) (by show World.cell? _ _ = some (.string sk); go_simp) (by show World.cell? _ _ = some (.string ⟨#[]⟩); go_simp) (by show World.cell? _ _ = some (.string ⟨#[]⟩); go_simp) (by show World.cell? _ _ = some (.slice none 0 0); go_simp)⟩
          have hne : some wr.heap.size ≠ u7.ownBlock := HO.out.ne _ (Nat.le_refl _)
          have hwS : w.heap.size ≤ wr.heap.size := HB.out.size
          clear hbW
          go_wp2_with (first | ((with_reducible refine gate_builtin (b := .append) (xs := #[.tmp 32, .tmp 34]) rfl ?_); at_builtin; refine print_append_cells (w0 := w) w.heap.size rfl (.tmp 32) (.tmp 34) 29 31 _ 7 96 rfl Try.underlying29 val_info rfl (by decide) (by decide) u7 vs.length (flatPV vs) [.int .i64 3, .bool false, .int .i64 0, .string sk, .string ⟨#[]⟩, .string ⟨#[]⟩, .slice none 0 0] rfl ?ax rfl ?a1 ?aO ?aB ?aS ?aL ?_; (case ax => (first | rfl | (show Value.slice _ 1 1 = _; simp))); (case a1 => exact one_of (PV.wo sk)); (case aO => exact HOW.out); (case aB => exact HBW.out); (case aS => exact (Nat.le_trans hwS hsW)); (case aL => exact (by omega)); intro v1 w3 ho hb hg _; have HO3 : Aside0 (OwnPV w.heap.size w3 v1 (vs ++ [(PV.wo sk)])) := ⟨OwnPV.app ho⟩; have HB3 := Aside0.mk hb; have HV3 := Aside0.mk (HVW.out.grown hg hne); clear ho hb hg))
          go_roundw
          case rel => exact ⟨k + 1, by first | rfl | (simp; done) | (simp; omega), by omega, HB3, ⟨by rw [HST.out]; exact HO3.out⟩⟩
          case measure => simp; omega
        · have hx : mkPV true k = (PV.wo sk) := hsk0
          have hml := mkL_length true true k
          have HST := Aside0.mk (mkL_succ true true k)
          rw [hx] at HST
          generalize mkL true true k = vs at HO hml HST
          have hbW : Below wr.heap.size wr ((wr.alloc (Obj.cells #[.int .i64 3, .bool false, .int .i64 0, .string sk, .string ⟨#[]⟩, .string ⟨#[]⟩, .slice none 0 0] 31)).alloc (Obj.cells #[.int .u8 (97 + (k : Int))] 5)) := by repeat (first | exact Below.refl _ _ | apply below_alloc)
          have hsW : wr.heap.size ≤ ((wr.alloc (Obj.cells #[.int .i64 3, .bool false, .int .i64 0, .string sk, .string ⟨#[]⟩, .string ⟨#[]⟩, .slice none 0 0] 31)).alloc (Obj.cells #[.int .u8 (97 + (k : Int))] 5)).heap.size := hbW.size
          have HOW := Aside0.mk (HO.out.mono hbW)
          have HBW : Aside0 (Below w.heap.size w ((wr.alloc (Obj.cells #[.int .i64 3, .bool false, .int .i64 0, .string sk, .string ⟨#[]⟩, .string ⟨#[]⟩, .slice none 0 0] 31)).alloc (Obj.cells #[.int .u8 (97 + (k : Int))] 5))) := ⟨below_step HB.out hbW⟩
          have HVW : Aside0 (PV.Lies ((wr.alloc (Obj.cells #[.int .i64 3, .bool false, .int .i64 0, .string sk, .string ⟨#[]⟩, .string ⟨#[]⟩, .slice none 0 0] 31)).alloc (Obj.cells #[.int .u8 (97 + (k : Int))] 5)) ⟨wr.heap.size, 0, none⟩ (PV.wo sk)) := ⟨PV.Lies.of7 (by show World.cell? _ _ = some (.int .i64 3); go_simp) (by show World.cell? _ _ = some (.bool false); go_simp) (by show World.cell? _ _ = some (.int .i64 0); go_simp) (by show World.cell? _ _ = some (.string sk); go_simp) (by show World.cell? _ _ = some (.string ⟨#[]⟩); go_simp) (by show World.cell? _ _ = some (.string ⟨#[]⟩); go_simp) (by show World.cell? _ _ = some (.slice none 0 0); go_simp)⟩
          have hne : some wr.heap.size ≠ u7.ownBlock := HO.out.ne _ (Nat.le_refl _)
          have hwS : w.heap.size ≤ wr.heap.size := HB.out.size
          clear hbW
          go_wp2_with (first | ((with_reducible refine gate_builtin (b := .append) (xs := #[.tmp 32, .tmp 34]) rfl ?_); at_builtin; refine print_append_cells (w0 := w) w.heap.size rfl (.tmp 32) (.tmp 34) 29 31 _ 7 96 rfl Try.underlying29 val_info rfl (by decide) (by decide) u7 vs.length (flatPV vs) [.int .i64 3, .bool false, .int .i64 0, .string sk, .string ⟨#[]⟩, .string ⟨#[]⟩, .slice none 0 0] rfl ?ax rfl ?a1 ?aO ?aB ?aS ?aL ?_; (case ax => (first | rfl | (show Value.slice _ 1 1 = _; simp))); (case a1 => exact one_of (PV.wo sk)); (case aO => exact HOW.out); (case aB => exact HBW.out); (case aS => exact (Nat.le_trans hwS hsW)); (case aL => exact (by omega)); intro v1 w3 ho hb hg _; have HO3 : Aside0 (OwnPV w.heap.size w3 v1 (vs ++ [(PV.wo sk)])) := ⟨OwnPV.app ho⟩; have HB3 := Aside0.mk hb; have HV3 := Aside0.mk (HVW.out.grown hg hne); clear ho hb hg; have d0 : w3.cell? ⟨wr.heap.size, 0, none⟩ = some (.int .i64 3) := HV3.out.at 0 (by decide); have d1 : w3.cell? ⟨wr.heap.size, 1, none⟩ = some (.bool false) := (congrArg w3.cell? (show (⟨wr.heap.size, 1, none⟩ : Addr) = ⟨wr.heap.size, 0 + 1, none⟩ by rw [Nat.zero_add])).trans (HV3.out.at 1 (by decide)); have d2 : w3.cell? ⟨wr.heap.size, 2, none⟩ = some (.int .i64 0) := (congrArg w3.cell? (show (⟨wr.heap.size, 2, none⟩ : Addr) = ⟨wr.heap.size, 0 + 2, none⟩ by rw [Nat.zero_add])).trans (HV3.out.at 2 (by decide)); have d3 : w3.cell? ⟨wr.heap.size, 3, none⟩ = some (.string sk) := (congrArg w3.cell? (show (⟨wr.heap.size, 3, none⟩ : Addr) = ⟨wr.heap.size, 0 + 3, none⟩ by rw [Nat.zero_add])).trans (HV3.out.at 3 (by decide)); have d4 : w3.cell? ⟨wr.heap.size, 4, none⟩ = some (.string ⟨#[]⟩) := (congrArg w3.cell? (show (⟨wr.heap.size, 4, none⟩ : Addr) = ⟨wr.heap.size, 0 + 4, none⟩ by rw [Nat.zero_add])).trans (HV3.out.at 4 (by decide)); have d5 : w3.cell? ⟨wr.heap.size, 5, none⟩ = some (.string ⟨#[]⟩) := (congrArg w3.cell? (show (⟨wr.heap.size, 5, none⟩ : Addr) = ⟨wr.heap.size, 0 + 5, none⟩ by rw [Nat.zero_add])).trans (HV3.out.at 5 (by decide)); have d6 : w3.cell? ⟨wr.heap.size, 6, none⟩ = some (.slice none 0 0) := (congrArg w3.cell? (show (⟨wr.heap.size, 6, none⟩ : Addr) = ⟨wr.heap.size, 0 + 6, none⟩ by rw [Nat.zero_add])).trans (HV3.out.at 6 (by decide)); have hs3 : w.heap.size ≤ w3.heap.size := HB3.out.size) | ((with_reducible refine gate_builtin (b := .append) (xs := #[.tmp 37, .tmp 39]) rfl ?_); at_builtin; refine print_append_cells (w0 := w) w.heap.size rfl (.tmp 37) (.tmp 39) 29 31 _ 7 96 rfl Try.underlying29 val_info rfl (by decide) (by decide) v1 (vs ++ [(PV.wo sk)]).length (flatPV (vs ++ [(PV.wo sk)])) [.int .i64 3, .bool false, .int .i64 0, .string sk, .string ⟨#[]⟩, .string ⟨#[]⟩, .slice none 0 0] rfl ?ax rfl ?a1 ?aO ?aB ?aS ?aL ?_; (case ax => (first | rfl | (show Value.slice _ 1 1 = _; simp))); (case a1 => exact one_of (PV.wo sk)); (case aO => exact HO3.out); (case aB => exact HB3.out); (case aS => exact hs3); (case aL => exact (by simp; omega)); intro v2 w4 ho hb _ _; have HO4 : Aside0 (OwnPV w.heap.size w4 v2 ((vs ++ [(PV.wo sk)]) ++ [(PV.wo sk)])) := ⟨OwnPV.app ho⟩; have HB4 := Aside0.mk hb; clear ho hb))
          go_roundw
          case rel => exact ⟨k + 1, by first | rfl | (simp; done) | (simp; omega), by omega, HB4, ⟨by rw [HST.out]; have := HO4.out; rwa [List.append_assoc] at this⟩⟩
          case measure => simp; omega
    · have hlt0 : decide ((k : Int) < (m : Int)) = false := decide_eq_false (by omega)
      have hke : k = m := by omega
      subst hke
      obtain ⟨p, c, rfl, hl⟩ := HO.out.shape
      have HL := Aside0.mk hl
      clear hl HO
      have hlen : ((List.range k).map (mkPV odd)).length = k := by simp
      have HKW := Aside0.mk (HKN.out p c wr HL.out)
      by_cases h8 : k ≤ 8
      · have hgt : decide (8 < (k : Int)) = false := decide_eq_false (by omega)
        go_wp2_with (first | (go_at_call 17; refine HKW.out.mono ?_; rintro e w3 hE; obtain ⟨hb, p2, c2, hl2, rfl⟩ := hE.all; rw [hlen, if_pos h8, if_pos h8, if_pos h8]; have HL2 := Aside0.mk hl2; have HB3 : Aside0 (Below w.heap.size w w3) := ⟨below_step HB.out hb⟩; clear hE hl2 hb) | (go_at_call 27; refine (HCK.out h8 p2 c2 _ (fun i x hx => Exists.imp (fun _ h => ⟨h.1, h.2.below (below_alloc (Below.refl _ _) _)⟩) (HL2.out i x hx))).mono ?_; rintro e w4 ⟨rfl, hb⟩; have HB4 : Aside0 (Below w.heap.size w w4) := ⟨below_step (by repeat (first | exact HB3.out | apply below_alloc)) hb⟩; clear hb))
        go_ret
        exact ⟨rfl, HB4.out⟩
      · have hgt : decide (8 < (k : Int)) = true := decide_eq_true (by omega)
        go_wp2_with (go_at_call 17; refine HKW.out.mono ?_; rintro e w3 hE; obtain ⟨hb, p2, c2, hl2, rfl⟩ := hE.all; rw [hlen, if_neg h8, if_neg h8, if_neg h8]; have HB3 : Aside0 (Below w.heap.size w w3) := ⟨below_step HB.out hb⟩; clear hE hl2 hb)
        go_ret
        exact ⟨rfl, by repeat (first | exact HB3.out | apply below_alloc)⟩
end Go.Proofs.Ytnjlggpidkbjcaa.GV
