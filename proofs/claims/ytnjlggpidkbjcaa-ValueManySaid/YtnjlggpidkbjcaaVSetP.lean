import Derived.Test.YtnjlggpidkbjcaaProg
import Derived.Below
import Derived.Deep.Draws
import Derived.Deep.AppendLies
import Derived.Maps.AppendAt
import Derived.OwnWalk
import Derived.Laws.BytesArg
import Derived.Laws.MakeOwn
import Derived.Laws.OwnMore
import Derived.Deep.OwnRows
import Derived.Tactics
import Derived.Lib.ConvBytes
import Derived.Laws.Slices
import Derived.WalkKit
import Derived.KernelRfl
import Derived.RowKit3
import Derived.Deep.LoopGhost
import Derived.Deep.QuietTactic
import Derived.BigQuiet
import Derived.WideLaws
import Derived.Deep.DeepCutAuto
import Derived.Deep.CutBlock
import Derived.Deep.RegionHeld3
import Derived.Laws.Rows
import Derived.Lib.AppendStr
import Derived.ArgAppend
import Derived.Laws.IdiomCopy
import Derived.OrdersHeld
import Derived.Laws.BitsLemmas
import Derived.RowKit
import Derived.Test.YtnjlggpidkbjcaaHandV
import Derived.Test.YtnjlggpidkbjcaaWWords
import Derived.Test.YtnjlggpidkbjcaaWLast
import Derived.Test.YtnjlggpidkbjcaaWTab
import Derived.Test.YtnjlggpidkbjcaaWFour
import Derived.Test.YtnjlggpidkbjcaaWQPut
import Derived.Test.YtnjlggpidkbjcaaWApart
import Derived.Test.YtnjlggpidkbjcaaWArr
import Derived.Test.YtnjlggpidkbjcaaWZeros
import Derived.Test.YtnjlggpidkbjcaaGV0
import Derived.Test.YtnjlggpidkbjcaaVSetL
import Derived.Deep.RegionHeld3
import Derived.Deep.QuietTactic
import Derived.BigQuiet
import Derived.Laws.ResultCell
import Derived.Laws.Rows
import Derived.Deep.Upon
namespace Go.Proofs.Ytnjlggpidkbjcaa.GV
open Go.RowKit Go.Proofs.YtnjlggpidkbjcaaW.PrintWords Go.Proofs.YtnjlggpidkbjcaaW.PrintLast Go.Proofs.Ytnjlggpidkbjcaa.HandV Go.Proofs.YtnjlggpidkbjcaaW.PrintMore
attribute [local go_sem] max2_int min2_int max_two min_two max_three min_three max_four min_four   -- for this text's walks alone
theorem store_of {v : Value} (h : v.oneCell' = true) : ∀ (a : Addr) (m : Mode) (w : World), (store a v m).run Try.prog w = stored Try.prog w a v m := fun a m w => run_store Try.prog w a v m h
theorem SInv.start (w : World) : SInv w w.heap.size [] (.slice none 0 0) ((w.alloc (.cells #[.int .i64 0, .bool false, .int .i64 0, .string ⟨#[]⟩, .string ⟨#[]⟩, .string ⟨#[]⟩, .slice none 0 0] 31 (0, 0))).alloc (.cells #[.slice none 0 0] 29 (0, 0))) := by
  refine ⟨?_, ?_, ?_, ⟨rfl, .inl ⟨rfl, rfl⟩⟩⟩
  · exact ((Below.refl _ _).alloc (Nat.le_refl _) _).alloc (by simp) _
  · rw [Below.heap_alloc _ _ _ (by simp)]
    exact blk_new _ _
  · have h := blk_new (w.alloc (.cells #[.int .i64 0, .bool false, .int .i64 0, .string ⟨#[]⟩, .string ⟨#[]⟩, .string ⟨#[]⟩, .slice none 0 0] 31 (0, 0))) (.cells #[.slice none 0 0] 29 (0, 0))
    simpa using h
/-- The row has grown, the box of it not yet. -/
structure SPre (w : World) (b : Nat) (vs : List PV) (outv v' : Value) (wr : World) : Prop where
  below : Below b w wr
  res : wr.heap[b]? = some (.cells #[.int .i64 0, .bool false, .int .i64 0, .string ⟨#[]⟩, .string ⟨#[]⟩, .string ⟨#[]⟩, .slice none 0 0] 31 (0, 0))
  out : wr.heap[b + 1]? = some (.cells #[outv] 29 (0, 0))
  row : wr.ownsRow (b + 2) 31 7 v' vs.length (flatPV vs)
theorem SPre.one {w : World} {b : Nat} {vs : List PV} {outv v' : Value} {wr : World} (h : SPre w b vs outv v' wr) : v'.oneCell' = true := by
  rcases h.row.2 with ⟨rfl, _⟩ | ⟨g, cap, cur, rfl, _⟩ <;> rfl
theorem SPre.outCell {w : World} {b : Nat} {vs : List PV} {outv v' : Value} {wr : World} (h : SPre w b vs outv v' wr) : wr.cell? ⟨b + 1, 0, none⟩ = some outv := by
  unfold World.cell?
  rw [h.out]
  rfl
theorem SPre.outFrozen {w : World} {b : Nat} {vs : List PV} {outv v' : Value} {wr : World} (h : SPre w b vs outv v' wr) : wr.frozen? ⟨b + 1, 0, none⟩ = false := by
  unfold World.frozen?
  rw [h.out]
  rfl
theorem SPre.store {w : World} {b : Nat} {vs : List PV} {outv v' : Value} {wr : World} (h : SPre w b vs outv v' wr) : SInv w b vs v' (wr.setCell ⟨b + 1, 0, none⟩ v') := by
  have h0 := Below.heap_setCell wr ⟨b + 1, 0, none⟩ v'
  refine ⟨h.below.setCell (by simp) v', (h0 b (by simp)).trans h.res, ?_, ?_⟩
  · exact setCell_heap wr (b + 1) 0 v' [outv] 29 (0, 0) h.out
  · refine ⟨h.row.1, ?_⟩
    rcases h.row.2 with h3 | ⟨g, cap, cur, e1, e2, e3, e4⟩
    · exact .inl h3
    · refine .inr ⟨g, cap, cur, e1, e2, (h0 g (by show g ≠ b + 1; omega)).trans e3, e4⟩
/-- slices.Insert of one value, called by value.Set. -/
theorem insert_set {w0 : World} {b : Nat} {vs : List PV} {outv : Value} {W' : World} (hI : SInv w0 b vs outv W') (W : World) (hW : Below W'.heap.size W' W) (hvs : vs.length ≤ 1000) (i : Nat) (hi : i ≤ vs.length) (y : PV) (vb vc : Nat) (hvb : W'.heap.size ≤ vb)
    (vcur : Array Value) (hvc : W.heap[vb]? = some (.cells vcur 31 (0, 0))) (hy : PV.Lies W ⟨vb, 0, none⟩ y) :
    Calls Try.prog 35 #[outv, .int .i64 (i : Int), .slice (some ⟨vb, 0, none⟩) 1 vc] W fun e w' => ∃ v', e = .returned v' ∧ SPre w0 b (vs.take i ++ [y] ++ vs.drop i) outv v' w' := by
  have hI2 := hI.mono hW
  have hr := hI2.row
  have hres := lt_of_heap hI2.res
  have hout := lt_of_heap hI2.out
  have hne : outv.ownBlock ≠ some vb := by
    rcases hI.row.2 with ⟨rfl, _⟩ | ⟨g, cap, cur, rfl, _, e3, _⟩
    · simp [Value.ownBlock]
    · have := lt_of_heap e3
      simp [Value.ownBlock]
      omega
  have hfar : ∀ k, k < b + 2 → some k ≠ outv.ownBlock := by
    intro k hk
    rcases hI.row.2 with ⟨rfl, _⟩ | ⟨g, cap, cur, rfl, h2, e3, _⟩
    · simp [Value.ownBlock]
    · simp [Value.ownBlock]
      omega
  refine (insert_any outv vs.length i (flatPV vs) (flatPV [y]) (b + 2) vb vc vcur W hvs hi hr (by omega) hne hvc (by rw [flatPV_length]; rfl) ?_ (flatPV_one _) (flatPV_one _)).mono ?_
  · intro j u hu
    have hj : j < 7 := by
      have := (List.getElem?_eq_some_iff.1 hu).1
      rw [flatPV_length] at this
      simpa using this
    have h1 := flatPV_at [y] 0 y rfl j hj
    rw [Nat.zero_mul, Nat.zero_add] at h1
    rw [h1] at hu
    cases hu
    exact hy j hj
  · rintro e w' ⟨v', rfl, hrow, hg⟩
    refine ⟨v', rfl, ?_, ?_, ?_, ?_⟩
    · exact hI2.below.trans ⟨hg.os, hg.tape, hg.output, hg.size, fun k hk => hg.block k (by omega) (hfar k (by omega))⟩
    · exact (hg.block b hres (hfar b (by omega))).trans hI2.res
    · exact (hg.block (b + 1) hout (hfar (b + 1) (by omega))).trans hI2.out
    · have e1 : (vs.take i ++ [y] ++ vs.drop i).length = vs.length + 1 := by simp; omega
      rw [e1, flatPV_append, flatPV_append, ← flatPV_take, ← flatPV_drop]
      exact hrow
theorem foldl_setIns_length : ∀ (l vs : List PV), (l.foldl setIns vs).length ≤ vs.length + l.length
  | [], _ => Nat.le_refl _
  | x :: l, vs => by
    have h1 := foldl_setIns_length l (setIns vs x)
    have h2 := setIns_length vs x
    simp only [List.foldl_cons, List.length_cons]
    omega
theorem foldl_setIns_kind (K : Int) : ∀ (l vs : List PV), (∀ x ∈ vs, x.kind = K) → (∀ x ∈ l, x.kind = K) → ∀ x ∈ l.foldl setIns vs, x.kind = K
  | [], _, h, _ => h
  | y :: l, vs, h, h2 => foldl_setIns_kind K l (setIns vs y) (setIns_kind K vs y h (h2 y (List.mem_cons_self ..))) (fun x hx => h2 x (List.mem_cons_of_mem _ hx))
theorem SInv.shape {w : World} {b : Nat} {vs : List PV} {outv : Value} {wr : World} (h : SInv w b vs outv wr) : ∃ p c, outv = .slice p vs.length c ∧ ∀ i x, vs[i]? = some x → ∃ g, p = some ⟨g, 0, none⟩ ∧ PV.Lies wr ⟨g, i * 7, none⟩ x := by
  rcases h.cases with ⟨rfl, rfl⟩ | ⟨g, c, h1, _, h3⟩
  · exact ⟨none, 0, rfl, fun i x hx => by simp at hx⟩
  · exact ⟨_, c, h1, fun i x hx => ⟨g, rfl, h3 i x hx⟩⟩
theorem PV.Lies.at {w : World} {g o : Nat} {x : PV} (h : PV.Lies w ⟨g, o, none⟩ x) (j : Nat) (hj : j < 7) : w.cell? ⟨g, o + j, none⟩ = some (x.cell j) := (congrArg w.cell? (show (⟨g, o + j, none⟩ : Addr) = Addr.add ⟨g, o, none⟩ j by simp [Addr.add])).trans (h j hj)
theorem PV.Lies.of7 {w : World} {g : Nat} {x : PV} (h0 : w.cell? ⟨g, 0, none⟩ = some (x.cell 0)) (h1 : w.cell? ⟨g, 1, none⟩ = some (x.cell 1)) (h2 : w.cell? ⟨g, 2, none⟩ = some (x.cell 2)) (h3 : w.cell? ⟨g, 3, none⟩ = some (x.cell 3)) (h4 : w.cell? ⟨g, 4, none⟩ = some (x.cell 4)) (h5 : w.cell? ⟨g, 5, none⟩ = some (x.cell 5)) (h6 : w.cell? ⟨g, 6, none⟩ = some (x.cell 6)) : PV.Lies w ⟨g, 0, none⟩ x := by
  intro j hj
  have hh : (Addr.add ⟨g, 0, none⟩ j : Addr) = ⟨g, j, none⟩ := by rw [Addr.add_lit, Nat.zero_add]
  rw [hh]
  have : j = 0 ∨ j = 1 ∨ j = 2 ∨ j = 3 ∨ j = 4 ∨ j = 5 ∨ j = 6 := by omega
  rcases this with rfl | rfl | rfl | rfl | rfl | rfl | rfl <;> assumption
theorem SPre.shape {w : World} {b : Nat} {vs : List PV} {outv v' : Value} {wr : World} (h : SPre w b vs outv v' wr) : ∃ q n c, v' = .slice q n c := by
  rcases h.row.2 with ⟨rfl, _⟩ | ⟨g, cap, cur, rfl, _⟩ <;> exact ⟨_, _, _, rfl⟩
theorem results_row_tmp {P : Program} {fn : Func} {p u : Tmp} {ty : TypeId} (h : fn.results = #[.cell p ty, .tmp u]) (tmps : Array Value) (w : World) (g : Nat) (t : TypeId) (cs : Array Value) (fr : Nat × Nat) (d : TypeDesc)
    (hp : tmps.getD p undef = .pointer (some ⟨g, 0, none⟩)) (hg : w.heap[g]? = some (.cells cs t fr))
    (hu : P.underlying ty = some d) (hd : (match d with | .struct _ | .array _ _ => true | _ => false) = true) (hi : (P.info? ty).map (·.size) = some cs.size) :
    (results fn tmps).run P w = .ok (.tuple #[.agg cs, tmps.getD u undef]) w := by
  rw [results_cell_tmp h, hp]
  simp [asAddr, run_loadVar_row w g t ty cs fr d hg hu hd hi, Result.andThen]
theorem below_cells {B : Nat} (b : Nat) (hb : B ≤ b) : ∀ (vs : List Value) (o : Nat) (w : World), Below B w (w.setCells b o vs)
  | [], _, w => Below.refl _ w
  | v :: vs, o, w => ((Below.refl B w).setCell (p := ⟨b, o, none⟩) hb v).trans (below_cells b hb vs (o + 1) _)
/-- How value.Set ends. -/
def SetEnds (w : World) (vs : List PV) (e : Ending) (w' : World) : Prop :=
  Below w.heap.size w w' ∧ ∃ outv, w'.ownsRow (w.heap.size + 2) 31 7 outv vs.length (flatPV vs) ∧
    e = .returned (.tuple #[.agg #[.int .i64 (if vs.length ≤ 8 then 5 else 0), .bool false, .int .i64 0, .string ⟨#[]⟩, .string ⟨#[]⟩, .string ⟨#[]⟩, if vs.length ≤ 8 then outv else .slice none 0 0], .int .i64 (if vs.length ≤ 8 then 0 else 4)])
theorem SInv.done {w : World} {b : Nat} {vs : List PV} {outv : Value} {wr : World} (h : SInv w b vs outv wr) (c0 c1 c2 c3 c4 c5 c6 : Value) :
    (wr.setCells b 0 [c0, c1, c2, c3, c4, c5, c6]).heap[b]? = some (.cells #[c0, c1, c2, c3, c4, c5, c6] 31 (0, 0)) ∧ Below b w (wr.setCells b 0 [c0, c1, c2, c3, c4, c5, c6]) ∧ (wr.setCells b 0 [c0, c1, c2, c3, c4, c5, c6]).ownsRow (b + 2) 31 7 outv vs.length (flatPV vs) := by
  refine ⟨?_, ?_, ?_⟩
  · have := setCells_heap b 31 (0, 0) [c0, c1, c2, c3, c4, c5, c6] 0 wr _ h.res (by show 0 + 7 ≤ 7; omega)
    simpa using this
  · exact h.below.trans (below_cells b (Nat.le_refl _) _ _ _)
  · refine ⟨h.row.1, ?_⟩
    rcases h.row.2 with h3 | ⟨g, cap, cur, e1, e2, e3, e4⟩
    · exact .inl h3
    · exact .inr ⟨g, cap, cur, e1, e2, (World.heap_setCells_other _ _ _ _ (lt_of_heap e3) (by omega)).trans e3, e4⟩
end Go.Proofs.Ytnjlggpidkbjcaa.GV
