import Derived.Test.YtnjlggpidkbjcaaProg
import Derived.Below
import Derived.Deep.Draws
import Derived.Deep.AppendLies
import Derived.Maps.AppendAt
import Derived.OwnWalk
import Derived.Laws.BytesArg
import Derived.Laws.MakeOwn
import Derived.Laws.OwnMore
import Derived.Deep.OwnRows
import Derived.Tactics
import Derived.Lib.ConvBytes
import Derived.Laws.Slices
import Derived.WalkKit
import Derived.KernelRfl
import Derived.RowKit3
import Derived.Deep.LoopGhost
import Derived.Deep.QuietTactic
import Derived.BigQuiet
import Derived.WideLaws
import Derived.Deep.DeepCutAuto
import Derived.Deep.CutBlock
import Derived.Deep.RegionHeld3
import Derived.Laws.Rows
import Derived.Lib.AppendStr
import Derived.ArgAppend
import Derived.Laws.IdiomCopy
import Derived.OrdersHeld
import Derived.Laws.BitsLemmas
import Derived.RowKit
import Derived.Test.YtnjlggpidkbjcaaHandV
import Derived.Test.YtnjlggpidkbjcaaWWords
import Derived.Test.YtnjlggpidkbjcaaWLast
import Derived.Test.YtnjlggpidkbjcaaWTab
import Derived.Test.YtnjlggpidkbjcaaWFour
import Derived.Test.YtnjlggpidkbjcaaWQPut
import Derived.Test.YtnjlggpidkbjcaaWApart
import Derived.Test.YtnjlggpidkbjcaaWArr
import Derived.Test.YtnjlggpidkbjcaaWZeros
import Derived.Test.YtnjlggpidkbjcaaGV0
import Derived.Test.YtnjlggpidkbjcaaVInsA
import Derived.Test.YtnjlggpidkbjcaaVSrch
namespace Go.Proofs.Ytnjlggpidkbjcaa.GV
open Go.RowKit Go.Proofs.YtnjlggpidkbjcaaW.PrintWords Go.Proofs.YtnjlggpidkbjcaaW.PrintLast Go.Proofs.Ytnjlggpidkbjcaa.HandV Go.Proofs.YtnjlggpidkbjcaaW.PrintMore
attribute [local go_sem] max2_int min2_int max_two min_two max_three min_three max_four min_four   -- for this text's walks alone
/-- The cells of a row of plain values. -/
def flatPV (vs : List PV) : List Value := vs.flatMap fun x => [x.cell 0, x.cell 1, x.cell 2, x.cell 3, x.cell 4, x.cell 5, x.cell 6]
theorem flatPV_length (vs : List PV) : (flatPV vs).length = vs.length * 7 := by
  induction vs with
  | nil => rfl
  | cons x r ih => simp [flatPV] at ih ⊢; omega
theorem flatPV_append (a b : List PV) : flatPV (a ++ b) = flatPV a ++ flatPV b := by simp [flatPV]
theorem flatPV_take (vs : List PV) : ∀ i, (flatPV vs).take (i * 7) = flatPV (vs.take i) := by
  induction vs with
  | nil => intro i; simp [flatPV]
  | cons x r ih =>
    intro i
    cases i with
    | zero => simp [flatPV]
    | succ i =>
      have := ih i
      rw [show (i + 1) * 7 = i * 7 + 7 by omega]
      simp only [flatPV, List.flatMap_cons, List.take_succ_cons, List.cons_append, List.nil_append] at this ⊢
      rw [this]
theorem flatPV_drop (vs : List PV) : ∀ i, (flatPV vs).drop (i * 7) = flatPV (vs.drop i) := by
  induction vs with
  | nil => intro i; simp [flatPV]
  | cons x r ih =>
    intro i
    cases i with
    | zero => simp [flatPV]
    | succ i =>
      have := ih i
      rw [show (i + 1) * 7 = i * 7 + 7 by omega]
      simp only [flatPV, List.flatMap_cons, List.drop_succ_cons, List.cons_append, List.nil_append] at this ⊢
      rw [this]
theorem flatPV_at (vs : List PV) : ∀ (h : Nat) (x : PV), vs[h]? = some x → ∀ j, j < 7 → (flatPV vs)[h * 7 + j]? = some (x.cell j) := by
  induction vs with
  | nil => intro h x hx; simp at hx
  | cons y r ih =>
    intro h x hx j hj
    cases h with
    | zero =>
      simp at hx
      subst hx
      have : j = 0 ∨ j = 1 ∨ j = 2 ∨ j = 3 ∨ j = 4 ∨ j = 5 ∨ j = 6 := by omega
      rcases this with rfl | rfl | rfl | rfl | rfl | rfl | rfl <;> simp [flatPV]
    | succ h =>
      have := ih h x (by simpa using hx) j hj
      rw [show (h + 1) * 7 + j = (h * 7 + j) + 7 by omega]
      simpa [flatPV] using this
theorem PV.one (x : PV) (j : Nat) (hj : j < 7) : (x.cell j).oneCell' = true := by
  have : j = 0 ∨ j = 1 ∨ j = 2 ∨ j = 3 ∨ j = 4 ∨ j = 5 ∨ j = 6 := by omega
  rcases this with rfl | rfl | rfl | rfl | rfl | rfl | rfl <;> cases x <;> rfl
theorem flatPV_one (vs : List PV) : ∀ u ∈ flatPV vs, u.oneCell' = true := by
  intro u hu
  simp only [flatPV, List.mem_flatMap, List.mem_cons, List.not_mem_nil, or_false] at hu
  obtain ⟨x, _, h⟩ := hu
  rcases h with rfl | rfl | rfl | rfl | rfl | rfl | rfl
  · exact PV.one x 0 (by omega)
  · exact PV.one x 1 (by omega)
  · exact PV.one x 2 (by omega)
  · exact PV.one x 3 (by omega)
  · exact PV.one x 4 (by omega)
  · exact PV.one x 5 (by omega)
  · exact PV.one x 6 (by omega)
theorem PV.cell0 (x : PV) : x.cell 0 = .int .i64 x.kind := by cases x <;> rfl
/-- Where a value stands, or would, in a row. -/
def placeOf (vs : List PV) (y : PV) : Nat := searchF (fun h => match vs[h]? with | some x => !decide (x.cmp y < 0) | none => false) vs.length 0 vs.length
/-- A row with one value more, unless it has it. -/
def setIns (vs : List PV) (y : PV) : List PV :=
  match vs[placeOf vs y]? with
  | some x => if x.cmp y == 0 then vs else vs.take (placeOf vs y) ++ [y] ++ vs.drop (placeOf vs y)
  | none => vs.take (placeOf vs y) ++ [y] ++ vs.drop (placeOf vs y)
theorem searchF_le (p : Nat → Bool) : ∀ k a b, a ≤ b → searchF p k a b ≤ b := by
  intro k
  induction k with
  | zero => intro a b h; exact h
  | succ k ih =>
    intro a b h
    rw [searchF]
    by_cases hab : a < b
    · rw [if_pos hab]
      split
      · exact Nat.le_trans (ih _ _ (by omega)) (by omega)
      · exact ih _ _ (by omega)
    · rw [if_neg hab]; exact h
theorem placeOf_le (vs : List PV) (y : PV) : placeOf vs y ≤ vs.length := searchF_le _ _ _ _ (Nat.zero_le _)
theorem setIns_length (vs : List PV) (y : PV) : (setIns vs y).length ≤ vs.length + 1 := by
  unfold setIns
  have := placeOf_le vs y
  split
  · split
    · omega
    · simp; omega
  · simp; omega
theorem setIns_kind (K : Int) (vs : List PV) (y : PV) (h : ∀ x ∈ vs, x.kind = K) (hy : y.kind = K) : ∀ x ∈ setIns vs y, x.kind = K := by
  have hh : ∀ x ∈ vs.take (placeOf vs y) ++ [y] ++ vs.drop (placeOf vs y), x.kind = K := by
    intro x hx
    simp only [List.mem_append, List.mem_singleton] at hx
    rcases hx with (hx | rfl) | hx
    · exact h x (List.mem_of_mem_take hx)
    · exact hy
    · exact h x (List.mem_of_mem_drop hx)
  unfold setIns
  split
  · split
    · exact h
    · exact hh
  · exact hh
/-- The invariant of value.Set's loop. -/
structure SInv (w : World) (b : Nat) (vs : List PV) (outv : Value) (wr : World) : Prop where
  below : Below b w wr
  res : wr.heap[b]? = some (.cells #[.int .i64 0, .bool false, .int .i64 0, .string ⟨#[]⟩, .string ⟨#[]⟩, .string ⟨#[]⟩, .slice none 0 0] 31 (0, 0))
  out : wr.heap[b + 1]? = some (.cells #[outv] 29 (0, 0))
  row : wr.ownsRow (b + 2) 31 7 outv vs.length (flatPV vs)
theorem lt_of_heap {w : World} {k : Nat} {o : Obj} (h : w.heap[k]? = some o) : k < w.heap.size := (Array.getElem?_eq_some_iff.1 h).1
theorem SInv.mono {w : World} {b : Nat} {vs : List PV} {outv : Value} {wr wr' : World} (h : SInv w b vs outv wr) (hb : Below wr.heap.size wr wr') : SInv w b vs outv wr' := by
  have h1 := lt_of_heap h.res
  have h2 := lt_of_heap h.out
  refine ⟨h.below.trans (hb.mono (by omega)), (hb.block _ h1).trans h.res, (hb.block _ h2).trans h.out, ?_⟩
  refine ⟨h.row.1, ?_⟩
  rcases h.row.2 with h3 | ⟨g, cap, cur, e1, e2, e3, e4⟩
  · exact .inl h3
  · exact .inr ⟨g, cap, cur, e1, e2, (hb.block _ (lt_of_heap e3)).trans e3, e4⟩
theorem SInv.outCell {w : World} {b : Nat} {vs : List PV} {outv : Value} {wr : World} (h : SInv w b vs outv wr) : wr.cell? ⟨b + 1, 0, none⟩ = some outv := by
  unfold World.cell?
  rw [h.out]
  rfl
theorem SInv.outFrozen {w : World} {b : Nat} {vs : List PV} {outv : Value} {wr : World} (h : SInv w b vs outv wr) : wr.frozen? ⟨b + 1, 0, none⟩ = false := by
  unfold World.frozen?
  rw [h.out]
  rfl
/-- What the row of the elements is: none, or a block of their cells. -/
theorem SInv.cases {w : World} {b : Nat} {vs : List PV} {outv : Value} {wr : World} (h : SInv w b vs outv wr) : (outv = .slice none 0 0 ∧ vs = []) ∨ ∃ g c, outv = .slice (some ⟨g, 0, none⟩) vs.length c ∧ b + 2 ≤ g ∧ ∀ i x, vs[i]? = some x → PV.Lies wr ⟨g, i * 7, none⟩ x := by
  rcases h.row.2 with ⟨h3, h4⟩ | ⟨g, cap, cur, e1, e2, e3, e4⟩
  · exact .inl ⟨h3, List.eq_nil_of_length_eq_zero h4⟩
  · refine .inr ⟨g, cap, e1, e2, fun i x hx j hj => ?_⟩
    have hc := World.ownsRow.cells (g := g) h.row (by rw [e1]; rfl) (i * 7 + j) _ (flatPV_at vs i x hx j hj)
    rw [Addr.add_lit] at hc ⊢
    rwa [Nat.zero_add] at hc
theorem PV.Lies.below {w w' : World} {a : Addr} {x : PV} (h : PV.Lies w a x) (hb : Below w.heap.size w w') : PV.Lies w' a x := fun j hj => by
  have h1 := h j hj
  exact (hb.cell (World.block_lt_of_cell? _ _ h1)).trans h1
/-- sort.Search, asked by value.Set. -/
theorem search_set (w0 : World) (b : Nat) (vs : List PV) (y : PV) (hn : vs.length ≤ 1000) (hk : ∀ x ∈ vs, x.kind = y.kind) (outv : Value) (bv : Nat) (wr w : World) (hi : SInv w0 b vs outv wr) (hb : Below wr.heap.size wr w) (hy : PV.Lies w ⟨bv, 0, none⟩ y) :
    Calls Try.prog 33 #[.int .i64 (vs.length : Int), .func (.func 34) #[] #[.pointer (some ⟨b + 1, 0, none⟩), .pointer (some ⟨bv, 0, none⟩)]] w fun e w' => e = .returned (.int .i64 ((placeOf vs y : Nat) : Int)) ∧ Below w.heap.size w w' := by
  refine search34 vs.length hn _ (b + 1) bv w (fun W hW h hh => ?_)
  have hi2 := (hi.mono hb).mono hW
  rcases hi2.cases with ⟨_, rfl⟩ | ⟨g, c, e1, _, hl⟩
  · simp at hh
  · have hx := List.getElem?_eq_getElem hh
    have ho := hi2.outCell
    rw [e1] at ho
    rw [hx]
    exact set_closure vs[h] y (hk _ (List.getElem_mem hh)) (h : Int) vs.length c g (b + 1) bv W (by omega) (by omega) ho (by simpa using hl h _ hx) (hy.below hW)
end Go.Proofs.Ytnjlggpidkbjcaa.GV
