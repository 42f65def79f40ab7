import Derived.Test.YtelibndkkokadaaGreatGB0
import Derived.Deep.DeepAppendWide
import Derived.Shelf.Spec.SlicesInsertGrow
import Derived.Deep.Upon
namespace Go.Proofs.YtelibndkkokadaaGreat.GI
open Go.RowKit Go.Proofs.YtelibndkkokadaaGreatW.PrintWords Go.Proofs.YtelibndkkokadaaGreatW.PrintLast Go.Proofs.YtelibndkkokadaaGreat.HandV Go.Proofs.YtelibndkkokadaaGreatW.PrintMore
open Go.Proofs.YtelibndkkokadaaGreat.GB
attribute [local go_sem] max2_int min2_int max_two min_two max_three min_three max_four min_four   -- for this text's walks alone
set_option linter.unusedVariables false
set_option linter.unusedSimpArgs false
-- IMPORT Derived.Deep.DeepAppendWide
-- IMPORT Derived.Shelf.Spec.SlicesInsertGrow
-- IMPORT Derived.Deep.Upon
theorem setCell_heap (w : World) (b o : Nat) (v : Value) (cur : List Value) (e : TypeId) (fz : Nat × Nat) (h : w.heap[b]? = some (.cells cur.toArray e fz)) :
    (w.setCell ⟨b, o, none⟩ v).heap[b]? = some (.cells (cur.set o v).toArray e fz) := by
  have hlt : b < w.heap.size := (Array.getElem?_eq_some_iff.1 h).1
  have hv : w.heap[b] = .cells cur.toArray e fz := (Array.getElem?_eq_some_iff.1 h).2
  unfold World.setCell
  rw [Array.getElem?_eq_getElem (by simpa using hlt), Array.getElem_modify]
  simp [hv]
theorem setCells_heap (b : Nat) (e : TypeId) (fz : Nat × Nat) : ∀ (vs : List Value) (o : Nat) (w : World) (cur : List Value), w.heap[b]? = some (.cells cur.toArray e fz) → o + vs.length ≤ cur.length →
    (w.setCells b o vs).heap[b]? = some (.cells (cur.take o ++ vs ++ cur.drop (o + vs.length)).toArray e fz)
  | [], o, w, cur, h, _ => by simpa [World.setCells] using h
  | v :: r, o, w, cur, h, hl => by
    have hl2 : o + (r.length + 1) ≤ cur.length := by simpa using hl
    have h1 := setCells_heap b e fz r (o + 1) _ _ (setCell_heap w b o v cur e fz h) (by rw [List.length_set]; omega)
    rw [World.setCells, h1]
    have e1 : (cur.set o v).take (o + 1) = cur.take o ++ [v] := by
      rw [List.take_succ_eq_append_getElem (by rw [List.length_set]; omega), List.take_set_of_le (Nat.le_refl o)]
      simp
    have e2 : (cur.set o v).drop (o + 1 + r.length) = cur.drop (o + (v :: r).length) := by
      rw [List.drop_set_of_lt (by omega), List.length_cons, Nat.add_assoc, Nat.add_comm 1]
    rw [e1, e2]
    simp
/-- What a row is when a piece is put in its midst, in two copies. -/
theorem ins_row (L xs news : List Value) (n7 i7 : Nat) (h : L.take n7 = xs) (hi : i7 ≤ n7) (hn : news.length = 4) (hL : n7 + 4 ≤ L.length) :
    ((((L.take (i7 + 4) ++ xs.drop i7 ++ L.drop (i7 + 4 + (n7 - i7))).take i7) ++ news ++ ((L.take (i7 + 4) ++ xs.drop i7 ++ L.drop (i7 + 4 + (n7 - i7))).drop (i7 + 4)))).take (n7 + 4) = xs.take i7 ++ news ++ xs.drop i7 := by
  have hx : xs.length = n7 := by rw [← h, List.length_take]; omega
  have e1 : (L.take (i7 + 4) ++ xs.drop i7 ++ L.drop (i7 + 4 + (n7 - i7))).take i7 = xs.take i7 := by
    rw [List.append_assoc, List.take_append_of_le_length (by rw [List.length_take]; omega), List.take_take, ← h, List.take_take]
    congr 1
    omega
  have e2 : (L.take (i7 + 4) ++ xs.drop i7 ++ L.drop (i7 + 4 + (n7 - i7))).drop (i7 + 4) = xs.drop i7 ++ L.drop (i7 + 4 + (n7 - i7)) := by
    rw [List.append_assoc]
    exact List.drop_left' (by rw [List.length_take]; omega)
  rw [e1, e2, ← List.append_assoc]
  exact List.take_left' (by rw [List.length_append, List.length_append, List.length_take, List.length_drop]; omega)
section
variable {P : Program}
theorem run_copy_wide (w : World) (dT sT ty elem : TypeId) (size b o dLen dCap : Nat) (a : Addr) (sLen sCap : Nat) (cs : List Value)
    (hu : P.underlying dT = some (.slice elem)) (hs : (P.info? elem).map (·.size) = some size) (hn : cs.length = Nat.min sLen dLen * size)
    (hsrc : ∀ j v, cs[j]? = some v → w.cell? (a.add j) = some v) (hc : ∀ j, j < cs.length → (w.cell? ⟨b, o + j, none⟩).isSome = true) (hf : ∀ j, j < cs.length → w.frozen? ⟨b, o + j, none⟩ = false) (h1 : ∀ v ∈ cs, v.oneCell' = true) :
    (Builtin.copy_ #[dT, sT] ty #[.slice (some ⟨b, o, none⟩) dLen dCap, .slice (some a) sLen sCap]).run P w = .ok (goInt (Nat.min sLen dLen)) (w.setCells b o cs) := by
  have hl := run_loadCells_list (P := P) w a cs hsrc
  have hst := run_storeCells_cells (P := P) b o cs 0 w (by simpa using hc) (by simpa using hf) h1
  cases hq : P.info? elem with
  | none => simp [hq] at hs
  | some i =>
    have hi : i.size = size := by simpa [hq] using hs
    rw [hn] at hl
    simp [Builtin.copy_, run_underlying hu, Builtin.lenOf, Builtin.firstCells, sizeOf, typeInfo, hq, hi, hl, hst]
end
theorem ins_row2 (R xs news : List Value) (n7 i7 : Nat) (hx : xs.length = n7) (h : R.take i7 = xs.take i7) (hi : i7 ≤ n7) (hn : news.length = 4) :
    (((R.take i7 ++ news ++ R.drop (i7 + 4)).take (i7 + 4)) ++ xs.drop i7 ++ ((R.take i7 ++ news ++ R.drop (i7 + 4)).drop (i7 + 4 + (n7 - i7)))).take (n7 + 4) = xs.take i7 ++ news ++ xs.drop i7 := by
  have e1 : (R.take i7 ++ news ++ R.drop (i7 + 4)).take (i7 + 4) = xs.take i7 ++ news := by
    rw [h]
    exact List.take_left' (by rw [List.length_append, List.length_take]; omega)
  rw [e1]
  exact List.take_left' (by rw [List.length_append, List.length_append, List.length_take, List.length_drop]; omega)
end Go.Proofs.YtelibndkkokadaaGreat.GI
